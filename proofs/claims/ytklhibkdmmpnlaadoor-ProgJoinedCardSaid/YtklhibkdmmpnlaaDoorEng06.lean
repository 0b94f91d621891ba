/- What the seat's proofs lean on, part 6: the executor over abstract values, its soundness, and what the program's functions answer (Rst3, Prg4, Prg5, Rst5, Rst4, Prg6, Eng32, Prg7). -/
import Derived.Test.YtklhibkdmmpnlaaDoorEng05
import Derived.TacticsIn
set_option linter.all false
set_option linter.unusedVariables false
set_option linter.unusedSimpArgs false
set_option maxRecDepth 100000
set_option linter.unusedVariables false
set_option linter.unusedSimpArgs false
namespace Go.Eng
open Go Go.Proofs
def rowsW (ws : List (List UInt8)) : List (List D) := ws.map fun w => [str w]
theorem rowsW_sz {ws : List (List UInt8)} : ∀ r ∈ rowsW ws, r.length = 1 := by
  intro r hr; unfold rowsW at hr; obtain ⟨x, _, rfl⟩ := List.mem_map.1 hr; rfl
theorem rowsW_app (ws : List (List UInt8)) (w : List UInt8) : rowsW (ws ++ [w]) = rowsW ws ++ [[str w]] := by unfold rowsW; simp
theorem rowsW_len (ws : List (List UInt8)) : (rowsW ws).length = ws.length := by unfold rowsW; simp
set_option maxHeartbeats 1000000 in
theorem ref20_Split (s : List UInt8) (c : UInt8) (hs : s.length ≤ 100000) : Fn Tryd.prog 22 [.d (str s), .d (.int .u8 c.toNat)] (.d (texts (splitL c s))) := by
  refine Fn_of tt_ok Tryd.func22 rfl (by decide) Tryd.ntmps22 rfl ?_
  refine W_loop (fun μ st => ∃ (k fr : Nat) (out : List (List UInt8)), k ≤ s.length + 1 ∧ μ = s.length + 1 - k ∧ fr ≤ k ∧ out.length ≤ k ∧ (k ≤ s.length → splitL c s = out ++ splitL c (s.drop fr) ∧ c ∉ (s.drop fr).take (k - fr)) ∧ (k = s.length + 1 → out = splitL c s) ∧
      st = ⟨[(0, .d (str s)), (1, .d (.int .u8 c.toNat)), (5, AccV 0 1 (rowsW out)), (6, .i fr), (7, .i k)], 35, [AccB (rowsW out)], 0, []⟩) (s.length + 1)
    ⟨⟨[(0, .d (str s)), (1, .d (.int .u8 c.toNat)), (5, .nsl), (6, .i 0), (7, .i 0)], 35, [none], 0, []⟩, ?_, 0, 0, [], by omega, by omega, by omega, by simp, fun _ => by simp, fun h => by omega, by simp [rowsW, AccV_nil, AccB_nil]⟩ ?_
  · exact Wk.trans Wk_pad (Wk_env (by repeat (first | exact trivial | refine ⟨rfl, ?_⟩)))
  rintro μ s1 ⟨k, fr, out, hk, rfl, hfr, hol, hI, hE, rfl⟩
  have hsz : (⟨s.toArray⟩ : ByteArray).size = s.length := str_size s
  refine W_run tt_ok ?_
  by_cases hlt : k ≤ s.length
  · obtain ⟨h1, h2⟩ := hI hlt
    have hc1 : (k : Int) ≤ ((⟨s.toArray⟩ : ByteArray).size : Int) := by rw [hsz]; omega
    have e1 : D.str ((⟨s.toArray⟩ : ByteArray).extract (fr : Int).toNat (k : Int).toNat) = str ((s.drop fr).take (k - fr)) := by rw [str_extract]; rfl
    have hra := rowsW_app out ((s.drop fr).take (k - fr))
    have ha := Acc_app (b := 0) (sz := 1) (rows := rowsW out) (new := [[D.str ((⟨s.toArray⟩ : ByteArray).extract (fr : Int).toNat (k : Int).toNat)]]) (by simp)
    by_cases hend : k = s.length
    · have hc2 : (((k : Int)) == ((⟨s.toArray⟩ : ByteArray).size : Int)) = true := by rw [hsz, hend]; simp
      have hsp : splitL c (s.drop fr) = [(s.drop fr).take (k - fr)] := by
        rw [List.take_of_length_le (by simp; omega)] at h2 ⊢
        exact split_plain c _ h2
      have hI' : k + 1 ≤ s.length → splitL c s = (out ++ [(s.drop fr).take (k - fr)]) ++ splitL c (s.drop (k + 1)) ∧ c ∉ (s.drop (k + 1)).take (k + 1 - (k + 1)) := fun h => by omega
      have hE' : k + 1 = s.length + 1 → out ++ [(s.drop fr).take (k - fr)] = splitL c s := fun _ => by rw [h1, hsp]
      repeat' ((conv => whnf); (first
        | (refine Br_true (decide_eq_true hc1) ?_)
        | (refine Br_true hc2 ?_)
        | (refine Br_true (by assumption) ?_)
        | (refine Br_false (by assumption) ?_)
        | (refine Br_true (beqT (by omega)) ?_)
        | (refine Br_false (beqF (by omega)) ?_)
        | (refine Br_beq (fun h => ?_) (fun h => ?_))
        | (refine Br_true (bneT (by omega)) ?_)
        | (refine Br_false (bneF (by omega)) ?_)
        | (refine Br_bne (fun h => ?_) (fun h => ?_))
        | (refine Br_true (decide_eq_true (by omega)) ?_)
        | (refine Br_false (decide_eq_false (by omega)) ?_)
        | (refine Br_dec (fun h => ?_) (fun h => ?_))
        | (refine Br_not ?_)
        | (refine Len_in (fun hlen => ?_))
        | (refine Br_split (fun h => ?_) (fun h => ?_))
        | (refine fin0 rfl ?_)
        | (refine ArK_in (wrap_i64 (by omega) (by omega)) ?_)
        | (refine force_in ?_)))
      refine Need_in ⟨by omega, by omega, by rw [hsz]; omega⟩ ?_
      repeat' ((conv => whnf); (first
        | (refine Br_true (by assumption) ?_)
        | (refine Br_false (by assumption) ?_)
        | (refine Br_true (beqT (by omega)) ?_)
        | (refine Br_false (beqF (by omega)) ?_)
        | (refine Br_beq (fun h => ?_) (fun h => ?_))
        | (refine Br_true (bneT (by omega)) ?_)
        | (refine Br_false (bneF (by omega)) ?_)
        | (refine Br_bne (fun h => ?_) (fun h => ?_))
        | (refine Br_true (decide_eq_true (by omega)) ?_)
        | (refine Br_false (decide_eq_false (by omega)) ?_)
        | (refine Br_dec (fun h => ?_) (fun h => ?_))
        | (refine Br_not ?_)
        | (refine Len_in (fun hlen => ?_))
        | (refine Br_split (fun h => ?_) (fun h => ?_))
        | (refine fin0 rfl ?_)
        | (refine ArK_in (wrap_i64 (by omega) (by omega)) ?_)
        | (refine force_in ?_)))
      refine Ch_r ?_
      conv => whnf
      refine App_acc (rowsW out) [[D.str ((⟨s.toArray⟩ : ByteArray).extract (fr : Int).toNat (k : Int).toNat)]] rfl rfl rfl rfl (by simp) rowsW_sz (by intro r hr; simp at hr; subst hr; rfl) (by rw [rowsW_len]; simp only [List.length_cons, List.length_nil]; omega) (Nat.le_of_ble_eq_true rfl) ?_
      repeat' ((conv => whnf); (first
        | (refine Br_true (by assumption) ?_)
        | (refine Br_false (by assumption) ?_)
        | (refine Br_true (beqT (by omega)) ?_)
        | (refine Br_false (beqF (by omega)) ?_)
        | (refine Br_beq (fun h => ?_) (fun h => ?_))
        | (refine Br_true (bneT (by omega)) ?_)
        | (refine Br_false (bneF (by omega)) ?_)
        | (refine Br_bne (fun h => ?_) (fun h => ?_))
        | (refine Br_true (decide_eq_true (by omega)) ?_)
        | (refine Br_false (decide_eq_false (by omega)) ?_)
        | (refine Br_dec (fun h => ?_) (fun h => ?_))
        | (refine Br_not ?_)
        | (refine Len_in (fun hlen => ?_))
        | (refine Back_in ⟨[(0, .d (str s)), (1, .d (.int .u8 c.toNat)), (5, .msl 0 0 ((rowsW out).length + 1) ((rowsW out).length + 1) 1), (6, .i (k + 1 : Nat)), (7, .i (k + 1 : Nat))], 35, [some (.row ((rowsW out ++ [[D.str ((⟨s.toArray⟩ : ByteArray).extract (fr : Int).toNat (k : Int).toNat)]]).flatten.map .d))], 0, []⟩ _ ⟨k + 1, k + 1, out ++ [(s.drop fr).take (k - fr)], by omega, rfl, by omega, by simp; omega, hI', hE', ?_⟩ (by omega) (Wk_ren [1] rfl rfl ⟨⟨by rw [renB_row]; rfl, lowB_row _ _⟩, trivial⟩ (by repeat (first | exact trivial | refine ⟨⟨rfl, rfl⟩, ?_⟩)) (by decide) (by omega)))
        | (refine Br_split (fun h => ?_) (fun h => ?_))
        | (refine fin0 rfl ?_)
        | (refine ArK_in (wrap_i64 (by omega) (by omega)) ?_)
        | (refine force_in ?_)))
      rw [hra, ← e1, ha.1, ha.2]
      rfl
    · have hlt2 : k < s.length := by omega
      have hc2 : (((k : Int)) == ((⟨s.toArray⟩ : ByteArray).size : Int)) = false := by rw [hsz]; simp; omega
      have hby : (⟨s.toArray⟩ : ByteArray).data.toList[(k : Int).toNat]? = some s[k] := by simp [hlt2]
      have hdr : s.drop fr = (s.drop fr).take (k - fr) ++ s[k] :: s.drop (k + 1) := by
        have := List.take_append_drop (k - fr) (s.drop fr)
        rw [List.drop_drop, show fr + (k - fr) = k by omega, List.drop_eq_getElem_cons hlt2] at this
        exact this.symm
      by_cases hq : s[k] = c
      · have hc3 : (((s[k].toNat : Nat) : Int) == ((c.toNat : Nat) : Int)) = true := by rw [hq]; simp
        have hI' : k + 1 ≤ s.length → splitL c s = (out ++ [(s.drop fr).take (k - fr)]) ++ splitL c (s.drop (k + 1)) ∧ c ∉ (s.drop (k + 1)).take (k + 1 - (k + 1)) := fun h => by
          refine ⟨?_, by simp⟩
          rw [h1, hdr, hq, split_app c _ _ h2, List.append_assoc, ← hq, ← hdr]
          rfl
        have hE' : k + 1 = s.length + 1 → out ++ [(s.drop fr).take (k - fr)] = splitL c s := fun h => by omega
        repeat' ((conv => whnf); (first
          | (refine Br_true (decide_eq_true hc1) ?_)
          | (refine Br_false hc2 ?_)
          | (refine Br_true hc3 ?_)
          | (refine Br_true (by assumption) ?_)
          | (refine Br_false (by assumption) ?_)
          | (refine Br_true (beqT (by omega)) ?_)
          | (refine Br_false (beqF (by omega)) ?_)
          | (refine Br_beq (fun h => ?_) (fun h => ?_))
          | (refine Br_true (bneT (by omega)) ?_)
          | (refine Br_false (bneF (by omega)) ?_)
          | (refine Br_bne (fun h => ?_) (fun h => ?_))
          | (refine Br_true (decide_eq_true (by omega)) ?_)
          | (refine Br_false (decide_eq_false (by omega)) ?_)
          | (refine Br_dec (fun h => ?_) (fun h => ?_))
          | (refine Br_not ?_)
          | (refine Len_in (fun hlen => ?_))
          | (refine Byte_in _ hby (by omega) ?_)
          | (refine Br_split (fun h => ?_) (fun h => ?_))
          | (refine fin0 rfl ?_)
          | (refine ArK_in (wrap_i64 (by omega) (by omega)) ?_)
          | (refine force_in ?_)))
        refine Need_in ⟨by omega, by omega, by rw [hsz]; omega⟩ ?_
        repeat' ((conv => whnf); (first
          | (refine Br_true (by assumption) ?_)
          | (refine Br_false (by assumption) ?_)
          | (refine Br_true (beqT (by omega)) ?_)
          | (refine Br_false (beqF (by omega)) ?_)
          | (refine Br_beq (fun h => ?_) (fun h => ?_))
          | (refine Br_true (bneT (by omega)) ?_)
          | (refine Br_false (bneF (by omega)) ?_)
          | (refine Br_bne (fun h => ?_) (fun h => ?_))
          | (refine Br_true (decide_eq_true (by omega)) ?_)
          | (refine Br_false (decide_eq_false (by omega)) ?_)
          | (refine Br_dec (fun h => ?_) (fun h => ?_))
          | (refine Br_not ?_)
          | (refine Len_in (fun hlen => ?_))
          | (refine Br_split (fun h => ?_) (fun h => ?_))
          | (refine fin0 rfl ?_)
          | (refine ArK_in (wrap_i64 (by omega) (by omega)) ?_)
          | (refine force_in ?_)))
        refine Ch_r ?_
        conv => whnf
        refine App_acc (rowsW out) [[D.str ((⟨s.toArray⟩ : ByteArray).extract (fr : Int).toNat (k : Int).toNat)]] rfl rfl rfl rfl (by simp) rowsW_sz (by intro r hr; simp at hr; subst hr; rfl) (by rw [rowsW_len]; simp only [List.length_cons, List.length_nil]; omega) (Nat.le_of_ble_eq_true rfl) ?_
        repeat' ((conv => whnf); (first
          | (refine Br_true (by assumption) ?_)
          | (refine Br_false (by assumption) ?_)
          | (refine Br_true (beqT (by omega)) ?_)
          | (refine Br_false (beqF (by omega)) ?_)
          | (refine Br_beq (fun h => ?_) (fun h => ?_))
          | (refine Br_true (bneT (by omega)) ?_)
          | (refine Br_false (bneF (by omega)) ?_)
          | (refine Br_bne (fun h => ?_) (fun h => ?_))
          | (refine Br_true (decide_eq_true (by omega)) ?_)
          | (refine Br_false (decide_eq_false (by omega)) ?_)
          | (refine Br_dec (fun h => ?_) (fun h => ?_))
          | (refine Br_not ?_)
          | (refine Len_in (fun hlen => ?_))
          | (refine Back_in ⟨[(0, .d (str s)), (1, .d (.int .u8 c.toNat)), (5, .msl 0 0 ((rowsW out).length + 1) ((rowsW out).length + 1) 1), (6, .i (k + 1 : Nat)), (7, .i (k + 1 : Nat))], 35, [some (.row ((rowsW out ++ [[D.str ((⟨s.toArray⟩ : ByteArray).extract (fr : Int).toNat (k : Int).toNat)]]).flatten.map .d))], 0, []⟩ _ ⟨k + 1, k + 1, out ++ [(s.drop fr).take (k - fr)], by omega, rfl, by omega, by simp; omega, hI', hE', ?_⟩ (by omega) (Wk_ren [1] rfl rfl ⟨⟨by rw [renB_row]; rfl, lowB_row _ _⟩, trivial⟩ (by repeat (first | exact trivial | refine ⟨⟨rfl, rfl⟩, ?_⟩)) (by decide) (by omega)))
          | (refine Br_split (fun h => ?_) (fun h => ?_))
          | (refine fin0 rfl ?_)
          | (refine ArK_in (wrap_i64 (by omega) (by omega)) ?_)
          | (refine force_in ?_)))
        rw [hra, ← e1, ha.1, ha.2]
        rfl
      · have hc3 : (((s[k].toNat : Nat) : Int) == ((c.toNat : Nat) : Int)) = false := by
          rw [beq_eq_false_iff_ne]
          intro e
          exact hq (UInt8.toNat_inj.1 (by omega))
        have hI' : k + 1 ≤ s.length → splitL c s = out ++ splitL c (s.drop fr) ∧ c ∉ (s.drop fr).take (k + 1 - fr) := fun h => by
          refine ⟨h1, ?_⟩
          rw [hdr, List.take_append, List.take_of_length_le (by simp; omega)]
          simp only [List.mem_append, not_or]
          refine ⟨h2, ?_⟩
          have e2 : k + 1 - fr - ((s.drop fr).take (k - fr)).length = 1 := by simp; omega
          rw [e2, List.take_succ_cons, List.take_zero, List.mem_singleton]
          exact fun e => hq e.symm
        have hE' : k + 1 = s.length + 1 → out = splitL c s := fun h => by omega
        repeat' ((conv => whnf); (first
          | (refine Br_true (decide_eq_true hc1) ?_)
          | (refine Br_false hc2 ?_)
          | (refine Br_false hc3 ?_)
          | (refine Br_true (by assumption) ?_)
          | (refine Br_false (by assumption) ?_)
          | (refine Br_true (beqT (by omega)) ?_)
          | (refine Br_false (beqF (by omega)) ?_)
          | (refine Br_beq (fun h => ?_) (fun h => ?_))
          | (refine Br_true (bneT (by omega)) ?_)
          | (refine Br_false (bneF (by omega)) ?_)
          | (refine Br_bne (fun h => ?_) (fun h => ?_))
          | (refine Br_true (decide_eq_true (by omega)) ?_)
          | (refine Br_false (decide_eq_false (by omega)) ?_)
          | (refine Br_dec (fun h => ?_) (fun h => ?_))
          | (refine Br_not ?_)
          | (refine Len_in (fun hlen => ?_))
          | (refine Byte_in _ hby (by omega) ?_)
          | (refine Back_in _ _ ⟨k + 1, fr, out, by omega, rfl, by omega, by omega, hI', hE', rfl⟩ (by omega) (Wk_env (by repeat (first | exact trivial | refine ⟨rfl, ?_⟩))))
          | (refine Br_split (fun h => ?_) (fun h => ?_))
          | (refine fin0 rfl ?_)
          | (refine ArK_in (wrap_i64 (by omega) (by omega)) ?_)
          | (refine force_in ?_)))
  · have hk2 : k = s.length + 1 := by omega
    have hc1 : ¬ (k : Int) ≤ ((⟨s.toArray⟩ : ByteArray).size : Int) := by rw [hsz]; omega
    have ho := hE hk2
    subst ho
    repeat' ((conv => whnf); (first
      | (refine Br_false (decide_eq_false hc1) ?_)
      | (refine Br_true (by assumption) ?_)
      | (refine Br_false (by assumption) ?_)
      | (refine Br_true (beqT (by omega)) ?_)
      | (refine Br_false (beqF (by omega)) ?_)
      | (refine Br_beq (fun h => ?_) (fun h => ?_))
      | (refine Br_true (bneT (by omega)) ?_)
      | (refine Br_false (bneF (by omega)) ?_)
      | (refine Br_bne (fun h => ?_) (fun h => ?_))
      | (refine Br_true (decide_eq_true (by omega)) ?_)
      | (refine Br_false (decide_eq_false (by omega)) ?_)
      | (refine Br_dec (fun h => ?_) (fun h => ?_))
      | (refine Br_not ?_)
      | (refine Len_in (fun hlen => ?_))
      | (refine finW (Fin_acc (rowsW (splitL c s)) rfl rowsW_sz (Nat.zero_le _) rfl trivial) ⟨rfl, rfl⟩)
      | (refine Br_split (fun h => ?_) (fun h => ?_))
      | (refine fin0 rfl ?_)
      | (refine ArK_in (wrap_i64 (by omega) (by omega)) ?_)
      | (refine force_in ?_)))
end Go.Eng
set_option maxRecDepth 100000
set_option linter.unusedVariables false
set_option linter.unusedSimpArgs false
namespace Go.Eng
open Go Go.Proofs
theorem read1 (n w0 : List UInt8) (m : Int) (W : List (List UInt8)) (hW : (W.map fun l => [str l])[(0 : Int).toNat]? = some [str w0]) (r0 : List D) :
    Tri Tryd.prog 37 [.agg [.d (str n), .i m], .ptr 1 0] [some (.row (r0.map .d)), some (.row [.d (texts W)]), some (.row kindsL)] fun v H' => v = .b (n == w0) ∧ H' = [some (.row (r0.map .d)), some (.row [.d (texts W)]), some (.row kindsL)] := by
  refine Tri_of (m := 3) tt_ok Tryd.func37 rfl (by decide) Tryd.ntmps37 (by rfl) rfl ?_
  unfold texts
  repeat' ((conv => whnf); (first
    | (refine Br_true (by assumption) ?_)
    | (refine Br_false (by assumption) ?_)
    | (refine Br_true (beqT (by omega)) ?_)
    | (refine Br_false (beqF (by omega)) ?_)
    | (refine Br_beq (fun h => ?_) (fun h => ?_))
    | (refine Br_true (bneT (by omega)) ?_)
    | (refine Br_false (bneF (by omega)) ?_)
    | (refine Br_bne (fun h => ?_) (fun h => ?_))
    | (refine Br_true (decide_eq_true (by omega)) ?_)
    | (refine Br_false (decide_eq_false (by omega)) ?_)
    | (refine Br_dec (fun h => ?_) (fun h => ?_))
    | (refine Br_not ?_)
    | (refine Len_in (fun hlen => ?_))
    | (refine W_draw 0 tt_ok mixed (by kernel_rfl) ?_)
    | (refine Idx_in _ hW (by omega) rfl ?_)
    | (refine finT rfl rfl ⟨⟨by rw [renB_row]; rfl, lowB_row _ _⟩, ⟨rfl, rfl⟩, ⟨by rw [kinds_ren]; rfl, kinds_lowB _⟩, trivial⟩ ?_)
    | (refine Br_split (fun h => ?_) (fun h => ?_))
    | (refine fin0 rfl ?_)
    | (refine ArK_in (wrap_i64 (by omega) (by omega)) ?_)
    | (refine force_in ?_)))
  simp only [AV.d.injEq, D.bool.injEq, str_toList]
theorem index_kind (w0 : List UInt8) (W : List (List UInt8)) (hW : (W.map fun l => [str l])[(0 : Int).toNat]? = some [str w0]) (r0 : List D) :
    Tri Tryd.prog 36 [.msl 2 0 15 15 2, .clos (.func 37) [] [.ptr 1 0]] [some (.row (r0.map .d)), some (.row [.d (texts W)]), some (.row kindsL)] fun v H' => v = .i (ix (fun k => nameL k == w0) (List.range 15)) ∧ H' = [some (.row (r0.map .d)), some (.row [.d (texts W)]), some (.row kindsL)] := by
  refine Tri_of (m := 3) tt_ok Tryd.func36 rfl (by decide) Tryd.ntmps36 (by rfl) rfl ?_
  repeat' ((conv => whnf); (first
    | (refine Br_true (by assumption) ?_)
    | (refine Br_false (by assumption) ?_)
    | (refine Br_true (beqT (by omega)) ?_)
    | (refine Br_false (beqF (by omega)) ?_)
    | (refine Br_beq (fun h => ?_) (fun h => ?_))
    | (refine Br_true (bneT (by omega)) ?_)
    | (refine Br_false (bneF (by omega)) ?_)
    | (refine Br_bne (fun h => ?_) (fun h => ?_))
    | (refine Br_true (decide_eq_true (by omega)) ?_)
    | (refine Br_false (decide_eq_false (by omega)) ?_)
    | (refine Br_dec (fun h => ?_) (fun h => ?_))
    | (refine Br_not ?_)
    | (refine Len_in (fun hlen => ?_))
    | (refine Br_split (fun h => ?_) (fun h => ?_))
    | (refine fin0 rfl ?_)
    | (refine ArK_in (wrap_i64 (by omega) (by omega)) ?_)
    | (refine force_in ?_)))
  refine W_loop (fun μ s => ∃ (k : Nat), k ≤ 15 ∧ μ = 15 - k ∧ (∀ j (h : j < (List.range 15).length), j < k → (fun k => nameL k == w0) (List.range 15)[j] = false) ∧
      s = ⟨[(0, .msl 2 0 15 15 2), (1, .clos (.func 37) [] [.ptr 1 0]), (7, .i 15), (8, .i k)], 19, [some (.row (r0.map .d)), some (.row [.d (texts W)]), some (.row kindsL)], 3, []⟩) 15
    ⟨_, ?_, 0, by simp, by simp, by simp, rfl⟩ ?_
  · exact Wk_env (by repeat (first | exact trivial | refine ⟨rfl, ?_⟩))
  rintro μ s1 ⟨k, hk, rfl, hno, rfl⟩
  refine W_run tt_ok ?_
  have hd := ix_drop (fun k => nameL k == w0) (List.range 15) k hno (by rw [List.length_range]; exact hk)
  refine Br_dec (fun h => ?_) (fun h => ?_)
  · have h : k < 15 := by omega
    have hsub : sub kindsL (0 + ((k : Int)).toNat * 2) 2 = [AV.d (str (nameL k)), AV.i (manyN k)] := by
      rw [Nat.zero_add, Int.toNat_natCast]; exact kinds_sub h
    have hb : 0 ≤ (k : Int) ∧ (k : Int) < ((15 : Nat) : Int) := by omega
    rw [List.drop_eq_getElem_cons (by simpa using h)] at hd
    simp only [List.getElem_range, ix] at hd
    have h1 := read1 (nameL k) w0 (manyN k) W hW r0
    have hbl : (0 + ((k : Int)).toNat * 2 + 2).ble kindsL.length = true := Nat.ble_eq_true_of_le (by rw [kinds_len]; omega)
    repeat' ((conv => whnf); (first
      | (refine Br_true (decide_eq_true hb) ?_)
      | (refine Br_true hbl ?_)
      | (refine Br_true (by assumption) ?_)
      | (refine Br_false (by assumption) ?_)
      | (refine Br_true (beqT (by omega)) ?_)
      | (refine Br_false (beqF (by omega)) ?_)
      | (refine Br_beq (fun h => ?_) (fun h => ?_))
      | (refine Br_true (bneT (by omega)) ?_)
      | (refine Br_false (bneF (by omega)) ?_)
      | (refine Br_bne (fun h => ?_) (fun h => ?_))
      | (refine Br_true (decide_eq_true (by omega)) ?_)
      | (refine Br_false (decide_eq_false (by omega)) ?_)
      | (refine Br_dec (fun h => ?_) (fun h => ?_))
      | (refine Br_not ?_)
      | (refine Len_in (fun hlen => ?_))
      | (refine forceL_in hsub ?_)
      | (refine Br_split (fun h => ?_) (fun h => ?_))
      | (refine fin0 rfl ?_)
      | (refine ArK_in (wrap_i64 (by omega) (by omega)) ?_)
      | (refine force_in ?_)))
    refine Tri.use h1 ?_
    refine Br_split (fun hq => ?_) (fun hq => ?_)
    · repeat' ((conv => whnf); (first
      | (refine Br_true (by assumption) ?_)
      | (refine Br_false (by assumption) ?_)
      | (refine Br_true (beqT (by omega)) ?_)
      | (refine Br_false (beqF (by omega)) ?_)
      | (refine Br_beq (fun h => ?_) (fun h => ?_))
      | (refine Br_true (bneT (by omega)) ?_)
      | (refine Br_false (bneF (by omega)) ?_)
      | (refine Br_bne (fun h => ?_) (fun h => ?_))
      | (refine Br_true (decide_eq_true (by omega)) ?_)
      | (refine Br_false (decide_eq_false (by omega)) ?_)
      | (refine Br_dec (fun h => ?_) (fun h => ?_))
      | (refine Br_not ?_)
      | (refine Len_in (fun hlen => ?_))
      | (refine finR ?_)
      | (refine Br_split (fun h => ?_) (fun h => ?_))
      | (refine fin0 rfl ?_)
      | (refine ArK_in (wrap_i64 (by omega) (by omega)) ?_)
      | (refine force_in ?_)))
      rw [hd, hq]; simp
      done
    · repeat' ((conv => whnf); (first
      | (refine Br_true (by assumption) ?_)
      | (refine Br_false (by assumption) ?_)
      | (refine Br_true (beqT (by omega)) ?_)
      | (refine Br_false (beqF (by omega)) ?_)
      | (refine Br_beq (fun h => ?_) (fun h => ?_))
      | (refine Br_true (bneT (by omega)) ?_)
      | (refine Br_false (bneF (by omega)) ?_)
      | (refine Br_bne (fun h => ?_) (fun h => ?_))
      | (refine Br_true (decide_eq_true (by omega)) ?_)
      | (refine Br_false (decide_eq_false (by omega)) ?_)
      | (refine Br_dec (fun h => ?_) (fun h => ?_))
      | (refine Br_not ?_)
      | (refine Len_in (fun hlen => ?_))
      | (refine Back_in _ _ ⟨k + 1, by omega, rfl, ?_, rfl⟩ (by omega) (Wk_env (by repeat (first | exact trivial | refine ⟨rfl, ?_⟩))))
      | (refine Br_split (fun h => ?_) (fun h => ?_))
      | (refine fin0 rfl ?_)
      | (refine ArK_in (wrap_i64 (by omega) (by omega)) ?_)
      | (refine force_in ?_)))
      intro j hj hjk
      rcases Nat.lt_succ_iff_lt_or_eq.1 hjk with h1 | h1
      · exact hno j hj h1
      · subst h1; simpa using hq
  · have h : k = 15 := by omega
    subst h
    repeat' ((conv => whnf); (first
      | (refine Br_true (by assumption) ?_)
      | (refine Br_false (by assumption) ?_)
      | (refine Br_true (beqT (by omega)) ?_)
      | (refine Br_false (beqF (by omega)) ?_)
      | (refine Br_beq (fun h => ?_) (fun h => ?_))
      | (refine Br_true (bneT (by omega)) ?_)
      | (refine Br_false (bneF (by omega)) ?_)
      | (refine Br_bne (fun h => ?_) (fun h => ?_))
      | (refine Br_true (decide_eq_true (by omega)) ?_)
      | (refine Br_false (decide_eq_false (by omega)) ?_)
      | (refine Br_dec (fun h => ?_) (fun h => ?_))
      | (refine Br_not ?_)
      | (refine Len_in (fun hlen => ?_))
      | (refine finR ?_)
      | (refine Br_split (fun h => ?_) (fun h => ?_))
      | (refine fin0 rfl ?_)
      | (refine ArK_in (wrap_i64 (by omega) (by omega)) ?_)
      | (refine force_in ?_)))
    rw [List.drop_eq_nil_of_le (by simp)] at hd
    rw [hd]
    rfl
end Go.Eng
set_option maxRecDepth 100000
set_option linter.unusedVariables false
set_option linter.unusedSimpArgs false
namespace Go.Eng
open Go Go.Proofs
theorem texts_at {W : List (List UInt8)} {i : Nat} (h : i < W.length) {n : Int} (hn : n = i) : (W.map fun l => [str l])[n.toNat]? = some [str (wordAt W i)] := by
  subst hn
  unfold wordAt
  simp [List.getD_eq_getElem?_getD, h]
set_option maxHeartbeats 2000000 in
theorem prog_read (s : List UInt8) (hs : s.length ≤ 1000000) : Fn Tryd.prog 21 [.d (str s)] (.tup [aggD (readV s).1.cs, .b (readV s).2]) := by
  refine Fn_of tt_ok Tryd.func21 rfl (by decide) Tryd.ntmps21 rfl ?_
  have hsp := split_c s 32 (by omega)
  unfold readV
  have hne := splitL_ne 32 s
  generalize splitL 32 s = W at *
  have hl0 : 0 < W.length := List.length_pos_iff.2 hne
  have hik := index_kind (wordAt W 0) W (texts_at hl0 rfl) [.i 0, .i 0, .i 0]
  have hk := kindOf_lt (wordAt W 0)
  rw [show ix (fun k => nameL k == wordAt W 0) (List.range 15) = kindOf (wordAt W 0) from rfl] at hik
  have hg : goodW W = (decide (0 ≤ kindOf (wordAt W 0)) && decide ((W.length : Int) = 1 + manyN (kindOf (wordAt W 0)).toNat)) := by unfold goodW; rfl
  unfold readS
  generalize hf : kindOf (wordAt W 0) = f at *
  have hk1 : kindsL.length.beq 30 = true := by rw [kinds_len]; rfl
  have hk2 : (0 + kindsL.length).ble 30 = true := by rw [kinds_len]; rfl
  have hk3 : (0 + 15 * 2).ble (splice ((List.replicate 15 [AV.d (D.str ⟨#[]⟩), AV.i 0]).flatten) 0 kindsL).length = true := by rw [splice_full _ _ (by rw [kinds_len]; rfl), kinds_len]; rfl
  repeat' ((conv => whnf); (first
    | (refine Br_true hk1 ?_)
    | (refine Br_true hk2 ?_)
    | (refine Br_true hk3 ?_)
    | (refine Br_true (by assumption) ?_)
    | (refine Br_false (by assumption) ?_)
    | (refine Br_true (beqT (by omega)) ?_)
    | (refine Br_false (beqF (by omega)) ?_)
    | (refine Br_beq (fun h => ?_) (fun h => ?_))
    | (refine Br_true (bneT (by omega)) ?_)
    | (refine Br_false (bneF (by omega)) ?_)
    | (refine Br_bne (fun h => ?_) (fun h => ?_))
    | (refine Br_true (decide_eq_true (by omega)) ?_)
    | (refine Br_false (decide_eq_false (by omega)) ?_)
    | (refine Br_dec (fun h => ?_) (fun h => ?_))
    | (refine Br_not ?_)
    | (refine Len_in (fun hlen => ?_))
    | (refine Fn.use (hsp) rfl rfl ?_)
    | (refine CallF_in (hsp) rfl rfl ?_)
    | (refine Fn.use prog_kinds rfl kinds_low ?_)
    | (refine Br_split (fun h => ?_) (fun h => ?_))
    | (refine fin0 rfl ?_)
    | (refine ArK_in (wrap_i64 (by omega) (by omega)) ?_)
    | (refine force_in ?_)))
  refine Need_in (by unfold LB; decide) ?_
  conv => whnf
  refine Tri.useE hik (congrArg (fun l => [some (Blk.row [.i 0, .i 0, .i 0]), some (Blk.row [.d (texts W)]), some (Blk.row l)]) (splice_full kindsL ((List.replicate 15 [AV.d (D.str ⟨#[]⟩), AV.i 0]).flatten) (by rw [kinds_len]; rfl))) ?_
  by_cases h0 : f < 0
  · have e : goodW W = false := by rw [hg]; simp; omega
    rw [e]
    repeat' ((conv => whnf); (first
      | (refine Br_true (by assumption) ?_)
      | (refine Br_false (by assumption) ?_)
      | (refine Br_true (beqT (by omega)) ?_)
      | (refine Br_false (beqF (by omega)) ?_)
      | (refine Br_beq (fun h => ?_) (fun h => ?_))
      | (refine Br_true (bneT (by omega)) ?_)
      | (refine Br_false (bneF (by omega)) ?_)
      | (refine Br_bne (fun h => ?_) (fun h => ?_))
      | (refine Br_true (decide_eq_true (by omega)) ?_)
      | (refine Br_false (decide_eq_false (by omega)) ?_)
      | (refine Br_dec (fun h => ?_) (fun h => ?_))
      | (refine Br_not ?_)
      | (refine Len_in (fun hlen => ?_))
      | (refine W_draw 0 tt_ok mixed (by kernel_rfl) ?_)
      | (refine Br_split (fun h => ?_) (fun h => ?_))
      | (refine fin0 rfl ?_)
      | (refine ArK_in (wrap_i64 (by omega) (by omega)) ?_)
      | (refine force_in ?_)))
    rfl
  obtain ⟨k, rfl⟩ : ∃ k : Nat, f = k := ⟨f.toNat, by omega⟩
  have hk15 : k < 15 := by omega
  have hb : 0 ≤ (k : Int) ∧ (k : Int) < ((15 : Nat) : Int) := by omega
  have hat : kindsL[0 + (k : Int).toNat * 2 + 1]? = some (AV.i (manyN k)) := by rw [Nat.zero_add, Int.toNat_natCast]; exact kinds_at1 hk15
  have hm := many_bd k
  rw [Int.toNat_natCast] at hg
  generalize hmm : manyN k = m at *
  by_cases h1 : (W.length : Int) = 1 + m
  rotate_left
  · have e : goodW W = false := by rw [hg]; simp [h1]
    rw [e]
    repeat' ((conv => whnf); (first
      | (refine Br_true (decide_eq_true hb) ?_)
      | (refine Br_true (by assumption) ?_)
      | (refine Br_false (by assumption) ?_)
      | (refine Br_true (beqT (by omega)) ?_)
      | (refine Br_false (beqF (by omega)) ?_)
      | (refine Br_beq (fun h => ?_) (fun h => ?_))
      | (refine Br_true (bneT (by omega)) ?_)
      | (refine Br_false (bneF (by omega)) ?_)
      | (refine Br_bne (fun h => ?_) (fun h => ?_))
      | (refine Br_true (decide_eq_true (by omega)) ?_)
      | (refine Br_false (decide_eq_false (by omega)) ?_)
      | (refine Br_dec (fun h => ?_) (fun h => ?_))
      | (refine Br_not ?_)
      | (refine Len_in (fun hlen => ?_))
      | (refine W_draw 0 tt_ok mixed (by kernel_rfl) ?_)
      | (refine Cell_in _ hat (force_in ?_))
      | (refine Len_in (fun hlen => ?_))
      | (refine Br_split (fun h => ?_) (fun h => ?_))
      | (refine fin0 rfl ?_)
      | (refine ArK_in (wrap_i64 (by omega) (by omega)) ?_)
      | (refine force_in ?_)))
    · rfl
    · exact absurd (by simpa using h) h1
  have e : goodW W = true := by rw [hg]; simp [h1]
  rw [e, if_pos rfl]
  repeat' ((conv => whnf); (first
    | (refine Br_true (decide_eq_true hb) ?_)
    | (refine Br_true (by assumption) ?_)
    | (refine Br_false (by assumption) ?_)
    | (refine Br_true (beqT (by omega)) ?_)
    | (refine Br_false (beqF (by omega)) ?_)
    | (refine Br_beq (fun h => ?_) (fun h => ?_))
    | (refine Br_true (bneT (by omega)) ?_)
    | (refine Br_false (bneF (by omega)) ?_)
    | (refine Br_bne (fun h => ?_) (fun h => ?_))
    | (refine Br_true (decide_eq_true (by omega)) ?_)
    | (refine Br_false (decide_eq_false (by omega)) ?_)
    | (refine Br_dec (fun h => ?_) (fun h => ?_))
    | (refine Br_not ?_)
    | (refine Len_in (fun hlen => ?_))
    | (refine W_draw 0 tt_ok mixed (by kernel_rfl) ?_)
    | (refine Cell_in _ hat (force_in ?_))
    | (refine Len_in (fun hlen => ?_))
    | (refine Br_split (fun h => ?_) (fun h => ?_))
    | (refine fin0 rfl ?_)
    | (refine ArK_in (wrap_i64 (by omega) (by omega)) ?_)
    | (refine force_in ?_)))
  · exact absurd (by simpa using h1) h
  have ea : numAt W 1 = if 1 < W.length then atoiV (wordAt W 1) else 0 := rfl
  have eb : numAt W 2 = if 2 < W.length then atoiV (wordAt W 2) else 0 := rfl
  generalize numAt W 1 = a at *
  generalize numAt W 2 = b at *
  refine W_loop (fun μ st => ∃ j : Nat, j ≤ 2 ∧ μ = 2 - j ∧ st = ⟨[(0, .d (str s)), (2, .ptr 0 0), (4, .ptr 1 0), (6, .ptr 3 0), (33, .agg [.ptr 3 1, .ptr 3 2]), (34, .i j)], 64, [some (.row [.i 0, .i 0, .i 0]), some (.row [.d (texts W)]), some (.row kindsL), some (.row [.i k, .i (if 1 ≤ j then a else 0), .i (if 2 ≤ j then b else 0)])], 0, []⟩) 2
    ⟨_, ?_, 0, by omega, rfl, rfl⟩ ?_
  · exact Wk_env (by repeat (first | exact trivial | refine ⟨rfl, ?_⟩))
  rintro μ s1 ⟨j, hj, rfl, rfl⟩
  refine W_run tt_ok ?_
  match j, hj with
  | 0, _ =>
    by_cases hw : ((0 : Nat) : Int) + 1 < ((List.map (fun l => [str l]) W).length : Int)
    · have hw1 : 1 < W.length := by simp at hw; omega
      rw [if_pos hw1] at ea
      have hat := atoi_any (wordAt W 1)
      rw [← ea] at hat
      repeat' ((conv => whnf); (first
        | (refine Br_true (decide_eq_true hw) ?_)
        | (refine Br_true (by assumption) ?_)
        | (refine Br_false (by assumption) ?_)
        | (refine Br_true (beqT (by omega)) ?_)
        | (refine Br_false (beqF (by omega)) ?_)
        | (refine Br_beq (fun h => ?_) (fun h => ?_))
        | (refine Br_true (bneT (by omega)) ?_)
        | (refine Br_false (bneF (by omega)) ?_)
        | (refine Br_bne (fun h => ?_) (fun h => ?_))
        | (refine Br_true (decide_eq_true (by omega)) ?_)
        | (refine Br_false (decide_eq_false (by omega)) ?_)
        | (refine Br_dec (fun h => ?_) (fun h => ?_))
        | (refine Br_not ?_)
        | (refine Len_in (fun hlen => ?_))
        | (refine Len_in (fun hlen => ?_))
        | (refine Idx_in _ (texts_at hw1 (by rfl)) (by omega) rfl ?_)
        | (refine Fn.use (hat) rfl rfl ?_)
        | (refine CallF_in (hat) rfl rfl ?_)
        | (refine Back_in _ _ ⟨1, by omega, rfl, rfl⟩ (by omega) (Wk_env (by repeat (first | exact trivial | refine ⟨rfl, ?_⟩))))
        | (refine Br_split (fun h => ?_) (fun h => ?_))
        | (refine fin0 rfl ?_)
        | (refine ArK_in (wrap_i64 (by omega) (by omega)) ?_)
        | (refine force_in ?_)))
    · have hw1 : ¬ 1 < W.length := by simp at hw; omega
      rw [if_neg hw1] at ea
      subst ea
      repeat' ((conv => whnf); (first
        | (refine Br_false (decide_eq_false hw) ?_)
        | (refine Br_true (by assumption) ?_)
        | (refine Br_false (by assumption) ?_)
        | (refine Br_true (beqT (by omega)) ?_)
        | (refine Br_false (beqF (by omega)) ?_)
        | (refine Br_beq (fun h => ?_) (fun h => ?_))
        | (refine Br_true (bneT (by omega)) ?_)
        | (refine Br_false (bneF (by omega)) ?_)
        | (refine Br_bne (fun h => ?_) (fun h => ?_))
        | (refine Br_true (decide_eq_true (by omega)) ?_)
        | (refine Br_false (decide_eq_false (by omega)) ?_)
        | (refine Br_dec (fun h => ?_) (fun h => ?_))
        | (refine Br_not ?_)
        | (refine Len_in (fun hlen => ?_))
        | (refine Len_in (fun hlen => ?_))
        | (refine Back_in _ _ ⟨1, by omega, rfl, rfl⟩ (by omega) (Wk_env (by repeat (first | exact trivial | refine ⟨rfl, ?_⟩))))
        | (refine Br_split (fun h => ?_) (fun h => ?_))
        | (refine fin0 rfl ?_)
        | (refine ArK_in (wrap_i64 (by omega) (by omega)) ?_)
        | (refine force_in ?_)))
  | 1, _ =>
    by_cases hw : ((1 : Nat) : Int) + 1 < ((List.map (fun l => [str l]) W).length : Int)
    · have hw1 : 2 < W.length := by simp at hw; omega
      rw [if_pos hw1] at eb
      have hat := atoi_any (wordAt W 2)
      rw [← eb] at hat
      repeat' ((conv => whnf); (first
        | (refine Br_true (decide_eq_true hw) ?_)
        | (refine Br_true (by assumption) ?_)
        | (refine Br_false (by assumption) ?_)
        | (refine Br_true (beqT (by omega)) ?_)
        | (refine Br_false (beqF (by omega)) ?_)
        | (refine Br_beq (fun h => ?_) (fun h => ?_))
        | (refine Br_true (bneT (by omega)) ?_)
        | (refine Br_false (bneF (by omega)) ?_)
        | (refine Br_bne (fun h => ?_) (fun h => ?_))
        | (refine Br_true (decide_eq_true (by omega)) ?_)
        | (refine Br_false (decide_eq_false (by omega)) ?_)
        | (refine Br_dec (fun h => ?_) (fun h => ?_))
        | (refine Br_not ?_)
        | (refine Len_in (fun hlen => ?_))
        | (refine Len_in (fun hlen => ?_))
        | (refine Idx_in _ (texts_at hw1 (by rfl)) (by omega) rfl ?_)
        | (refine Fn.use (hat) rfl rfl ?_)
        | (refine CallF_in (hat) rfl rfl ?_)
        | (refine Back_in _ _ ⟨2, by omega, rfl, rfl⟩ (by omega) (Wk_env (by repeat (first | exact trivial | refine ⟨rfl, ?_⟩))))
        | (refine Br_split (fun h => ?_) (fun h => ?_))
        | (refine fin0 rfl ?_)
        | (refine ArK_in (wrap_i64 (by omega) (by omega)) ?_)
        | (refine force_in ?_)))
    · have hw1 : ¬ 2 < W.length := by simp at hw; omega
      rw [if_neg hw1] at eb
      subst eb
      repeat' ((conv => whnf); (first
        | (refine Br_false (decide_eq_false hw) ?_)
        | (refine Br_true (by assumption) ?_)
        | (refine Br_false (by assumption) ?_)
        | (refine Br_true (beqT (by omega)) ?_)
        | (refine Br_false (beqF (by omega)) ?_)
        | (refine Br_beq (fun h => ?_) (fun h => ?_))
        | (refine Br_true (bneT (by omega)) ?_)
        | (refine Br_false (bneF (by omega)) ?_)
        | (refine Br_bne (fun h => ?_) (fun h => ?_))
        | (refine Br_true (decide_eq_true (by omega)) ?_)
        | (refine Br_false (decide_eq_false (by omega)) ?_)
        | (refine Br_dec (fun h => ?_) (fun h => ?_))
        | (refine Br_not ?_)
        | (refine Len_in (fun hlen => ?_))
        | (refine Len_in (fun hlen => ?_))
        | (refine Back_in _ _ ⟨2, by omega, rfl, rfl⟩ (by omega) (Wk_env (by repeat (first | exact trivial | refine ⟨rfl, ?_⟩))))
        | (refine Br_split (fun h => ?_) (fun h => ?_))
        | (refine fin0 rfl ?_)
        | (refine ArK_in (wrap_i64 (by omega) (by omega)) ?_)
        | (refine force_in ?_)))
  | 2, _ =>
    have hmay := step_may ⟨k, a, b⟩
    cases hsb : stepB ⟨k, a, b⟩ <;> rw [hsb] at hmay
    · repeat' ((conv => whnf); (first
      | (refine Br_true (by assumption) ?_)
      | (refine Br_false (by assumption) ?_)
      | (refine Br_true (beqT (by omega)) ?_)
      | (refine Br_false (beqF (by omega)) ?_)
      | (refine Br_beq (fun h => ?_) (fun h => ?_))
      | (refine Br_true (bneT (by omega)) ?_)
      | (refine Br_false (bneF (by omega)) ?_)
      | (refine Br_bne (fun h => ?_) (fun h => ?_))
      | (refine Br_true (decide_eq_true (by omega)) ?_)
      | (refine Br_false (decide_eq_false (by omega)) ?_)
      | (refine Br_dec (fun h => ?_) (fun h => ?_))
      | (refine Br_not ?_)
      | (refine Len_in (fun hlen => ?_))
      | (refine W_draw 0 tt_ok mixed (by kernel_rfl) ?_)
      | (refine Fn.use (hmay) rfl rfl ?_)
      | (refine CallF_in (hmay) rfl rfl ?_)
      | (refine Br_split (fun h => ?_) (fun h => ?_))
      | (refine fin0 rfl ?_)
      | (refine ArK_in (wrap_i64 (by omega) (by omega)) ?_)
      | (refine force_in ?_)))
      rfl
    · have htx := step_text ⟨k, a, b⟩ hsb
      repeat' ((conv => whnf); (first
        | (refine Br_true (by assumption) ?_)
        | (refine Br_false (by assumption) ?_)
        | (refine Br_true (beqT (by omega)) ?_)
        | (refine Br_false (beqF (by omega)) ?_)
        | (refine Br_beq (fun h => ?_) (fun h => ?_))
        | (refine Br_true (bneT (by omega)) ?_)
        | (refine Br_false (bneF (by omega)) ?_)
        | (refine Br_bne (fun h => ?_) (fun h => ?_))
        | (refine Br_true (decide_eq_true (by omega)) ?_)
        | (refine Br_false (decide_eq_false (by omega)) ?_)
        | (refine Br_dec (fun h => ?_) (fun h => ?_))
        | (refine Br_not ?_)
        | (refine Len_in (fun hlen => ?_))
        | (refine W_draw 0 tt_ok mixed (by kernel_rfl) ?_)
        | (refine Fn.use (hmay) rfl rfl ?_)
        | (refine CallF_in (hmay) rfl rfl ?_)
        | (refine Fn.use (htx) rfl rfl ?_)
        | (refine CallF_in (htx) rfl rfl ?_)
        | (refine Br_split (fun h => ?_) (fun h => ?_))
        | (refine fin0 rfl ?_)
        | (refine ArK_in (wrap_i64 (by omega) (by omega)) ?_)
        | (refine force_in ?_)))
      rw [str_toList, str_toList]
      rfl
end Go.Eng
set_option maxRecDepth 100000
set_option linter.unusedVariables false
set_option linter.unusedSimpArgs false
namespace Go.Eng
open Go Go.Proofs
set_option maxHeartbeats 4000000 in
theorem ref20_one (s : List UInt8) (hs : s.length ≤ 100000) : Fn Tryd.prog 23 [.d (str s)] (.tup [aggD (oneV s).1.cs, .b (oneV s).2]) := by
  refine Fn_of tt_ok Tryd.func23 rfl (by decide) Tryd.ntmps23 rfl ?_
  have hsp := ref20_Split s 32 hs
  have hne := splitL_ne 32 s
  unfold oneV
  generalize splitL 32 s = W at *
  have hl0 : 0 < W.length := List.length_pos_iff.2 hne
  have h0 := texts_at (n := 0) hl0 rfl
  have hg : goodW W = (decide (0 ≤ kindOf (wordAt W 0)) && decide ((W.length : Int) = 1 + manyN (kindOf (wordAt W 0)).toNat)) := by unfold goodW; rfl
  have hkl := kindOf_lt (wordAt W 0)
  have hWl : (List.map (fun l => [str l]) W).length = W.length := by simp
  repeat' ((conv => whnf); (first
    | (refine Br_true (by assumption) ?_)
    | (refine Br_false (by assumption) ?_)
    | (refine Br_true (beqT (by omega)) ?_)
    | (refine Br_false (beqF (by omega)) ?_)
    | (refine Br_beq (fun h => ?_) (fun h => ?_))
    | (refine Br_true (bneT (by omega)) ?_)
    | (refine Br_false (bneF (by omega)) ?_)
    | (refine Br_bne (fun h => ?_) (fun h => ?_))
    | (refine Br_true (decide_eq_true (by omega)) ?_)
    | (refine Br_false (decide_eq_false (by omega)) ?_)
    | (refine Br_dec (fun h => ?_) (fun h => ?_))
    | (refine Br_not ?_)
    | (refine Len_in (fun hlen => ?_))
    | (refine Fn.use (hsp) rfl rfl ?_)
    | (refine CallF_in (hsp) rfl rfl ?_)
    | (refine Br_split (fun h => ?_) (fun h => ?_))
    | (refine fin0 rfl ?_)
    | (refine ArK_in (wrap_i64 (by omega) (by omega)) ?_)
    | (refine force_in ?_)))
  refine W_loop (fun μ st => ∃ (k : Nat), k ≤ 15 ∧ μ = 15 - k ∧ (∀ j : Nat, j < k → ¬ (nameL j = wordAt W 0 ∧ (W.length : Int) = 1 + manyN j)) ∧
      st = ⟨[(2, .ptr 0 0), (4, .d (texts W)), (5, .i k)], 49, [some (.row [.i 0, .i 0, .i 0])], 0, []⟩) 15
    ⟨_, ?_, 0, by simp, by simp, by simp, rfl⟩ ?_
  · exact Wk_env (by repeat (first | exact trivial | refine ⟨rfl, ?_⟩))
  rintro μ s1 ⟨k, hk, rfl, hno, rfl⟩
  refine W_run tt_ok ?_
  refine Br_dec (fun h => ?_) (fun h => ?_)
  · have h : k < 15 := by omega
    have hnm := ref20_Name (k : Int)
    have hmy := ref20_many (k : Int)
    rw [manyV_eq (by omega), Int.toNat_natCast] at hmy
    rw [show nameV (k : Int) = nameL k by unfold nameV; rw [if_pos (by omega), Int.toNat_natCast]] at hnm
    have hcase : ((⟨(nameL k).toArray⟩ : ByteArray).toList == (⟨(wordAt W 0).toArray⟩ : ByteArray).toList) = (nameL k == wordAt W 0) := by rw [str_toList, str_toList]
    have hkk := (name_all ⟨k, h⟩).1
    have hno' : ¬ (nameL k = wordAt W 0 ∧ (W.length : Int) = 1 + manyN k) → ∀ j : Nat, j < k + 1 → ¬ (nameL j = wordAt W 0 ∧ (W.length : Int) = 1 + manyN j) := fun hq j hj => by
      rcases Nat.lt_succ_iff_lt_or_eq.1 hj with h1 | h1
      · exact hno j h1
      · subst h1; exact hq
    have hm := many_bd k
    by_cases hq : nameL k = wordAt W 0
    · have hc1 : ((⟨(nameL k).toArray⟩ : ByteArray).toList == (⟨(wordAt W 0).toArray⟩ : ByteArray).toList) = true := by rw [hcase, hq]; simp
      have hc1' : (!((⟨(nameL k).toArray⟩ : ByteArray).toList == (⟨(wordAt W 0).toArray⟩ : ByteArray).toList)) = false := by rw [hc1]; rfl
      have hkW : kindOf (wordAt W 0) = (k : Int) := by rw [← hq]; exact hkk
      rw [hkW, Int.toNat_natCast] at hg
      have hx : oneX W = ⟨k, if 1 ≤ manyN k then numV (wordAt W 1) else 0, if 2 ≤ manyN k then numV (wordAt W 2) else 0⟩ := by unfold oneX; rw [hkW, Int.toNat_natCast]
      rw [hx]
      generalize nameL k = N at *
      generalize hmm : manyN k = m at *
      by_cases hlen : (W.length : Int) = 1 + m
      · have e : goodW W = true := by rw [hg]; simp [hlen]
        rw [e, if_pos rfl]
        have hc2 : (((List.map (fun l => [str l]) W).length : Int) == 1 + m) = true := by rw [hWl, hlen]; simp
        have hn1 := ref20_number (wordAt W 1)
        have hn2 := ref20_number (wordAt W 2)
        generalize numV (wordAt W 1) = a at *
        generalize numV (wordAt W 2) = b at *
        rcases (by omega : m = 0 ∨ m = 1 ∨ m = 2) with rfl | rfl | rfl
        · have hst := ref20_step ⟨k, 0, 0⟩
          repeat' ((conv => whnf); (first
            | (refine Br_true hc1 ?_)
            | (refine Br_false hc1' ?_)
            | (refine Br_true hc2 ?_)
            | (refine Br_true (by assumption) ?_)
            | (refine Br_false (by assumption) ?_)
            | (refine Br_true (beqT (by omega)) ?_)
            | (refine Br_false (beqF (by omega)) ?_)
            | (refine Br_beq (fun h => ?_) (fun h => ?_))
            | (refine Br_true (bneT (by omega)) ?_)
            | (refine Br_false (bneF (by omega)) ?_)
            | (refine Br_bne (fun h => ?_) (fun h => ?_))
            | (refine Br_true (decide_eq_true (by omega)) ?_)
            | (refine Br_false (decide_eq_false (by omega)) ?_)
            | (refine Br_dec (fun h => ?_) (fun h => ?_))
            | (refine Br_not ?_)
            | (refine Len_in (fun hlen => ?_))
            | (refine Idx_in _ h0 (by omega) rfl ?_)
            | (refine W_draw 0 tt_ok mixed (by kernel_rfl) ?_)
            | (refine Fn.use (hnm) rfl rfl ?_)
            | (refine CallF_in (hnm) rfl rfl ?_)
            | (refine Fn.use (hmy) rfl rfl ?_)
            | (refine CallF_in (hmy) rfl rfl ?_)
            | (refine Fn.use (hst) rfl rfl ?_)
            | (refine CallF_in (hst) rfl rfl ?_)
            | (refine Len_in (fun hlen => ?_))
            | (refine Br_split (fun h => ?_) (fun h => ?_))
            | (refine fin0 rfl ?_)
            | (refine ArK_in (wrap_i64 (by omega) (by omega)) ?_)
            | (refine force_in ?_)))
          rfl
        · have hst := ref20_step ⟨k, a, 0⟩
          have h1 := texts_at (W := W) (i := 1) (n := 1) (by omega) rfl
          repeat' ((conv => whnf); (first
            | (refine Br_true hc1 ?_)
            | (refine Br_false hc1' ?_)
            | (refine Br_true hc2 ?_)
            | (refine Br_true (by assumption) ?_)
            | (refine Br_false (by assumption) ?_)
            | (refine Br_true (beqT (by omega)) ?_)
            | (refine Br_false (beqF (by omega)) ?_)
            | (refine Br_beq (fun h => ?_) (fun h => ?_))
            | (refine Br_true (bneT (by omega)) ?_)
            | (refine Br_false (bneF (by omega)) ?_)
            | (refine Br_bne (fun h => ?_) (fun h => ?_))
            | (refine Br_true (decide_eq_true (by omega)) ?_)
            | (refine Br_false (decide_eq_false (by omega)) ?_)
            | (refine Br_dec (fun h => ?_) (fun h => ?_))
            | (refine Br_not ?_)
            | (refine Len_in (fun hlen => ?_))
            | (refine Idx_in _ h0 (by omega) rfl ?_)
            | (refine Idx_in _ h1 (by omega) rfl ?_)
            | (refine W_draw 0 tt_ok mixed (by kernel_rfl) ?_)
            | (refine Fn.use (hnm) rfl rfl ?_)
            | (refine CallF_in (hnm) rfl rfl ?_)
            | (refine Fn.use (hmy) rfl rfl ?_)
            | (refine CallF_in (hmy) rfl rfl ?_)
            | (refine Fn.use (hst) rfl rfl ?_)
            | (refine CallF_in (hst) rfl rfl ?_)
            | (refine Fn.use (hn1) rfl rfl ?_)
            | (refine CallF_in (hn1) rfl rfl ?_)
            | (refine Len_in (fun hlen => ?_))
            | (refine Br_split (fun h => ?_) (fun h => ?_))
            | (refine fin0 rfl ?_)
            | (refine ArK_in (wrap_i64 (by omega) (by omega)) ?_)
            | (refine force_in ?_)))
          rfl
        · have hst := ref20_step ⟨k, a, b⟩
          have h1 := texts_at (W := W) (i := 1) (n := 1) (by omega) rfl
          have h2 := texts_at (W := W) (i := 2) (n := 2) (by omega) rfl
          repeat' ((conv => whnf); (first
            | (refine Br_true hc1 ?_)
            | (refine Br_false hc1' ?_)
            | (refine Br_true hc2 ?_)
            | (refine Br_true (by assumption) ?_)
            | (refine Br_false (by assumption) ?_)
            | (refine Br_true (beqT (by omega)) ?_)
            | (refine Br_false (beqF (by omega)) ?_)
            | (refine Br_beq (fun h => ?_) (fun h => ?_))
            | (refine Br_true (bneT (by omega)) ?_)
            | (refine Br_false (bneF (by omega)) ?_)
            | (refine Br_bne (fun h => ?_) (fun h => ?_))
            | (refine Br_true (decide_eq_true (by omega)) ?_)
            | (refine Br_false (decide_eq_false (by omega)) ?_)
            | (refine Br_dec (fun h => ?_) (fun h => ?_))
            | (refine Br_not ?_)
            | (refine Len_in (fun hlen => ?_))
            | (refine Idx_in _ h0 (by omega) rfl ?_)
            | (refine Idx_in _ h1 (by omega) rfl ?_)
            | (refine Idx_in _ h2 (by omega) rfl ?_)
            | (refine W_draw 0 tt_ok mixed (by kernel_rfl) ?_)
            | (refine Fn.use (hnm) rfl rfl ?_)
            | (refine CallF_in (hnm) rfl rfl ?_)
            | (refine Fn.use (hmy) rfl rfl ?_)
            | (refine CallF_in (hmy) rfl rfl ?_)
            | (refine Fn.use (hst) rfl rfl ?_)
            | (refine CallF_in (hst) rfl rfl ?_)
            | (refine Fn.use (hn1) rfl rfl ?_)
            | (refine CallF_in (hn1) rfl rfl ?_)
            | (refine Fn.use (hn2) rfl rfl ?_)
            | (refine CallF_in (hn2) rfl rfl ?_)
            | (refine Len_in (fun hlen => ?_))
            | (refine Br_split (fun h => ?_) (fun h => ?_))
            | (refine fin0 rfl ?_)
            | (refine ArK_in (wrap_i64 (by omega) (by omega)) ?_)
            | (refine force_in ?_)))
          rfl
      · have hc2 : (((List.map (fun l => [str l]) W).length : Int) == 1 + m) = false := by rw [hWl]; simpa using hlen
        repeat' ((conv => whnf); (first
          | (refine Br_true hc1 ?_)
          | (refine Br_false hc1' ?_)
          | (refine Br_false hc2 ?_)
          | (refine Br_true (by assumption) ?_)
          | (refine Br_false (by assumption) ?_)
          | (refine Br_true (beqT (by omega)) ?_)
          | (refine Br_false (beqF (by omega)) ?_)
          | (refine Br_beq (fun h => ?_) (fun h => ?_))
          | (refine Br_true (bneT (by omega)) ?_)
          | (refine Br_false (bneF (by omega)) ?_)
          | (refine Br_bne (fun h => ?_) (fun h => ?_))
          | (refine Br_true (decide_eq_true (by omega)) ?_)
          | (refine Br_false (decide_eq_false (by omega)) ?_)
          | (refine Br_dec (fun h => ?_) (fun h => ?_))
          | (refine Br_not ?_)
          | (refine Len_in (fun hlen => ?_))
          | (refine Idx_in _ h0 (by omega) rfl ?_)
          | (refine W_draw 0 tt_ok mixed (by kernel_rfl) ?_)
          | (refine Fn.use (hnm) rfl rfl ?_)
          | (refine CallF_in (hnm) rfl rfl ?_)
          | (refine Fn.use (hmy) rfl rfl ?_)
          | (refine CallF_in (hmy) rfl rfl ?_)
          | (refine Len_in (fun hlen => ?_))
          | (refine Back_in _ _ ⟨k + 1, by omega, rfl, hno' (fun hh => hlen hh.2), rfl⟩ (by omega) (Wk_env (by repeat (first | exact trivial | refine ⟨rfl, ?_⟩))))
          | (refine Br_split (fun h => ?_) (fun h => ?_))
          | (refine fin0 rfl ?_)
          | (refine ArK_in (wrap_i64 (by omega) (by omega)) ?_)
          | (refine force_in ?_)))
    · have hc1 : ((⟨(nameL k).toArray⟩ : ByteArray).toList == (⟨(wordAt W 0).toArray⟩ : ByteArray).toList) = false := by rw [hcase]; simpa using hq
      have hc1' : (!((⟨(nameL k).toArray⟩ : ByteArray).toList == (⟨(wordAt W 0).toArray⟩ : ByteArray).toList)) = true := by rw [hc1]; rfl
      repeat' ((conv => whnf); (first
        | (refine Br_false hc1 ?_)
        | (refine Br_true hc1' ?_)
        | (refine Br_true (by assumption) ?_)
        | (refine Br_false (by assumption) ?_)
        | (refine Br_true (beqT (by omega)) ?_)
        | (refine Br_false (beqF (by omega)) ?_)
        | (refine Br_beq (fun h => ?_) (fun h => ?_))
        | (refine Br_true (bneT (by omega)) ?_)
        | (refine Br_false (bneF (by omega)) ?_)
        | (refine Br_bne (fun h => ?_) (fun h => ?_))
        | (refine Br_true (decide_eq_true (by omega)) ?_)
        | (refine Br_false (decide_eq_false (by omega)) ?_)
        | (refine Br_dec (fun h => ?_) (fun h => ?_))
        | (refine Br_not ?_)
        | (refine Len_in (fun hlen => ?_))
        | (refine Idx_in _ h0 (by omega) rfl ?_)
        | (refine W_draw 0 tt_ok mixed (by kernel_rfl) ?_)
        | (refine Fn.use (hnm) rfl rfl ?_)
        | (refine CallF_in (hnm) rfl rfl ?_)
        | (refine Back_in _ _ ⟨k + 1, by omega, rfl, hno' (fun hh => hq hh.1), rfl⟩ (by omega) (Wk_env (by repeat (first | exact trivial | refine ⟨rfl, ?_⟩))))
        | (refine Br_split (fun h => ?_) (fun h => ?_))
        | (refine fin0 rfl ?_)
        | (refine ArK_in (wrap_i64 (by omega) (by omega)) ?_)
        | (refine force_in ?_)))
  · have h : k = 15 := by omega
    subst h
    have e : goodW W = false := by
      rw [hg]
      by_cases hk0 : 0 ≤ kindOf (wordAt W 0)
      · have := hno (kindOf (wordAt W 0)).toNat (by omega)
        rw [← kindOf_hit hk0] at this
        simp at this
        simp [this]
      · simp [hk0]
    rw [e]
    repeat' ((conv => whnf); (first
      | (refine Br_true (by assumption) ?_)
      | (refine Br_false (by assumption) ?_)
      | (refine Br_true (beqT (by omega)) ?_)
      | (refine Br_false (beqF (by omega)) ?_)
      | (refine Br_beq (fun h => ?_) (fun h => ?_))
      | (refine Br_true (bneT (by omega)) ?_)
      | (refine Br_false (bneF (by omega)) ?_)
      | (refine Br_bne (fun h => ?_) (fun h => ?_))
      | (refine Br_true (decide_eq_true (by omega)) ?_)
      | (refine Br_false (decide_eq_false (by omega)) ?_)
      | (refine Br_dec (fun h => ?_) (fun h => ?_))
      | (refine Br_not ?_)
      | (refine Len_in (fun hlen => ?_))
      | (refine Br_split (fun h => ?_) (fun h => ?_))
      | (refine fin0 rfl ?_)
      | (refine ArK_in (wrap_i64 (by omega) (by omega)) ?_)
      | (refine force_in ?_)))
    rfl
end Go.Eng
set_option maxRecDepth 100000
set_option linter.unusedVariables false
set_option linter.unusedSimpArgs false
namespace Go.Eng
open Go Go.Proofs
theorem joinL_snoc (c : UInt8) (u : List (List UInt8)) (w : List UInt8) (h : u ≠ []) : joinL c (u ++ [w]) = joinL c u ++ c :: w := by
  rw [joinL_app c u [w] h (by simp)]; rfl
set_option maxHeartbeats 4000000 in
theorem ref20_Text (l : List Step) : Fn Tryd.prog 15 [.d (stepsD l)] (.d (str (textL l))) := by
  refine Fn_of tt_ok Tryd.func15 rfl (by decide) Tryd.ntmps15 rfl ?_
  have hch := ref20_Check l
  cases hc : checkB l <;> rw [hc] at hch
  · have e : textL l = [] := by unfold textL; rw [hc]; rfl
    rw [e]
    repeat' ((conv => whnf); (first
      | (refine Br_true (by assumption) ?_)
      | (refine Br_false (by assumption) ?_)
      | (refine Br_true (beqT (by omega)) ?_)
      | (refine Br_false (beqF (by omega)) ?_)
      | (refine Br_beq (fun h => ?_) (fun h => ?_))
      | (refine Br_true (bneT (by omega)) ?_)
      | (refine Br_false (bneF (by omega)) ?_)
      | (refine Br_bne (fun h => ?_) (fun h => ?_))
      | (refine Br_true (decide_eq_true (by omega)) ?_)
      | (refine Br_false (decide_eq_false (by omega)) ?_)
      | (refine Br_dec (fun h => ?_) (fun h => ?_))
      | (refine Br_not ?_)
      | (refine Len_in (fun hlen => ?_))
      | (refine Fn.use (hch) rfl rfl ?_)
      | (refine CallF_in (hch) rfl rfl ?_)
      | (refine Br_split (fun h => ?_) (fun h => ?_))
      | (refine fin0 rfl ?_)
      | (refine ArK_in (wrap_i64 (by omega) (by omega)) ?_)
      | (refine force_in ?_)))
    all_goals rfl
  obtain ⟨h16, hst⟩ := checkB_iff.1 hc
  have e : textL l = joinL 59 (l.map textS) := by unfold textL; rw [if_pos hc]
  rw [e]
  repeat' ((conv => whnf); (first
    | (refine Br_true (by assumption) ?_)
    | (refine Br_false (by assumption) ?_)
    | (refine Br_true (beqT (by omega)) ?_)
    | (refine Br_false (beqF (by omega)) ?_)
    | (refine Br_beq (fun h => ?_) (fun h => ?_))
    | (refine Br_true (bneT (by omega)) ?_)
    | (refine Br_false (bneF (by omega)) ?_)
    | (refine Br_bne (fun h => ?_) (fun h => ?_))
    | (refine Br_true (decide_eq_true (by omega)) ?_)
    | (refine Br_false (decide_eq_false (by omega)) ?_)
    | (refine Br_dec (fun h => ?_) (fun h => ?_))
    | (refine Br_not ?_)
    | (refine Len_in (fun hlen => ?_))
    | (refine Fn.use (hch) rfl rfl ?_)
    | (refine CallF_in (hch) rfl rfl ?_)
    | (refine Br_split (fun h => ?_) (fun h => ?_))
    | (refine fin0 rfl ?_)
    | (refine ArK_in (wrap_i64 (by omega) (by omega)) ?_)
    | (refine force_in ?_)))
  refine W_loop (fun μ s => ∃ (k : Nat) (p : List UInt8), k ≤ l.length ∧ μ = l.length - k ∧ p = joinL 59 ((l.take k).map textS) ∧ s = ⟨[(0, .d (stepsD l)), (3, .d (str p)), (4, .i k)], 60, [], 0, []⟩) l.length
    ⟨_, ?_, 0, [], by omega, by omega, by simp [joinL], rfl⟩ ?_
  · exact Wk_env (by repeat (first | exact trivial | refine ⟨rfl, ?_⟩))
  rintro μ s1 ⟨k, p, hk, rfl, hp, rfl⟩
  have hpl : p.length ≤ 16 * 101 := by
    rw [hp]
    refine Nat.le_trans (joinL_len 59 _ 100 fun w hw => ?_) (Nat.mul_le_mul_right _ (by simp; omega))
    obtain ⟨x, hx, rfl⟩ := List.mem_map.1 hw
    exact textS_len (hst x (List.mem_of_mem_take hx))
  refine W_run tt_ok ?_
  refine Len_in (fun hlen => ?_)
  simp only [List.length_map] at hlen
  refine Br_dec (fun h => ?_) (fun h => ?_)
  · simp at h
    have hlt := h
    have hi : (List.map Step.cs l)[(k : Int).toNat]? = some (l[k]).cs := by simp [hlt]
    have htk : l.take (k + 1) = l.take k ++ [l[k]] := List.take_succ_eq_append_getElem hlt
    have hm := hst _ (List.getElem_mem hlt)
    have hse := textS_len hm
    obtain ⟨g1, g2, g3, g4, g5⟩ := stepB_iff.1 hm
    rw [inM_iff] at g1 g2 g3
    have hnm := ref20_Name l[k].f
    have hmy := ref20_many l[k].f
    rw [manyV_eq g1] at hmy
    rw [show nameV l[k].f = nameL l[k].f.toNat by unfold nameV; rw [if_pos g1]] at hnm
    obtain ⟨na, ea⟩ : ∃ n : Nat, l[k].a = n := ⟨l[k].a.toNat, by omega⟩
    obtain ⟨nb, eb⟩ : ∃ n : Nat, l[k].b = n := ⟨l[k].b.toNat, by omega⟩
    have hda := ref20_dig na (by omega)
    have hdb := ref20_dig nb (by omega)
    have hla := dec_len na (by omega)
    have hlb := dec_len nb (by omega)
    have hln := name_len l[k].f.toNat
    rw [← ea] at hda
    rw [← eb] at hdb
    have hbd := many_bd l[k].f.toNat
    have ht : textS l[k] = joinL 32 (nameL l[k].f.toNat :: ((if 1 ≤ manyN l[k].f.toNat then [Lib.decDigits na] else []) ++ (if 2 ≤ manyN l[k].f.toNat then [Lib.decDigits nb] else []))) := by
      unfold textS wordsS num; rw [ea, eb]; rfl
    have hn0 : k = 0 → joinL 59 ((l.take (k + 1)).map textS) = textS l[k] ∧ p = [] := fun h0 => by
      subst h0; rw [htk]; exact ⟨by simp [joinL], by rw [hp]; simp [joinL]⟩
    have hn1 : 0 < k → joinL 59 ((l.take (k + 1)).map textS) = p ++ 59 :: textS l[k] := fun h0 => by
      rw [htk, List.map_append, List.map_singleton, joinL_snoc 59 _ _ (by intro h; have := congrArg List.length h; simp only [List.length_map, List.length_take, List.length_nil] at this; omega), ← hp]
    rw [ht] at hn0 hn1
    generalize hms : manyN l[k].f.toNat = m at *
    generalize nameL l[k].f.toNat = N at *
    generalize Lib.decDigits na = A at *
    generalize Lib.decDigits nb = B at *
    have b2 : ∀ (f : Int) (a : Int) (b : Int), True := fun _ _ _ => trivial
    rcases (by omega : m = 0 ∨ m = 1 ∨ m = 2) with rfl | rfl | rfl
    · by_cases h0 : k = 0
      · obtain ⟨n0, hp0⟩ := hn0 h0
        have hz : decide ((k : Int) > 0) = false := decide_eq_false (by omega)
        have hres : AV.d (D.str ((⟨p.toArray⟩ : ByteArray) ++ (⟨N.toArray⟩ : ByteArray))) = .d (str (joinL 59 ((l.take (k + 1)).map textS))) := by
          rw [n0, hp0]; simp only [str_app]; simp [joinL, str]
        repeat' ((conv => whnf); (first
          | (refine Br_false hz ?_)
          | (refine Br_true (by assumption) ?_)
          | (refine Br_false (by assumption) ?_)
          | (refine Br_true (beqT (by omega)) ?_)
          | (refine Br_false (beqF (by omega)) ?_)
          | (refine Br_beq (fun h => ?_) (fun h => ?_))
          | (refine Br_true (bneT (by omega)) ?_)
          | (refine Br_false (bneF (by omega)) ?_)
          | (refine Br_bne (fun h => ?_) (fun h => ?_))
          | (refine Br_true (decide_eq_true (by omega)) ?_)
          | (refine Br_false (decide_eq_false (by omega)) ?_)
          | (refine Br_dec (fun h => ?_) (fun h => ?_))
          | (refine Br_not ?_)
          | (refine Len_in (fun hlen => ?_))
          | (refine Idx_in _ hi (by omega) rfl ?_)
          | (refine Fn.use (hnm) rfl rfl ?_)
          | (refine CallF_in (hnm) rfl rfl ?_)
          | (refine Fn.use (hmy) rfl rfl ?_)
          | (refine CallF_in (hmy) rfl rfl ?_)
          | (refine Fn.use (hda) rfl rfl ?_)
          | (refine CallF_in (hda) rfl rfl ?_)
          | (refine Fn.use (hdb) rfl rfl ?_)
          | (refine CallF_in (hdb) rfl rfl ?_)
          | (refine Need_in (by unfold LB; simp [ByteArray.size]; omega) ?_)
          | (refine Back_in _ _ ⟨k + 1, _, by omega, rfl, rfl, rfl⟩ (by omega) (Wk_env (by rw [← hres]; repeat (first | exact trivial | refine ⟨rfl, ?_⟩))))
          | (refine Br_split (fun h => ?_) (fun h => ?_))
          | (refine fin0 rfl ?_)
          | (refine ArK_in (wrap_i64 (by omega) (by omega)) ?_)
          | (refine force_in ?_)))
      · have n0 := hn1 (by omega)
        have hz : decide ((k : Int) > 0) = true := decide_eq_true (by omega)
        have hres : AV.d (D.str (((⟨p.toArray⟩ : ByteArray) ++ (⟨[59].toArray⟩ : ByteArray)) ++ (⟨N.toArray⟩ : ByteArray))) = .d (str (joinL 59 ((l.take (k + 1)).map textS))) := by
          rw [n0]; simp only [str_app]; simp [joinL, str]
        repeat' ((conv => whnf); (first
          | (refine Br_true hz ?_)
          | (refine Br_true (by assumption) ?_)
          | (refine Br_false (by assumption) ?_)
          | (refine Br_true (beqT (by omega)) ?_)
          | (refine Br_false (beqF (by omega)) ?_)
          | (refine Br_beq (fun h => ?_) (fun h => ?_))
          | (refine Br_true (bneT (by omega)) ?_)
          | (refine Br_false (bneF (by omega)) ?_)
          | (refine Br_bne (fun h => ?_) (fun h => ?_))
          | (refine Br_true (decide_eq_true (by omega)) ?_)
          | (refine Br_false (decide_eq_false (by omega)) ?_)
          | (refine Br_dec (fun h => ?_) (fun h => ?_))
          | (refine Br_not ?_)
          | (refine Len_in (fun hlen => ?_))
          | (refine Idx_in _ hi (by omega) rfl ?_)
          | (refine Fn.use (hnm) rfl rfl ?_)
          | (refine CallF_in (hnm) rfl rfl ?_)
          | (refine Fn.use (hmy) rfl rfl ?_)
          | (refine CallF_in (hmy) rfl rfl ?_)
          | (refine Fn.use (hda) rfl rfl ?_)
          | (refine CallF_in (hda) rfl rfl ?_)
          | (refine Fn.use (hdb) rfl rfl ?_)
          | (refine CallF_in (hdb) rfl rfl ?_)
          | (refine Need_in (by unfold LB; simp [ByteArray.size]; omega) ?_)
          | (refine Back_in _ _ ⟨k + 1, _, by omega, rfl, rfl, rfl⟩ (by omega) (Wk_env (by rw [← hres]; repeat (first | exact trivial | refine ⟨rfl, ?_⟩))))
          | (refine Br_split (fun h => ?_) (fun h => ?_))
          | (refine fin0 rfl ?_)
          | (refine ArK_in (wrap_i64 (by omega) (by omega)) ?_)
          | (refine force_in ?_)))
    · by_cases h0 : k = 0
      · obtain ⟨n0, hp0⟩ := hn0 h0
        have hz : decide ((k : Int) > 0) = false := decide_eq_false (by omega)
        have hres : AV.d (D.str ((((⟨p.toArray⟩ : ByteArray) ++ (⟨N.toArray⟩ : ByteArray)) ++ (⟨[32].toArray⟩ : ByteArray)) ++ (⟨A.toArray⟩ : ByteArray))) = .d (str (joinL 59 ((l.take (k + 1)).map textS))) := by
          rw [n0, hp0]; simp only [str_app]; simp [joinL, str]
        repeat' ((conv => whnf); (first
          | (refine Br_false hz ?_)
          | (refine Br_true (by assumption) ?_)
          | (refine Br_false (by assumption) ?_)
          | (refine Br_true (beqT (by omega)) ?_)
          | (refine Br_false (beqF (by omega)) ?_)
          | (refine Br_beq (fun h => ?_) (fun h => ?_))
          | (refine Br_true (bneT (by omega)) ?_)
          | (refine Br_false (bneF (by omega)) ?_)
          | (refine Br_bne (fun h => ?_) (fun h => ?_))
          | (refine Br_true (decide_eq_true (by omega)) ?_)
          | (refine Br_false (decide_eq_false (by omega)) ?_)
          | (refine Br_dec (fun h => ?_) (fun h => ?_))
          | (refine Br_not ?_)
          | (refine Len_in (fun hlen => ?_))
          | (refine Idx_in _ hi (by omega) rfl ?_)
          | (refine Fn.use (hnm) rfl rfl ?_)
          | (refine CallF_in (hnm) rfl rfl ?_)
          | (refine Fn.use (hmy) rfl rfl ?_)
          | (refine CallF_in (hmy) rfl rfl ?_)
          | (refine Fn.use (hda) rfl rfl ?_)
          | (refine CallF_in (hda) rfl rfl ?_)
          | (refine Fn.use (hdb) rfl rfl ?_)
          | (refine CallF_in (hdb) rfl rfl ?_)
          | (refine Need_in (by unfold LB; simp [ByteArray.size]; omega) ?_)
          | (refine Back_in _ _ ⟨k + 1, _, by omega, rfl, rfl, rfl⟩ (by omega) (Wk_env (by rw [← hres]; repeat (first | exact trivial | refine ⟨rfl, ?_⟩))))
          | (refine Br_split (fun h => ?_) (fun h => ?_))
          | (refine fin0 rfl ?_)
          | (refine ArK_in (wrap_i64 (by omega) (by omega)) ?_)
          | (refine force_in ?_)))
      · have n0 := hn1 (by omega)
        have hz : decide ((k : Int) > 0) = true := decide_eq_true (by omega)
        have hres : AV.d (D.str (((((⟨p.toArray⟩ : ByteArray) ++ (⟨[59].toArray⟩ : ByteArray)) ++ (⟨N.toArray⟩ : ByteArray)) ++ (⟨[32].toArray⟩ : ByteArray)) ++ (⟨A.toArray⟩ : ByteArray))) = .d (str (joinL 59 ((l.take (k + 1)).map textS))) := by
          rw [n0]; simp only [str_app]; simp [joinL, str]
        repeat' ((conv => whnf); (first
          | (refine Br_true hz ?_)
          | (refine Br_true (by assumption) ?_)
          | (refine Br_false (by assumption) ?_)
          | (refine Br_true (beqT (by omega)) ?_)
          | (refine Br_false (beqF (by omega)) ?_)
          | (refine Br_beq (fun h => ?_) (fun h => ?_))
          | (refine Br_true (bneT (by omega)) ?_)
          | (refine Br_false (bneF (by omega)) ?_)
          | (refine Br_bne (fun h => ?_) (fun h => ?_))
          | (refine Br_true (decide_eq_true (by omega)) ?_)
          | (refine Br_false (decide_eq_false (by omega)) ?_)
          | (refine Br_dec (fun h => ?_) (fun h => ?_))
          | (refine Br_not ?_)
          | (refine Len_in (fun hlen => ?_))
          | (refine Idx_in _ hi (by omega) rfl ?_)
          | (refine Fn.use (hnm) rfl rfl ?_)
          | (refine CallF_in (hnm) rfl rfl ?_)
          | (refine Fn.use (hmy) rfl rfl ?_)
          | (refine CallF_in (hmy) rfl rfl ?_)
          | (refine Fn.use (hda) rfl rfl ?_)
          | (refine CallF_in (hda) rfl rfl ?_)
          | (refine Fn.use (hdb) rfl rfl ?_)
          | (refine CallF_in (hdb) rfl rfl ?_)
          | (refine Need_in (by unfold LB; simp [ByteArray.size]; omega) ?_)
          | (refine Back_in _ _ ⟨k + 1, _, by omega, rfl, rfl, rfl⟩ (by omega) (Wk_env (by rw [← hres]; repeat (first | exact trivial | refine ⟨rfl, ?_⟩))))
          | (refine Br_split (fun h => ?_) (fun h => ?_))
          | (refine fin0 rfl ?_)
          | (refine ArK_in (wrap_i64 (by omega) (by omega)) ?_)
          | (refine force_in ?_)))
    · by_cases h0 : k = 0
      · obtain ⟨n0, hp0⟩ := hn0 h0
        have hz : decide ((k : Int) > 0) = false := decide_eq_false (by omega)
        have hres : AV.d (D.str ((((((⟨p.toArray⟩ : ByteArray) ++ (⟨N.toArray⟩ : ByteArray)) ++ (⟨[32].toArray⟩ : ByteArray)) ++ (⟨A.toArray⟩ : ByteArray)) ++ (⟨[32].toArray⟩ : ByteArray)) ++ (⟨B.toArray⟩ : ByteArray))) = .d (str (joinL 59 ((l.take (k + 1)).map textS))) := by
          rw [n0, hp0]; simp only [str_app]; simp [joinL, str]
        repeat' ((conv => whnf); (first
          | (refine Br_false hz ?_)
          | (refine Br_true (by assumption) ?_)
          | (refine Br_false (by assumption) ?_)
          | (refine Br_true (beqT (by omega)) ?_)
          | (refine Br_false (beqF (by omega)) ?_)
          | (refine Br_beq (fun h => ?_) (fun h => ?_))
          | (refine Br_true (bneT (by omega)) ?_)
          | (refine Br_false (bneF (by omega)) ?_)
          | (refine Br_bne (fun h => ?_) (fun h => ?_))
          | (refine Br_true (decide_eq_true (by omega)) ?_)
          | (refine Br_false (decide_eq_false (by omega)) ?_)
          | (refine Br_dec (fun h => ?_) (fun h => ?_))
          | (refine Br_not ?_)
          | (refine Len_in (fun hlen => ?_))
          | (refine Idx_in _ hi (by omega) rfl ?_)
          | (refine Fn.use (hnm) rfl rfl ?_)
          | (refine CallF_in (hnm) rfl rfl ?_)
          | (refine Fn.use (hmy) rfl rfl ?_)
          | (refine CallF_in (hmy) rfl rfl ?_)
          | (refine Fn.use (hda) rfl rfl ?_)
          | (refine CallF_in (hda) rfl rfl ?_)
          | (refine Fn.use (hdb) rfl rfl ?_)
          | (refine CallF_in (hdb) rfl rfl ?_)
          | (refine Need_in (by unfold LB; simp [ByteArray.size]; omega) ?_)
          | (refine Back_in _ _ ⟨k + 1, _, by omega, rfl, rfl, rfl⟩ (by omega) (Wk_env (by rw [← hres]; repeat (first | exact trivial | refine ⟨rfl, ?_⟩))))
          | (refine Br_split (fun h => ?_) (fun h => ?_))
          | (refine fin0 rfl ?_)
          | (refine ArK_in (wrap_i64 (by omega) (by omega)) ?_)
          | (refine force_in ?_)))
      · have n0 := hn1 (by omega)
        have hz : decide ((k : Int) > 0) = true := decide_eq_true (by omega)
        have hres : AV.d (D.str (((((((⟨p.toArray⟩ : ByteArray) ++ (⟨[59].toArray⟩ : ByteArray)) ++ (⟨N.toArray⟩ : ByteArray)) ++ (⟨[32].toArray⟩ : ByteArray)) ++ (⟨A.toArray⟩ : ByteArray)) ++ (⟨[32].toArray⟩ : ByteArray)) ++ (⟨B.toArray⟩ : ByteArray))) = .d (str (joinL 59 ((l.take (k + 1)).map textS))) := by
          rw [n0]; simp only [str_app]; simp [joinL, str]
        repeat' ((conv => whnf); (first
          | (refine Br_true hz ?_)
          | (refine Br_true (by assumption) ?_)
          | (refine Br_false (by assumption) ?_)
          | (refine Br_true (beqT (by omega)) ?_)
          | (refine Br_false (beqF (by omega)) ?_)
          | (refine Br_beq (fun h => ?_) (fun h => ?_))
          | (refine Br_true (bneT (by omega)) ?_)
          | (refine Br_false (bneF (by omega)) ?_)
          | (refine Br_bne (fun h => ?_) (fun h => ?_))
          | (refine Br_true (decide_eq_true (by omega)) ?_)
          | (refine Br_false (decide_eq_false (by omega)) ?_)
          | (refine Br_dec (fun h => ?_) (fun h => ?_))
          | (refine Br_not ?_)
          | (refine Len_in (fun hlen => ?_))
          | (refine Idx_in _ hi (by omega) rfl ?_)
          | (refine Fn.use (hnm) rfl rfl ?_)
          | (refine CallF_in (hnm) rfl rfl ?_)
          | (refine Fn.use (hmy) rfl rfl ?_)
          | (refine CallF_in (hmy) rfl rfl ?_)
          | (refine Fn.use (hda) rfl rfl ?_)
          | (refine CallF_in (hda) rfl rfl ?_)
          | (refine Fn.use (hdb) rfl rfl ?_)
          | (refine CallF_in (hdb) rfl rfl ?_)
          | (refine Need_in (by unfold LB; simp [ByteArray.size]; omega) ?_)
          | (refine Back_in _ _ ⟨k + 1, _, by omega, rfl, rfl, rfl⟩ (by omega) (Wk_env (by rw [← hres]; repeat (first | exact trivial | refine ⟨rfl, ?_⟩))))
          | (refine Br_split (fun h => ?_) (fun h => ?_))
          | (refine fin0 rfl ?_)
          | (refine ArK_in (wrap_i64 (by omega) (by omega)) ?_)
          | (refine force_in ?_)))
  · simp at h
    have hw : l.take k = l := List.take_of_length_le h
    rw [hw] at hp
    rw [← hp]
    repeat' ((conv => whnf); (first
      | (refine Br_true (by assumption) ?_)
      | (refine Br_false (by assumption) ?_)
      | (refine Br_true (beqT (by omega)) ?_)
      | (refine Br_false (beqF (by omega)) ?_)
      | (refine Br_beq (fun h => ?_) (fun h => ?_))
      | (refine Br_true (bneT (by omega)) ?_)
      | (refine Br_false (bneF (by omega)) ?_)
      | (refine Br_bne (fun h => ?_) (fun h => ?_))
      | (refine Br_true (decide_eq_true (by omega)) ?_)
      | (refine Br_false (decide_eq_false (by omega)) ?_)
      | (refine Br_dec (fun h => ?_) (fun h => ?_))
      | (refine Br_not ?_)
      | (refine Len_in (fun hlen => ?_))
      | (refine Br_split (fun h => ?_) (fun h => ?_))
      | (refine fin0 rfl ?_)
      | (refine ArK_in (wrap_i64 (by omega) (by omega)) ?_)
      | (refine force_in ?_)))
    rfl
end Go.Eng
set_option maxRecDepth 100000
set_option linter.unusedVariables false
set_option linter.unusedSimpArgs false
namespace Go.Eng
open Go Go.Proofs
theorem split_seq0 (s : List UInt8) : Tri Tryd.prog 34 [.d (str s), .d (str [59]), .i 0] [] fun v H => v = .clos (.func 45) [] [.ptr 1 0, .ptr 0 0, .ptr 2 0] ∧ H = [some (.row [.d (str s)]), some (.row [.d (str [59])]), some (.row [.i 0])] := by
  refine Tri_of (m := 0) tt_ok Tryd.func34 rfl (by decide) Tryd.ntmps34 (by rfl) rfl ?_
  repeat' ((conv => whnf); (first
    | (refine Br_true (by assumption) ?_)
    | (refine Br_false (by assumption) ?_)
    | (refine Br_true (beqT (by omega)) ?_)
    | (refine Br_false (beqF (by omega)) ?_)
    | (refine Br_beq (fun h => ?_) (fun h => ?_))
    | (refine Br_true (bneT (by omega)) ?_)
    | (refine Br_false (bneF (by omega)) ?_)
    | (refine Br_bne (fun h => ?_) (fun h => ?_))
    | (refine Br_true (decide_eq_true (by omega)) ?_)
    | (refine Br_false (decide_eq_false (by omega)) ?_)
    | (refine Br_dec (fun h => ?_) (fun h => ?_))
    | (refine Br_not ?_)
    | (refine Len_in (fun hlen => ?_))
    | (refine finR ?_)
    | (refine Br_split (fun h => ?_) (fun h => ?_))
    | (refine fin0 rfl ?_)
    | (refine ArK_in (wrap_i64 (by omega) (by omega)) ?_)
    | (refine force_in ?_)))
  rfl
theorem split_seq (s : List UInt8) : Tri Tryd.prog 20 [.d (str s), .d (str [59])] [] fun v H => v = .clos (.func 45) [] [.ptr 1 0, .ptr 0 0, .ptr 2 0] ∧ H = [some (.row [.d (str s)]), some (.row [.d (str [59])]), some (.row [.i 0])] := by
  refine Tri_of (m := 0) tt_ok Tryd.func20 rfl (by decide) Tryd.ntmps20 (by rfl) rfl ?_
  repeat' ((conv => whnf); (first
    | (refine Br_true (by assumption) ?_)
    | (refine Br_false (by assumption) ?_)
    | (refine Br_true (beqT (by omega)) ?_)
    | (refine Br_false (beqF (by omega)) ?_)
    | (refine Br_beq (fun h => ?_) (fun h => ?_))
    | (refine Br_true (bneT (by omega)) ?_)
    | (refine Br_false (bneF (by omega)) ?_)
    | (refine Br_bne (fun h => ?_) (fun h => ?_))
    | (refine Br_true (decide_eq_true (by omega)) ?_)
    | (refine Br_false (decide_eq_false (by omega)) ?_)
    | (refine Br_dec (fun h => ?_) (fun h => ?_))
    | (refine Br_not ?_)
    | (refine Len_in (fun hlen => ?_))
    | (refine Br_split (fun h => ?_) (fun h => ?_))
    | (refine fin0 rfl ?_)
    | (refine ArK_in (wrap_i64 (by omega) (by omega)) ?_)
    | (refine force_in ?_)))
  refine Tri.use (split_seq0 s) ?_
  repeat' ((conv => whnf); (first
    | (refine Br_true (by assumption) ?_)
    | (refine Br_false (by assumption) ?_)
    | (refine Br_true (beqT (by omega)) ?_)
    | (refine Br_false (beqF (by omega)) ?_)
    | (refine Br_beq (fun h => ?_) (fun h => ?_))
    | (refine Br_true (bneT (by omega)) ?_)
    | (refine Br_false (bneF (by omega)) ?_)
    | (refine Br_bne (fun h => ?_) (fun h => ?_))
    | (refine Br_true (decide_eq_true (by omega)) ?_)
    | (refine Br_false (decide_eq_false (by omega)) ?_)
    | (refine Br_dec (fun h => ?_) (fun h => ?_))
    | (refine Br_not ?_)
    | (refine Len_in (fun hlen => ?_))
    | (refine finR ?_)
    | (refine Br_split (fun h => ?_) (fun h => ?_))
    | (refine fin0 rfl ?_)
    | (refine ArK_in (wrap_i64 (by omega) (by omega)) ?_)
    | (refine force_in ?_)))
  rfl
def seqH (r : List UInt8) : Heap := [some (.row [.d (str r)]), some (.row [.d (str [59])]), some (.row [.i 0])]
set_option maxHeartbeats 1000000 in
theorem split_seq1 (s : List UInt8) (hs : s.length ≤ 1000000) (Y : Ysp) (hx : Y.xs = (splitL 59 s).map fun w => .d (str w)) (hY : YLaw Tryd.prog Y) :
    Tri Tryd.prog 45 ([] ++ [.clos (.yield Y.l) [] []] ++ [.ptr 1 0, .ptr 0 0, .ptr 2 0]) (seqH s ++ [some (.yl Y 0)])
      fun v H1 => H1[3]? = some (some (.yl Y Y.xs.length)) ∨ H1[3]? = some (some (.yz Y)) := by
  unfold seqH
  refine Tri_of (m := 4) tt_ok Tryd.func45 rfl (by decide) Tryd.ntmps45 (by rfl) rfl ?_
  repeat' ((conv => whnf); (first
    | (refine Br_true (by assumption) ?_)
    | (refine Br_false (by assumption) ?_)
    | (refine Br_true (beqT (by omega)) ?_)
    | (refine Br_false (beqF (by omega)) ?_)
    | (refine Br_beq (fun h => ?_) (fun h => ?_))
    | (refine Br_true (bneT (by omega)) ?_)
    | (refine Br_false (bneF (by omega)) ?_)
    | (refine Br_bne (fun h => ?_) (fun h => ?_))
    | (refine Br_true (decide_eq_true (by omega)) ?_)
    | (refine Br_false (decide_eq_false (by omega)) ?_)
    | (refine Br_dec (fun h => ?_) (fun h => ?_))
    | (refine Br_not ?_)
    | (refine Len_in (fun hlen => ?_))
    | (refine Br_split (fun h => ?_) (fun h => ?_))
    | (refine fin0 rfl ?_)
    | (refine ArK_in (wrap_i64 (by omega) (by omega)) ?_)
    | (refine force_in ?_)))
  refine W_loop (fun μ st => ∃ (k : Nat) (r : List UInt8), r.length ≤ s.length ∧ μ = r.length ∧ (splitL 59 s).drop k = splitL 59 r ∧ (splitL 59 s).length = k + (splitL 59 r).length ∧
      st = ⟨[(0, .clos (.yield Y.l) [] []), (1, .ptr 1 0), (2, .ptr 0 0), (3, .ptr 2 0)], 52, [some (.row [.d (str r)]), some (.row [.d (str [59])]), some (.row [.i 0]), some (.yl Y k)], 4, []⟩) s.length
    ⟨_, ?_, 0, s, Nat.le_refl _, by simp, by simp, by simp, rfl⟩ ?_
  · exact Wk_env (by repeat (first | exact trivial | refine ⟨rfl, ?_⟩))
  rintro μ s1 ⟨k, r, hr, rfl, hd, hl, rfl⟩
  have hix := index_one r 59
  have hge := Lib.indexByte_ge r 59
  have hxl : Y.xs.length = k + (splitL 59 r).length := by rw [hx, List.length_map]; exact hl
  have hxk : ∀ w ws, splitL 59 r = w :: ws → Y.xs[k]? = some (.d (str w)) := fun w ws e => by
    rw [hx, List.getElem?_map]
    have : (splitL 59 s)[k]? = some w := by
      have := congrArg (·[0]?) (hd.trans e)
      simpa using this
    rw [this]; rfl
  refine W_run tt_ok ?_
  by_cases h : Lib.indexByte r 59 = -1
  · have e := splitL_miss h
    rw [h] at hix
    rw [e] at hxl
    have hk := hxk _ _ e
    repeat' ((conv => whnf); (first
      | (refine Br_true (by assumption) ?_)
      | (refine Br_false (by assumption) ?_)
      | (refine Br_true (beqT (by omega)) ?_)
      | (refine Br_false (beqF (by omega)) ?_)
      | (refine Br_beq (fun h => ?_) (fun h => ?_))
      | (refine Br_true (bneT (by omega)) ?_)
      | (refine Br_false (bneF (by omega)) ?_)
      | (refine Br_bne (fun h => ?_) (fun h => ?_))
      | (refine Br_true (decide_eq_true (by omega)) ?_)
      | (refine Br_false (decide_eq_false (by omega)) ?_)
      | (refine Br_dec (fun h => ?_) (fun h => ?_))
      | (refine Br_not ?_)
      | (refine Len_in (fun hlen => ?_))
      | (refine Fn.use (hix) rfl rfl ?_)
      | (refine CallF_in (hix) rfl rfl ?_)
      | (refine Br_split (fun h => ?_) (fun h => ?_))
      | (refine fin0 rfl ?_)
      | (refine ArK_in (wrap_i64 (by omega) (by omega)) ?_)
      | (refine force_in ?_)))
    refine Yield_in 3 Y k (.d (str r)) rfl rfl hY rfl rfl hk ?_ ?_
    · repeat' ((conv => whnf); (first
      | (refine Br_true (by assumption) ?_)
      | (refine Br_false (by assumption) ?_)
      | (refine Br_true (beqT (by omega)) ?_)
      | (refine Br_false (beqF (by omega)) ?_)
      | (refine Br_beq (fun h => ?_) (fun h => ?_))
      | (refine Br_true (bneT (by omega)) ?_)
      | (refine Br_false (bneF (by omega)) ?_)
      | (refine Br_bne (fun h => ?_) (fun h => ?_))
      | (refine Br_true (decide_eq_true (by omega)) ?_)
      | (refine Br_false (decide_eq_false (by omega)) ?_)
      | (refine Br_dec (fun h => ?_) (fun h => ?_))
      | (refine Br_not ?_)
      | (refine Len_in (fun hlen => ?_))
      | (refine finQ (.inl ?_))
      | (refine Br_split (fun h => ?_) (fun h => ?_))
      | (refine fin0 rfl ?_)
      | (refine ArK_in (wrap_i64 (by omega) (by omega)) ?_)
      | (refine force_in ?_)))
      rw [hxl]; rfl
    · repeat' ((conv => whnf); (first
      | (refine Br_true (by assumption) ?_)
      | (refine Br_false (by assumption) ?_)
      | (refine Br_true (beqT (by omega)) ?_)
      | (refine Br_false (beqF (by omega)) ?_)
      | (refine Br_beq (fun h => ?_) (fun h => ?_))
      | (refine Br_true (bneT (by omega)) ?_)
      | (refine Br_false (bneF (by omega)) ?_)
      | (refine Br_bne (fun h => ?_) (fun h => ?_))
      | (refine Br_true (decide_eq_true (by omega)) ?_)
      | (refine Br_false (decide_eq_false (by omega)) ?_)
      | (refine Br_dec (fun h => ?_) (fun h => ?_))
      | (refine Br_not ?_)
      | (refine Len_in (fun hlen => ?_))
      | (refine finQ (.inr rfl))
      | (refine Br_split (fun h => ?_) (fun h => ?_))
      | (refine fin0 rfl ?_)
      | (refine ArK_in (wrap_i64 (by omega) (by omega)) ?_)
      | (refine force_in ?_)))
  · obtain ⟨i, hi⟩ : ∃ i : Nat, Lib.indexByte r 59 = i := ⟨(Lib.indexByte r 59).toNat, by omega⟩
    obtain ⟨h1, h2⟩ := splitL_hit hi
    have hk := hxk _ _ h2
    rw [hi] at hix
    have hn : ¬ ((i : Int) < 0) := by omega
    repeat' ((conv => whnf); (first
      | (refine Br_false (decide_eq_false hn) ?_)
      | (refine Br_true (by assumption) ?_)
      | (refine Br_false (by assumption) ?_)
      | (refine Br_true (beqT (by omega)) ?_)
      | (refine Br_false (beqF (by omega)) ?_)
      | (refine Br_beq (fun h => ?_) (fun h => ?_))
      | (refine Br_true (bneT (by omega)) ?_)
      | (refine Br_false (bneF (by omega)) ?_)
      | (refine Br_bne (fun h => ?_) (fun h => ?_))
      | (refine Br_true (decide_eq_true (by omega)) ?_)
      | (refine Br_false (decide_eq_false (by omega)) ?_)
      | (refine Br_dec (fun h => ?_) (fun h => ?_))
      | (refine Br_not ?_)
      | (refine Len_in (fun hlen => ?_))
      | (refine Fn.use (hix) rfl rfl ?_)
      | (refine CallF_in (hix) rfl rfl ?_)
      | (refine Br_split (fun h => ?_) (fun h => ?_))
      | (refine fin0 rfl ?_)
      | (refine ArK_in (wrap_i64 (by omega) (by omega)) ?_)
      | (refine force_in ?_)))
    refine Need_in ⟨by omega, by omega, by rw [str_size]; omega⟩ ?_
    have e1 : D.str ((⟨r.toArray⟩ : ByteArray).extract (Int.toNat 0) ((i : Int) + 0).toNat) = str (r.take i) := by rw [str_extract]; simp [str]
    rw [← e1] at hk
    repeat' ((conv => whnf); (first
      | (refine Br_true (by assumption) ?_)
      | (refine Br_false (by assumption) ?_)
      | (refine Br_true (beqT (by omega)) ?_)
      | (refine Br_false (beqF (by omega)) ?_)
      | (refine Br_beq (fun h => ?_) (fun h => ?_))
      | (refine Br_true (bneT (by omega)) ?_)
      | (refine Br_false (bneF (by omega)) ?_)
      | (refine Br_bne (fun h => ?_) (fun h => ?_))
      | (refine Br_true (decide_eq_true (by omega)) ?_)
      | (refine Br_false (decide_eq_false (by omega)) ?_)
      | (refine Br_dec (fun h => ?_) (fun h => ?_))
      | (refine Br_not ?_)
      | (refine Len_in (fun hlen => ?_))
      | (refine Br_split (fun h => ?_) (fun h => ?_))
      | (refine fin0 rfl ?_)
      | (refine ArK_in (wrap_i64 (by omega) (by omega)) ?_)
      | (refine force_in ?_)))
    refine Yield_in 3 Y k _ rfl rfl hY rfl rfl hk ?_ ?_
    · have z1 : ((⟨[59].toArray⟩ : ByteArray).size : Int) = 1 := rfl
      have z2 : (⟨r.toArray⟩ : ByteArray).size = r.length := str_size r
      have e2 : D.str ((⟨r.toArray⟩ : ByteArray).extract ((i : Int) + ((⟨[59].toArray⟩ : ByteArray).size : Int)).toNat (((⟨r.toArray⟩ : ByteArray).size : Int)).toNat) = str (r.drop (i + 1)) := by
        rw [z1, z2, Int.toNat_natCast, str_drop]; rfl
      have hd' : (splitL 59 s).drop (k + 1) = splitL 59 (r.drop (i + 1)) := by
        have := congrArg List.tail (hd.trans h2)
        rw [List.tail_drop] at this
        exact this
      have hl' : (splitL 59 s).length = (k + 1) + (splitL 59 (r.drop (i + 1))).length := by
        rw [hl, h2, List.length_cons]; omega
      repeat' ((conv => whnf); (first
        | (refine Br_true (by assumption) ?_)
        | (refine Br_false (by assumption) ?_)
        | (refine Br_true (beqT (by omega)) ?_)
        | (refine Br_false (beqF (by omega)) ?_)
        | (refine Br_beq (fun h => ?_) (fun h => ?_))
        | (refine Br_true (bneT (by omega)) ?_)
        | (refine Br_false (bneF (by omega)) ?_)
        | (refine Br_bne (fun h => ?_) (fun h => ?_))
        | (refine Br_true (decide_eq_true (by omega)) ?_)
        | (refine Br_false (decide_eq_false (by omega)) ?_)
        | (refine Br_dec (fun h => ?_) (fun h => ?_))
        | (refine Br_not ?_)
        | (refine Len_in (fun hlen => ?_))
        | (refine Br_split (fun h => ?_) (fun h => ?_))
        | (refine fin0 rfl ?_)
        | (refine ArK_in (wrap_i64 (by omega) (by omega)) ?_)
        | (refine force_in ?_)))
      refine Need_in ⟨by omega, by rw [z2]; show ((i : Int) + 1) ≤ _; omega, by omega⟩ ?_
      repeat' ((conv => whnf); (first
        | (refine Br_true (by assumption) ?_)
        | (refine Br_false (by assumption) ?_)
        | (refine Br_true (beqT (by omega)) ?_)
        | (refine Br_false (beqF (by omega)) ?_)
        | (refine Br_beq (fun h => ?_) (fun h => ?_))
        | (refine Br_true (bneT (by omega)) ?_)
        | (refine Br_false (bneF (by omega)) ?_)
        | (refine Br_bne (fun h => ?_) (fun h => ?_))
        | (refine Br_true (decide_eq_true (by omega)) ?_)
        | (refine Br_false (decide_eq_false (by omega)) ?_)
        | (refine Br_dec (fun h => ?_) (fun h => ?_))
        | (refine Br_not ?_)
        | (refine Len_in (fun hlen => ?_))
        | (refine Back_in ⟨[(0, .clos (.yield Y.l) [] []), (1, .ptr 1 0), (2, .ptr 0 0), (3, .ptr 2 0)], 52, [some (.row [.d (D.str ((⟨r.toArray⟩ : ByteArray).extract ((i : Int) + ((⟨[59].toArray⟩ : ByteArray).size : Int)).toNat (((⟨r.toArray⟩ : ByteArray).size : Int)).toNat))]), some (.row [.d (str [59])]), some (.row [.i 0]), some (.yl Y (k + 1))], 4, []⟩ _ ⟨k + 1, r.drop (i + 1), by simp; omega, rfl, hd', hl', by rw [e2]⟩ (by simp; omega) (Wk_env (by repeat (first | exact trivial | refine ⟨rfl, ?_⟩))))
        | (refine Br_split (fun h => ?_) (fun h => ?_))
        | (refine fin0 rfl ?_)
        | (refine ArK_in (wrap_i64 (by omega) (by omega)) ?_)
        | (refine force_in ?_)))
    · repeat' ((conv => whnf); (first
      | (refine Br_true (by assumption) ?_)
      | (refine Br_false (by assumption) ?_)
      | (refine Br_true (beqT (by omega)) ?_)
      | (refine Br_false (beqF (by omega)) ?_)
      | (refine Br_beq (fun h => ?_) (fun h => ?_))
      | (refine Br_true (bneT (by omega)) ?_)
      | (refine Br_false (bneF (by omega)) ?_)
      | (refine Br_bne (fun h => ?_) (fun h => ?_))
      | (refine Br_true (decide_eq_true (by omega)) ?_)
      | (refine Br_false (decide_eq_false (by omega)) ?_)
      | (refine Br_dec (fun h => ?_) (fun h => ?_))
      | (refine Br_not ?_)
      | (refine Len_in (fun hlen => ?_))
      | (refine finQ (.inr rfl))
      | (refine Br_split (fun h => ?_) (fun h => ?_))
      | (refine fin0 rfl ?_)
      | (refine ArK_in (wrap_i64 (by omega) (by omega)) ?_)
      | (refine force_in ?_)))
end Go.Eng
set_option linter.unusedVariables false
set_option linter.unusedSimpArgs false
namespace Go.Eng
open Go
section
variable {P : Program}
def AsgOk (P : Program) (asg : Code) (t u : Tmp) : Prop := ∀ (l : Nat) (T : Array Value) (w : World) (K : Act → World → Prop) (Z : Exit → Act → World → Prop), K { tmps := T.setIfInBounds u (T.getD t undef), defers := [] } w →
  asg.wpIn (Fence.wide.inRound l) 0 P (Exit.then K Z) { tmps := T, defers := [] } w
theorem AsgOk_in {id : Nat} {t u : Tmp} {ty : TypeId} {pos : String} {af : Array Edge} : AsgOk P (.region id #[{ dst := some u, op := .assign (.tmp t), type := ty, pos := pos, after := af, guard := none }] false) t u := by
  intro l T w K Z h
  refine wpIn_region_lit (l := [{ dst := some u, op := .assign (.tmp t), type := ty, pos := pos, after := af, guard := none }]) (wpListIn_plain rfl fun K' hK => ?_)
  have h2 := hK _ _ (wpListIn_nil (F := Fence.wide.inRound l) (n := 0) (P := P) (ops := #[{ dst := some u, op := .assign (.tmp t), type := ty, pos := pos, after := af, guard := none }]) (Q := Exit.then K Z) h)
  refine ⟨fun f hf => by simp [Oper.about] at hf, ?_⟩
  have e : (Oper.semAt (Fence.wide.inRound l).round (Act.eval { tmps := T, defers := [] }) { dst := some u, op := .assign (.tmp t), type := ty, pos := pos, after := af, guard := none }).run P w = .ok (.value (T.getD t undef)) w := by
    rw [Oper.semAt_eq _ _ _ (by intro c; simp)]
    rfl
  rw [e]
  exact h2
theorem Rel.setT {p : PQ} {σ : List Nat} {ρ : Env} {n m : Nat} {H : Heap} {df : List Nat} {T : Array Value} {ds : List Deferred} {w : World} (h : Rel p σ ⟨ρ, n, H, m, df⟩ { tmps := T, defers := ds } w) {t u : Tmp} {x : AV} (hu : u < n) (hx : get ρ t = x) :
    Rel p σ ⟨(u, x) :: ρ, n, H, m, df⟩ { tmps := T.setIfInBounds u (T.getD t undef), defers := ds } w := by
  refine ⟨by simpa using h.size, h.df, fun v => ?_, h.heap, h.m⟩
  have hs : T.size = n := h.size
  simp only [get]
  by_cases hv : u = v
  · subst hv
    rw [Nat.beq_refl]
    simp only [cond_true]
    have : (T.setIfInBounds u (T.getD t undef)).getD u undef = T.getD t undef := by simp [Array.getD_eq_getD_getElem?, hs, hu]
    rw [this, ← hx]
    exact h.env t
  · rw [beq_ne hv]
    simp only [cond_false]
    have : (T.setIfInBounds u (T.getD t undef)).getD v undef = T.getD v undef := by simp [Array.getD_eq_getD_getElem?, Array.getElem?_setIfInBounds_ne hv]
    rw [this]
    exact h.env v
def recOfA (asg : Code) (fn : FuncId) (tmps : Array Value) (ps : Array Tmp) (body : Code) (d : Nat) (st : LoopState) (pend : Option Code) : Loop :=
  { state := st, pending := pend, fn := fn, tmps := tmps, params := ps, assign := asg, body := body, defers := d }
def mkYA (asg : Code) (p0 : PQ) (ρ : Env) (tmps : Array Value) (mb : Nat) (σb : List Nat) (l : Nat) (fn : FuncId) (t : Tmp) (body : Code) (d : Nat) (xs : List AV) (J : Nat → Heap → Prop) (JZ : AEx → Heap → Prop) : Ysp where
  l := l
  xs := xs
  I k p w := ∃ pO σO H, J k H ∧ Mid p0 ρ tmps mb σb l (recOfA asg fn tmps #[t] body d .ready none) p w pO σO H
  Z p w := ∃ pO σO H e c, JZ e H ∧ isExit e c ∧ Mid p0 ρ tmps mb σb l (recOfA asg fn tmps #[t] body d .done (some c)) p w pO σO H
  stI := fun k p p' w w' ⟨pO, σO, H, h1, h2⟩ hf hr hs hsh => ⟨pO, σO, H, h1, h2.stab hf hr hs hsh⟩
  stZ := fun p p' w w' ⟨pO, σO, H, e, c, h1, h2, h3⟩ hf hr hs hsh => ⟨pO, σO, H, e, c, h1, h2, h3.stab hf hr hs hsh⟩
theorem mkYA_law {p0 : PQ} {ρ : Env} {tmps : Array Value} {mb : Nat} {σb : List Nat} {l : Nat} {fn : FuncId} {t u0 : Tmp} {asg : Code} {body : Code} {d : Nat} {xs : List AV} {J : Nat → Heap → Prop} {JZ : AEx → Heap → Prop}
    (ht : t < tmps.size) (hu0 : u0 < tmps.size) (hasg : AsgOk P asg t u0) (hxs : ∀ (k : Nat) (x : AV), xs[k]? = some x → plain x = true)
    (hround : ∀ (k : Nat) (x : AV) (H : Heap), xs[k]? = some x → J k H → mb ≤ H.length → noY H = true → W P (some l) body (RdBack J JZ k tmps.size mb) ⟨(u0, x) :: (t, x) :: ρ, tmps.size, H, mb, []⟩) :
    YLaw P (mkYA asg p0 ρ tmps mb σb l fn t body d xs J JZ) := by
  rintro k x v p σ w ⟨pO, σO, H, hJ, hM⟩ hx hv hlt hul hll
  have hul : ¬ p.u l := hul
  have hll : l < w.heap.size := hll
  refine ⟨fn, tmps.setIfInBounds t v, asg, body, ?_, ?_⟩
  · show (Instr.yield l #[v]).run P w = .ok (.round l fn (tmps.setIfInBounds t v) asg body) w
    rw [run_yield hM.lrec (by simp [recOfA])]
    simp [recOfA]
  show RoundIn Fence.wide 0 P l fn (tmps.setIfInBounds t v) asg body w _
  refine roundIn_of_wpIn trivial (hasg l _ w _ _ ?_)
  refine ⟨_, run_beginRound hM.lrec rfl, ?_⟩
  let w2 := w.putObj l (.loop (recOfA asg fn tmps #[t] body d .busy none))
  show body.wpIn (Fr (some l)) 0 P _ _ w2
  have hsh2 : Shape w w2 := Shape.putLoop hM.lrec _
  have hlr : ¬ pO.r l := fun h => (hM.back l h).elim (fun h => hul (p.sub l (hM.p0r l h))) fun h => hul (p.fu l h)
  let liveO : Nat → Prop := fun b => ∃ (i : Nat) (q : Blk), H[i]? = some (some q) ∧ σO[i]? = some b
  have hlive : ∀ b, liveO b → p.f b ∧ ¬ pO.u b ∧ b < w.heap.size := fun b ⟨i, q, h1, h2⟩ => by
    obtain ⟨r', g1, g2, g3, _⟩ := hM.heap.blk i q h1
    rw [h2] at g1
    injection g1 with g1
    subst g1
    exact ⟨hM.live i b q h1 h2, g2, g3⟩
  have hll2 : ¬ liveO l := fun h => hul (p.fu l (hlive l h).1)
  have sz2 : w2.heap.size = w.heap.size := by simp [w2]
  have oth2 : ∀ b, b ≠ l → w2.heap[b]? = w.heap[b]? := fun b hb => World.putObj_heap_other hb
  let pR : PQ := ⟨pO.r, fun b => b < w.heap.size ∧ ¬ liveO b, fun _ => False, fun b hb => ⟨hM.heap.lt b (pO.sub b hb), fun h => (hlive b h).2.1 (pO.sub b hb)⟩, fun _ h => h.elim, fun _ h => h.elim⟩
  have hHR : HRel pR σO H w2 := hM.heap.same hM.noY (fun _ h => h) (fun b hb => oth2 b fun e => hlr (e ▸ hb)) hsh2 (fun b hb => by rw [sz2]; exact hb.1) fun i q r h1 h2 =>
    ⟨fun h => h.2 ⟨i, q, h1, h2⟩, oth2 r fun e => hll2 (e ▸ ⟨i, q, h1, h2⟩)⟩
  have σmono : ∀ (i r : Nat), σb[i]? = some r → σO[i]? = some r := fun i r hi => by
    rw [hM.nam i (by rw [← hM.bl]; exact (List.getElem?_eq_some_iff.1 hi).1)]
    exact hi
  have hRel0 : Rel pR σO ⟨(t, x) :: ρ, tmps.size, H, mb, []⟩ { tmps := tmps.setIfInBounds t v, defers := [] } w2 := by
    refine ⟨by simp, trivial, fun u => ?_, hHR, hM.len⟩
    simp only [get]
    by_cases hu : t = u
    · subst hu
      rw [Nat.beq_refl]
      simp only [cond_true]
      have : (tmps.setIfInBounds t v).getD t undef = v := by simp [Array.getD_eq_getD_getElem?, ht]
      rw [this]
      exact hv.ofPlain (hxs k x hx)
    · rw [beq_ne hu]
      simp only [cond_false]
      have : (tmps.setIfInBounds t v).getD u undef = tmps.getD u undef := by simp [Array.getD_eq_getD_getElem?, Array.getElem?_setIfInBounds_ne hu]
      rw [this]
      exact (hM.env u).mono' (p := pO) (p' := pR) (fun _ h => h) (fun b hb => oth2 b fun e => hlr (e ▸ hb)) hsh2 σmono
  have hRel := hRel0.setT (t := t) (x := x) hu0 (by simp [get])
  have hW := hround k x H hx hJ hM.len hM.noY
  rw [W_eq] at hW
  refine wpIn_mono (hW pR σO _ w2 hRel) ?_
  rintro e a' w' ⟨ae, p', σ', s', rfl, g2, g3, g4, g5, g6, g7⟩
  rw [RdBack_eq] at g7
  obtain ⟨H3, hwk, hY3, hl3, hJ3⟩ := g7
  rw [Wk_eq] at hwk
  obtain ⟨k1, k2, k3⟩ := hwk
  obtain ⟨p2, σ2, e1, m1, r1⟩ := k3 p' σ' a' w' g4
  have hex := g2.trans e1
  have hnam : ∀ i, i < mb → σ2[i]? = σO[i]? := fun i hi => (m1 i (by rw [g5]; exact hi)).trans (g3 i hi)
  have hpl : pR.u l := ⟨hll, hll2⟩
  have hrec : w'.heap[l]? = some (.loop (recOfA asg fn tmps #[t] body d .busy none)) := (g2.same l hpl (fun h => h)).trans (World.putObj_heap_same hll)
  have hll' : l < w'.heap.size := (Array.getElem?_eq_some_iff.1 hrec).1
  have h2l : ¬ p2.r l := fun h => (hex.back l h).elim hlr fun h => h hpl
  have new : ∀ b, ¬ pR.u b → p.f b ∨ w.heap.size ≤ b := fun b hb => by
    by_cases hlt' : b < w.heap.size
    · by_cases hlv : liveO b
      · exact .inl (hlive b hlv).1
      · exact absurd ⟨hlt', hlv⟩ hb
    · exact .inr (by omega)
  have fin : ∀ (st : LoopState) (pend : Option Code), Mid p0 ρ tmps mb σb l (recOfA asg fn tmps #[t] body d st pend) (grow p w (w'.putObj l (.loop (recOfA asg fn tmps #[t] body d st pend)))) (w'.putObj l (.loop (recOfA asg fn tmps #[t] body d st pend))) p2 σ2 H3 ∧
      (∀ c, c < w.heap.size → ¬ p.f c → c ≠ l → (w'.putObj l (.loop (recOfA asg fn tmps #[t] body d st pend))).heap[c]? = w.heap[c]?) ∧ Shape w (w'.putObj l (.loop (recOfA asg fn tmps #[t] body d st pend))) := fun st pend => by
    have hsh3 : Shape w' (w'.putObj l (.loop (recOfA asg fn tmps #[t] body d st pend))) := Shape.putLoop hrec _
    have oth3 : ∀ b, b ≠ l → (w'.putObj l (.loop (recOfA asg fn tmps #[t] body d st pend))).heap[b]? = w'.heap[b]? := fun b hb => World.putObj_heap_other hb
    have sz3 : (w'.putObj l (.loop (recOfA asg fn tmps #[t] body d st pend))).heap.size = w'.heap.size := by simp
    have rec3 : (w'.putObj l (.loop (recOfA asg fn tmps #[t] body d st pend))).heap[l]? = some (.loop (recOfA asg fn tmps #[t] body d st pend)) := World.putObj_heap_same hll'
    generalize w'.putObj l (.loop (recOfA asg fn tmps #[t] body d st pend)) = w3 at *
    have hshA : Shape w w3 := (hsh2.trans g2.shape).trans hsh3
    have grown : ∀ b, ¬ pR.u b → b < w'.heap.size → (grow p w w3).f b := fun b hb hbl => (new b hb).imp id fun h => ⟨h, by omega, fun hr => by have := hlt b (p.sub b hr); omega⟩
    have rsame : ∀ b, p2.r b → w3.heap[b]? = w'.heap[b]? := fun b hb => oth3 b fun e => h2l (e ▸ hb)
    have osame : ∀ b, pO.r b → w3.heap[b]? = w.heap[b]? := fun b hb => (oth3 b fun e => hlr (e ▸ hb)).trans ((g2.same b (pR.sub b hb) (fun h => h)).trans (oth2 b fun e => hlr (e ▸ hb)))
    have lv : ∀ (i : Nat) (q : Blk) (r : Nat), H3[i]? = some (some q) → σ2[i]? = some r → ¬ p2.u r ∧ r < w'.heap.size := fun i q r h1 h2 => by
      obtain ⟨r', z1, z2, z3, _⟩ := r1.heap.blk i q h1
      rw [h2] at z1
      injection z1 with z1
      subst z1
      exact ⟨z2, z3⟩
    refine ⟨⟨hM.bl, hl3, r1.heap.same hY3 (fun _ h => h) rsame hsh3 (fun b hb => by rw [sz3]; exact r1.heap.lt b hb) fun i q r h1 h2 => ⟨(lv i q r h1 h2).1, oth3 r fun e => (lv i q r h1 h2).1 (e ▸ hex.subu l hpl)⟩, fun i hi => (hnam i hi).trans (hM.nam i hi), hY3,
      fun b hb => hex.subr b (hM.subr b hb), fun b hb => ?_, fun i r q h1 h2 => grown r (fun h => (lv i q r h1 h2).1 (hex.subu r h)) (lv i q r h1 h2).2, hM.p0r, fun u => (hM.env u).mono' (p := pO) (p' := p2) (fun b hb => hex.subr b hb) osame hshA (fun _ _ h => h), rec3⟩, fun c hc hcf hcl => ?_, hshA⟩
    · rcases hex.back b hb with h | h
      · exact (hM.back b h).imp id .inl
      · exact .inr (grown b h (r1.heap.lt b (p2.sub b hb)))
    · exact (oth3 c hcl).trans ((g2.same c ⟨hc, fun h => hcf (hlive c h).1⟩ (fun h => h)).trans (oth2 c hcl))
  cases ae with
  | normal =>
    obtain ⟨f1, f2, f3⟩ := fin .ready none
    exact ⟨_, _, run_endRound none hrec, true, rfl, fun _ => ⟨p2, σ2, H3, hJ3, f1⟩, fun h => by simp at h, f2, f3⟩
  | exit i =>
    obtain ⟨f1, f2, f3⟩ := fin .done (some (.exit i))
    exact ⟨_, _, run_endRound (some (.exit i)) hrec, false, rfl, fun h => by simp at h, fun _ => ⟨p2, σ2, H3, .exit i, _, hJ3, rfl, f1⟩, f2, f3⟩
  | goto i =>
    obtain ⟨f1, f2, f3⟩ := fin .done (some (.goto i))
    exact ⟨_, _, run_endRound (some (.goto i)) hrec, false, rfl, fun h => by simp at h, fun _ => ⟨p2, σ2, H3, .goto i, _, hJ3, rfl, f1⟩, f2, f3⟩
  | ret =>
    obtain ⟨f1, f2, f3⟩ := fin .done (some .ret)
    exact ⟨_, _, run_endRound (some .ret) hrec, false, rfl, fun h => by simp at h, fun _ => ⟨p2, σ2, H3, .ret, _, hJ3, rfl, f1⟩, f2, f3⟩
theorem W_rangeA {gop : Operand} {f : FuncId} {fs cs fs0 cs0 : List AV} (gl : List Nat) {H H0 : Heap} {ρ : Env} {n m : Nat} {df : List Nat} {t u0 : Tmp} {asg : Code} {body : Code} {Q : AEx → St → Prop} (xs : List AV) (J : Nat → Heap → Prop) (JZ : AEx → Heap → Prop)
    (hg : evalO (get ρ) gop = .clos (.func f) fs cs) (hlt : (gl.all fun x => Nat.blt x H.length) = true) (hnd : noDup gl = true) (hle : HLe gl gl.length H H0 gl) (hfs : fs = renL (gOf gl) fs0) (hcs : cs = renL (gOf gl) cs0)
    (hlf : lowL gl.length fs0 = true) (hlc : lowL gl.length cs0 = true) (ht : t < n) (hu0 : u0 < n) (hasg : AsgOk P asg t u0) (hY : noY H = true) (hxs : ∀ (k : Nat) (x : AV), xs[k]? = some x → plain x = true)
    (hcall : ∀ Y : Ysp, Y.xs = xs → YLaw P Y → Tri P f (fs0 ++ [.clos (.yield Y.l) [] []] ++ cs0) (H0 ++ [some (.yl Y 0)]) fun v H1 => H1[gl.length]? = some (some (.yl Y xs.length)) ∨ H1[gl.length]? = some (some (.yz Y)))
    (hJ0 : J 0 (hide gl H 0 ++ [some .dfr]))
    (hround : ∀ (l k : Nat) (x : AV) (H' : Heap), xs[k]? = some x → J k H' → H.length + 1 ≤ H'.length → noY H' = true → W P (some l) body (RdBack J JZ k n (H.length + 1)) ⟨(u0, x) :: (t, x) :: ρ, n, H', H.length + 1, []⟩)
    (hend : ∀ H', J xs.length H' → H.length + 1 ≤ H'.length → noY H' = true → Q .normal ⟨ρ, n, H', m, H.length :: df⟩)
    (hZ : ∀ e H' c, isExit e c → JZ e H' → H.length + 1 ≤ H'.length → noY H' = true → Q e ⟨ρ, n, H', m, H.length :: df⟩) :
    W P none (.rangeFunc gop #[t] asg body) Q ⟨ρ, n, H, m, df⟩ := by
  rw [W_eq]
  intro p σ a w hR
  have hsz : a.tmps.size = n := hR.size
  have hH : HRel p σ H w := hR.heap
  have hlt' : ∀ x ∈ gl, x < H.length := fun x hx => by simpa [Nat.blt_eq] using List.all_eq_true.1 hlt x hx
  refine wpIn_rangeFunc fun fn _ => ?_
  have hv := evalO_rel hR gop
  simp only [hg] at hv
  generalize hve : a.eval gop = v at hv
  cases hv with
  | clos _ _ _ fs' cs' h1 h2 h3 h4 =>
  let rec_ : Loop := recOfA asg fn a.tmps #[t] body w.heap.size .ready none
  let wd : World := pushW w (.deferred (some []))
  let w1 : World := pushW wd (.loop rec_)
  let l : Nat := w.heap.size + 1
  let σb := σ ++ [w.heap.size]
  have hszd : wd.heap.size = w.heap.size + 1 := pushW_size
  have hsz1 : w1.heap.size = w.heap.size + 2 := by simp [w1, pushW_size, hszd]
  have exd : Ext p w p wd := .push hH.lt _
  have hltd : ∀ b, p.u b → b < wd.heap.size := fun b hb => by have := hH.lt b hb; omega
  have ex1 : Ext p wd p w1 := .push hltd _
  have exA : Ext p w p w1 := exd.trans ex1
  have old : ∀ b, b < w.heap.size → w1.heap[b]? = w.heap[b]? := fun b hb => (pushW_old (by omega)).trans (pushW_old hb)
  have hlrec : w1.heap[l]? = some (.loop rec_) := by
    show w1.heap[w.heap.size + 1]? = _
    rw [← hszd]
    exact pushW_new
  have hHd : HRel p σb (H ++ [some .dfr]) wd := hH.push _ .dfr pushW_new
  have hlive : ∀ (i r : Nat) (k : Blk), (H ++ [some Blk.dfr])[i]? = some (some k) → σb[i]? = some r → ¬ p.u r ∧ r < wd.heap.size := fun i r k hk hr => by
    obtain ⟨r', z1, z2, z3, _⟩ := hHd.blk i k hk
    rw [hr] at z1
    injection z1 with z1
    subst z1
    exact ⟨z2, z3⟩
  have hYd : noY (H ++ [some .dfr]) = true := noY_of fun i k hk => by
    rcases Nat.lt_or_ge i H.length with hi | hi
    · rw [List.getElem?_append_left hi] at hk
      exact noY_get hY hk
    · rw [List.getElem?_append_right hi] at hk
      cases hj : i - H.length with
      | zero => rw [hj] at hk; simp at hk; subst hk; rfl
      | succ j => rw [hj] at hk; simp at hk
  have hH1 : HRel p σb (H ++ [some .dfr]) w1 := hHd.same hYd (fun _ h => h) (fun b hb => ex1.same b (p.sub b hb) fun hf => p.fr b hf hb) ex1.shape (fun b hb => by have := hltd b hb; omega) fun i k r hk hr =>
    ⟨(hlive i r k hk hr).1, pushW_old (hlive i r k hk hr).2⟩
  let Hb : Heap := hide gl H 0 ++ [some .dfr]
  obtain ⟨hhl, hhg⟩ := hide_get gl H 0
  have hbl : Hb.length = H.length + 1 := by simp [Hb, hhl]
  have hbg : ∀ (i : Nat) (k : Blk), Hb[i]? = some (some k) → i ∉ gl ∧ (H ++ [some Blk.dfr])[i]? = some (some k) := fun i k hk => by
    rcases Nat.lt_or_ge i H.length with hi | hi
    · rw [List.getElem?_append_left (by rw [hhl]; exact hi)] at hk
      obtain ⟨z1, z2⟩ := hhg i k hk
      exact ⟨by simpa using z1, by rw [List.getElem?_append_left hi]; exact z2⟩
    · rw [List.getElem?_append_right (by rw [hhl]; exact hi), hhl] at hk
      exact ⟨fun hm => by have := hlt' i hm; omega, by rw [List.getElem?_append_right hi]; exact hk⟩
  have hHb : HRel p σb Hb w1 := hH1.less (by rw [hbl]; simp) fun i k hk => (hbg i k hk).2
  let L : Nat → Prop := fun r => ∃ (i : Nat) (k : Blk), Hb[i]? = some (some k) ∧ σb[i]? = some r
  have hL : ∀ r, L r → ¬ p.u r ∧ r < wd.heap.size := fun r ⟨i, k, z1, z2⟩ => hlive i r k (hbg i k z1).2 z2
  let p0 : PQ := ⟨p.r, fun b => p.u b ∨ L b, L, fun b h => .inl (p.sub b h), fun b h => .inr h, fun b h hr => (hL b h).1 (p.sub b hr)⟩
  have hσl : σ.length = H.length := hH.len
  have σleft : ∀ (i r : Nat), σ[i]? = some r → σb[i]? = some r := mono_append _
  let Y := mkYA asg p ρ a.tmps (H.length + 1) σb l fn t body w.heap.size xs J JZ
  have hMid : Mid p ρ a.tmps (H.length + 1) σb l rec_ p0 w1 p σb Hb :=
    ⟨by simp [σb, hσl], Nat.le_of_eq hbl.symm, hHb, fun _ _ => rfl, noY_of fun i k hk => noY_get hYd (hbg i k hk).2, fun _ h => h, fun b h => .inl h, fun i r k hk hr => ⟨i, k, hk, hr⟩, fun _ h => h, fun u => (hR.env u).mono exA σleft, hlrec⟩
  have hlaw : YLaw P Y := mkYA_law (by rw [hsz]; exact ht) (by rw [hsz]; exact hu0) hasg hxs fun k x H' e1 e2 e3 e4 => by rw [hsz]; exact hround l k x H' e1 e2 e3 e4
  have hT := hcall Y rfl hlaw
  rw [Tri_eq] at hT
  obtain ⟨hent, hT⟩ := hT
  have hlen0 : H0.length = gl.length := (HLe_get H0 gl hle).1
  have hget0 := (HLe_get H0 gl hle).2
  have hsg := renS_get (σ := σ) (g := gl) rfl (by rw [hσl]; exact hlt')
  have hgi : ∀ (i j : Nat), gl[i]? = some j → (renS gl σ)[i]? = σ[j]? := fun i j h => by
    have hi := (List.getElem?_eq_some_iff.1 h).1
    rw [hsg i hi]
    simp [gOf, List.getD_eq_getElem?_getD, h]
  have hY0 : noY H0 = true := noY_of fun i k hk => by
    obtain ⟨j, z1, z2, _⟩ := hget0 i k hk
    have := noY_get hY z2
    cases k <;> first | rfl | simp [renB, isY] at this
  have hH0 : HRel p (renS gl σ) H0 wd := (hH.ren hlt' hnd hle).same hY0 (fun _ h => h) (fun b hb => exd.same b (p.sub b hb) fun hf => p.fr b hf hb) exd.shape hltd fun i k r hk hr => by
    obtain ⟨r', z1, z2, z3, _⟩ := (hH.ren hlt' hnd hle).blk i k hk
    rw [hr] at z1
    injection z1 with z1
    subst z1
    exact ⟨z2, pushW_old z3⟩
  have hH0' : HRel p0 (renS gl σ) H0 wd := hH0.same hY0 (fun _ h => h) (fun _ _ => rfl) (.refl wd) (fun b hb => hb.elim (hltd b) fun h => (hL b h).2) fun i k r hk hr => by
    obtain ⟨r', z1, z2, z3, _⟩ := hH0.blk i k hk
    rw [hr] at z1
    injection z1 with z1
    subst z1
    refine ⟨fun hu => hu.elim z2 fun ⟨j, q, y1, y2⟩ => ?_, rfl⟩
    obtain ⟨j0, e1, e2, _⟩ := hget0 i k hk
    rw [hgi i j0 e1] at hr
    obtain ⟨f1, f2⟩ := hbg j q y1
    have hj0 : j0 < H.length := (List.getElem?_eq_some_iff.1 e2).1
    have := hHd.inj j j0 r q _ f2 (by rw [List.getElem?_append_left hj0]; exact e2) y2 (σleft _ _ hr)
    subst this
    exact f1 (List.mem_iff_getElem?.2 ⟨i, e1⟩)
  have hHc : HRel p0 (renS gl σ ++ [wd.heap.size]) (H0 ++ [some (.yl Y 0)]) w1 := hH0'.push _ (.yl Y 0) ⟨hszd, p, σb, Hb, hJ0, hMid⟩
  let yv : Value := .func (.yield l) #[] #[]
  refine ⟨l, [{ target := .collected w.heap.size, args := #[] }], w1, { target := .fn (.func f) cs', args := fs' ++ #[yv] }, w1, f, fs' ++ #[yv] ++ cs', w1, run_enterLoop_outer fn a.tmps #[t] asg body, ?_, fun _ _ => trivial, ?_, fun h => by simp [Fr, Fence.wide] at h, ?_⟩
  · have hconst : a.eval (.const (.func (.yield l) #[] #[])) = yv := rfl
    simp [resolve, rangeCall, hve, Deferred.ofValue, hconst]
  · simp only [invoke]
    exact enter_run hent
  have hargs : (fs' ++ #[yv] ++ cs').size = (fs0 ++ [AV.clos (.yield Y.l) [] []] ++ cs0).length ∧
      ∀ (i : Nat) (x : AV) (v : Value), (fs0 ++ [AV.clos (.yield Y.l) [] []] ++ cs0)[i]? = some x → (fs' ++ #[yv] ++ cs')[i]? = some v → VRel p0 (renS gl σ ++ [wd.heap.size]) w1 x v := by
    have part : ∀ (xs xs0 : List AV) (vs : Array Value), xs = renL (gOf gl) xs0 → lowL gl.length xs0 = true → vs.size = xs.length → (∀ (i : Nat) (x : AV) (v : Value), xs[i]? = some x → vs[i]? = some v → VRel p σ w x v) →
        vs.size = xs0.length ∧ ∀ (i : Nat) (x : AV) (v : Value), xs0[i]? = some x → vs[i]? = some v → VRel p0 (renS gl σ ++ [wd.heap.size]) w1 x v := fun xs xs0 vs hx hl hs hr => by
      subst hx
      rw [renL_length] at hs
      refine ⟨hs, fun i x v hx hv => ?_⟩
      have z := hr i (Eng.ren (gOf gl) x) v (by rw [renL_get, hx]; rfl) hv
      exact (z.ren hsg x rfl (lowL_get hl hx)).mono' (p := p) (p' := p0) (fun _ h => h) (fun b hb => exA.same b (p.sub b hb) fun hf => p.fr b hf hb) exA.shape (mono_append _)
    obtain ⟨q1, q2⟩ := part fs fs0 fs' hfs hlf h1 h3
    obtain ⟨r1, r2⟩ := part cs cs0 cs' hcs hlc h2 h4
    obtain ⟨u1, u2⟩ := rel_append (p := p0) (σ := renS gl σ ++ [wd.heap.size]) (w := w1) (xs := fs0) (ys := [AV.clos (.yield Y.l) [] []]) (us := fs') (vs := #[yv]) q1 q2 rfl (fun i x v hx hv => by
      cases i with
      | zero =>
        simp at hx hv
        subst hx hv
        exact .clos (.yield l) [] [] #[] #[] rfl rfl (fun i x v h => by simp at h) (fun i x v h => by simp at h)
      | succ i => simp at hx)
    exact rel_append u1 u2 r1 r2
  show CallsIn (Fr none) 0 P f _ w1 _
  refine callsIn_of ((hT p0 _ w1 _ hHc hargs.1 hargs.2).mono ?_)
  rintro e w2 ⟨v, x, p1, σ1, H1, rfl, hex, hm1, hHR1, _, hq⟩
  have hl1 : σ1[gl.length]? = some l := hm1 _ _ (by
    rw [List.getElem?_append_right (by simp [renS])]
    simp [renS, hszd, l])
  have hul1 : ∀ (k : Blk), H1[gl.length]? = some (some k) → ¬ p1.u l ∧ BRel p1 σ1 w2 k l := fun k hk => by
    obtain ⟨r, z1, z2, _, z4⟩ := hHR1.blk _ k hk
    rw [hl1] at z1
    injection z1 with z1
    subst z1
    exact ⟨z2, z4⟩
  have fin : ∀ (st : LoopState) (pend : Option Code) (pO : PQ) (σO : List Nat) (H' : Heap) (o : Obj), ¬ p1.u l → Mid p ρ a.tmps (H.length + 1) σb l (recOfA asg fn a.tmps #[t] body w.heap.size st pend) p1 w2 pO σO H' → H.length + 1 ≤ H'.length ∧ noY H' = true ∧
      ∃ pf, Ext p w pf (w2.putObj l o) ∧ (∀ i, i < m → σO[i]? = σ[i]?) ∧ Rel pf σO ⟨ρ, n, H', m, H.length :: df⟩ { a with defers := [{ target := .collected w.heap.size, args := #[] }] ++ a.defers } (w2.putObj l o) := fun st pend pO σO H' o hul hM => by
    have hsh4 : Shape w2 (w2.putObj l o) := Shape.putLoop hM.lrec o
    have oth4 : ∀ b, b ≠ l → (w2.putObj l o).heap[b]? = w2.heap[b]? := fun b hb => World.putObj_heap_other hb
    have sz4 : (w2.putObj l o).heap.size = w2.heap.size := by simp
    generalize w2.putObj l o = w4 at *
    have p1f : ∀ b, p1.f b → ¬ p.u b := fun b hb hu => (hex.backf b hb).elim (fun h => (hL b h).1 hu) fun h => h (.inl hu)
    have hlr : ¬ pO.r l := fun h => (hM.back l h).elim (fun h => by have := hH.lt l (p.sub l h); omega) fun h => hul (p1.fu l h)
    have lv : ∀ (i r : Nat) (k : Blk), H'[i]? = some (some k) → σO[i]? = some r → ¬ pO.u r := fun i r k hk hr => by
      obtain ⟨r', z1, z2, _⟩ := hM.heap.blk i k hk
      rw [hr] at z1
      injection z1 with z1
      subst z1
      exact z2
    let pf : PQ := ⟨pO.r, fun b => p.u b ∨ pO.r b, p.f, fun _ h => .inr h, fun b h => .inl (p.fu b h), fun b h hr => (hM.back b hr).elim (p.fr b h) fun h1 => p1f b h1 (p.fu b h)⟩
    have σfin : ∀ (i r : Nat), σb[i]? = some r → σO[i]? = some r := fun i r hi => by
      rw [hM.nam i (by rw [← hM.bl]; exact (List.getElem?_eq_some_iff.1 hi).1)]
      exact hi
    have rsame : ∀ b, pO.r b → w4.heap[b]? = w2.heap[b]? := fun b hb => oth4 b fun e => hlr (e ▸ hb)
    refine ⟨hM.len, hM.noY, pf, ⟨fun b hb => hM.subr b hb, fun b hb => .inl hb, fun b hb => (hM.back b hb).imp id (p1f b), fun _ h => h, fun _ h => .inl h, fun b hb hf => ?_, (exA.shape.trans hex.shape).trans hsh4⟩, fun i hi => ?_, ⟨hsz, ?_, fun u => ?_, ?_, ?_⟩⟩
    · have hbw := hH.lt b hb
      exact (oth4 b (by omega)).trans ((hex.same b (.inl hb) fun h => (hL b h).1 hb).trans (old b hbw))
    · have hi' : i < H.length := Nat.lt_of_lt_of_le hi hR.m
      rw [hM.nam i (by omega), List.getElem?_append_left (by rw [hσl]; exact hi')]
    · refine ⟨⟨w.heap.size, σfin _ _ ?_, rfl⟩, DRel.mono (fun i r h => σfin i r (σleft i r h)) _ _ hR.df⟩
      rw [← hσl]
      simp [σb]
    · exact (hM.env u).mono' (p := pO) (p' := pf) (fun _ h => h) rsame hsh4 σfin
    · refine hM.heap.same hM.noY (fun _ h => h) rsame hsh4 (fun b hb => ?_) fun i k r hk hr => ⟨fun h => h.elim (p1f r (hM.live i r k hk hr)) fun h => lv i r k hk hr (pO.sub r h), oth4 r fun e => hul (p1.fu l (e ▸ hM.live i r k hk hr))⟩
      rw [sz4]
      exact hb.elim (fun h => by have := hH.lt b h; have := (exA.shape.trans hex.shape).1; omega) fun h => hM.heap.lt b (pO.sub b h)
    · exact Nat.le_trans hR.m (Nat.le_trans (Nat.le_succ _) hM.len)
  rcases hq with hq | hq
  · obtain ⟨hul, hb⟩ := hul1 _ hq
    obtain ⟨_, pO, σO, H', hJ, hM⟩ := hb
    obtain ⟨f1, f2, pf, f3, f4, f5⟩ := fin _ _ pO σO H' (.loop { recOfA asg fn a.tmps #[t] body w.heap.size .ready none with state := .exhausted }) hul hM
    refine ⟨none, _, run_endLoop hM.lrec (by simp [recOfA]), ?_⟩
    exact ⟨.normal, pf, σO, _, rfl, f3, f4, f5, rfl, rfl, hend H' hJ f1 f2⟩
  · obtain ⟨hul, hb⟩ := hul1 _ hq
    obtain ⟨_, pO, σO, H', e, c, hJ, hc, hM⟩ := hb
    obtain ⟨f1, f2, pf, f3, f4, f5⟩ := fin _ _ pO σO H' (.loop { recOfA asg fn a.tmps #[t] body w.heap.size .done (some c) with state := .exhausted }) hul hM
    refine ⟨some c, _, run_endLoop hM.lrec (by simp [recOfA]), ?_⟩
    have post : Post p w σ ⟨ρ, n, H, m, df⟩ Q (exR e) { a with defers := [{ target := .collected w.heap.size, args := #[] }] ++ a.defers } (w2.putObj l (.loop { recOfA asg fn a.tmps #[t] body w.heap.size .done (some c) with state := .exhausted })) :=
      ⟨e, pf, σO, _, rfl, f3, f4, f5, rfl, rfl, hZ e H' c hc hJ f1 f2⟩
    cases e with
    | normal => exact hc.elim
    | exit i => obtain rfl := hc; exact wpIn_exit post
    | goto i => obtain rfl := hc; exact wpIn_goto post
    | ret => obtain rfl := hc; exact wpIn_ret post
end
end Go.Eng
set_option maxRecDepth 100000
set_option linter.unusedVariables false
set_option linter.unusedSimpArgs false
namespace Go.Eng
open Go Go.Proofs
def baseH (x : AV) : Heap := [some (.row [.nsl]), some (.row [.i 0]), some (.row [x]), none, none, none, some .dfr]
theorem cs3 {l : List Step} : ∀ r ∈ l.map Step.cs, r.length = 3 := by
  intro r hr; obtain ⟨x, _, rfl⟩ := List.mem_map.1 hr; rfl
set_option maxHeartbeats 2000000 in
theorem prog_Parse (s : List UInt8) (hs : s.length ≤ 1000000) : Fn Tryd.prog 9 [.d (str s)] (.tup [.d (stepsD (parseV s).1), .i (parseV s).2]) := by
  refine Fn_of tt_ok Tryd.func9 rfl (by decide) Tryd.ntmps9 rfl ?_
  by_cases hn : s = []
  · subst hn
    have e : parseV [] = ([], 0) := by unfold parseV; rfl
    rw [e]
    have hb : ((⟨#[]⟩ : ByteArray).toList == (⟨#[]⟩ : ByteArray).toList) = true := by simp
    repeat' ((conv => whnf); (first
      | (refine Br_true hb ?_)
      | (refine Br_true (by assumption) ?_)
      | (refine Br_false (by assumption) ?_)
      | (refine Br_true (beqT (by omega)) ?_)
      | (refine Br_false (beqF (by omega)) ?_)
      | (refine Br_beq (fun h => ?_) (fun h => ?_))
      | (refine Br_true (bneT (by omega)) ?_)
      | (refine Br_false (bneF (by omega)) ?_)
      | (refine Br_bne (fun h => ?_) (fun h => ?_))
      | (refine Br_true (decide_eq_true (by omega)) ?_)
      | (refine Br_false (decide_eq_false (by omega)) ?_)
      | (refine Br_dec (fun h => ?_) (fun h => ?_))
      | (refine Br_not ?_)
      | (refine Len_in (fun hlen => ?_))
      | (refine finD (F := []) (FV_tup2 .nsl (.same _ rfl)))
      | (refine Br_split (fun h => ?_) (fun h => ?_))
      | (refine fin0 rfl ?_)
      | (refine ArK_in (wrap_i64 (by omega) (by omega)) ?_)
      | (refine force_in ?_)))
  have hb : ((⟨s.toArray⟩ : ByteArray).toList == (⟨#[]⟩ : ByteArray).toList) = false := by
    rw [str_toList, show (⟨#[]⟩ : ByteArray).toList = [] from str_toList []]
    simpa using hn
  have hsl := split_mem_len 59 s
  have hnl := splitL_ne 59 s
  have hsq := split_seq s
  have hsq1 := split_seq1 s hs
  have e : parseV s = if (splitL 59 s).length ≤ 16 ∧ ∀ w ∈ splitL 59 s, (readV w).2 = true then ((splitL 59 s).map fun w => (readV w).1, 0) else ([], 13) := by unfold parseV; rw [if_neg hn]
  generalize splitL 59 s = ws at *
  repeat' ((conv => whnf); (first
    | (refine Br_false hb ?_)
    | (refine Br_true (by assumption) ?_)
    | (refine Br_false (by assumption) ?_)
    | (refine Br_true (beqT (by omega)) ?_)
    | (refine Br_false (beqF (by omega)) ?_)
    | (refine Br_beq (fun h => ?_) (fun h => ?_))
    | (refine Br_true (bneT (by omega)) ?_)
    | (refine Br_false (bneF (by omega)) ?_)
    | (refine Br_bne (fun h => ?_) (fun h => ?_))
    | (refine Br_true (decide_eq_true (by omega)) ?_)
    | (refine Br_false (decide_eq_false (by omega)) ?_)
    | (refine Br_dec (fun h => ?_) (fun h => ?_))
    | (refine Br_not ?_)
    | (refine Len_in (fun hlen => ?_))
    | (refine Br_split (fun h => ?_) (fun h => ?_))
    | (refine fin0 rfl ?_)
    | (refine ArK_in (wrap_i64 (by omega) (by omega)) ?_)
    | (refine force_in ?_)))
  refine Tri.call hsq [] rfl rfl trivial rfl rfl rfl rfl (r := .clos (.func 45) [] [.ptr 4 0, .ptr 3 0, .ptr 5 0]) (H' := [some (.row [.nsl]), some (.row [.i 0]), some (.row [.nsl]), some (.row [.d (str s)]), some (.row [.d (str [59])]), some (.row [.i 0])]) rfl rfl ?_
  conv => whnf
  refine W_rangeA [3, 4, 5] (fs0 := []) (cs0 := [.ptr 1 0, .ptr 0 0, .ptr 2 0]) (H0 := seqH s) (ws.map fun w => .d (str w))
    (fun k H => k ≤ 16 ∧ (∀ x ∈ ws.take k, (readV x).2 = true) ∧ ((k = 0 ∧ H = baseH .nsl) ∨ (0 < k ∧ H = baseH (AccV 7 3 (((ws.take k).map fun x => (readV x).1).map Step.cs)) ++ [AccB (((ws.take k).map fun x => (readV x).1).map Step.cs)])))
    (fun e H => e = .ret ∧ parseV s = ([], 13) ∧ ∃ x more, H = [some (.row [.nsl]), some (.row [.i 13]), some (.row [x]), none, none, none, some .dfr] ++ more) rfl rfl rfl
    (by repeat (first | exact trivial | refine ⟨⟨rfl, rfl⟩, ?_⟩)) rfl rfl rfl rfl (by decide) (by decide) AsgOk_in rfl ?_ ?_ ⟨by omega, by simp, .inl ⟨rfl, rfl⟩⟩ ?_ ?_ ?_
  · intro k x hx
    rw [List.getElem?_map] at hx
    cases h : ws[k]? with
    | none => rw [h] at hx; simp at hx
    | some c => rw [h] at hx; simp at hx; subst hx; rfl
  · intro Y hx hY
    have := hsq1 Y hx hY
    rw [hx] at this
    exact this
  · rintro l k x H' hx ⟨hk16, hok, hH⟩ hl hY
    obtain ⟨wd, hwd, rfl⟩ : ∃ wd, ws[k]? = some wd ∧ x = .d (str wd) := by
      rw [List.getElem?_map] at hx
      cases h : ws[k]? with
      | none => rw [h] at hx; simp at hx
      | some c => rw [h] at hx; simp at hx; exact ⟨c, rfl, hx.symm⟩
    have hlt : k < ws.length := (List.getElem?_eq_some_iff.1 hwd).1
    have hwe : ws[k] = wd := (List.getElem?_eq_some_iff.1 hwd).2
    have hmem : wd ∈ ws := hwe ▸ List.getElem_mem hlt
    have hlen := hsl wd hmem
    have hrd := prog_read wd (by omega)
    have htk : ws.take (k + 1) = ws.take k ++ [wd] := by rw [List.take_succ_eq_append_getElem hlt, hwe]
    have hrl : (((ws.take k).map fun x => (readV x).1).map Step.cs).length = k := by simp; omega
    refine W_padH (H2 := baseH (AccV 7 3 (((ws.take k).map fun x => (readV x).1).map Step.cs)) ++ [AccB (((ws.take k).map fun x => (readV x).1).map Step.cs)]) ?_ ?_
    · rcases hH with ⟨rfl, rfl⟩ | ⟨_, rfl⟩
      · exact .inr (by rw [List.take_zero, List.map_nil, List.map_nil, AccV_nil, AccB_nil])
      · exact .inl rfl
    have hro : (((ws.take (k + 1)).map fun x => (readV x).1).map Step.cs) = (((ws.take k).map fun x => (readV x).1).map Step.cs) ++ [(readV wd).1.cs] := by rw [htk]; simp
    have hok1 : (readV wd).2 = true → ∀ x ∈ ws.take (k + 1), (readV x).2 = true := fun h x hx => by
      rw [htk] at hx
      rcases List.mem_append.1 hx with hx | hx
      · exact hok x hx
      · simp at hx; subst hx; exact h
    have hbad : (readV wd).2 = false ∨ k = 16 → parseV s = ([], 13) := fun h => by
      rw [e, if_neg]
      rintro ⟨g1, g2⟩
      rcases h with h | h
      · rw [g2 wd hmem] at h; simp at h
      · omega
    generalize hrw : (((ws.take k).map fun x => (readV x).1).map Step.cs) = rows at *
    have hr3 : ∀ r ∈ rows, r.length = 3 := by rw [← hrw]; exact cs3
    generalize readV wd = xv at *
    obtain ⟨xs, ok⟩ := xv
    dsimp only at hrd hro hok1 hbad
    refine W_run tt_ok ?_
    cases ok
    · repeat' ((conv => whnf); (first
      | (refine Br_true (by assumption) ?_)
      | (refine Br_false (by assumption) ?_)
      | (refine Br_true (beqT (by omega)) ?_)
      | (refine Br_false (beqF (by omega)) ?_)
      | (refine Br_beq (fun h => ?_) (fun h => ?_))
      | (refine Br_true (bneT (by omega)) ?_)
      | (refine Br_false (bneF (by omega)) ?_)
      | (refine Br_bne (fun h => ?_) (fun h => ?_))
      | (refine Br_true (decide_eq_true (by omega)) ?_)
      | (refine Br_false (decide_eq_false (by omega)) ?_)
      | (refine Br_dec (fun h => ?_) (fun h => ?_))
      | (refine Br_not ?_)
      | (refine Len_in (fun hlen => ?_))
      | (refine Fn.use (hrd) rfl rfl ?_)
      | (refine CallF_in (hrd) rfl rfl ?_)
      | (refine Rd_ret ([some (.row [.nsl]), some (.row [.i 13]), some (.row [AccV 7 3 rows]), none, none, none, some .dfr] ++ [AccB rows, some (.row (xs.cs.map .d))]) (Wk_env (by repeat (first | exact trivial | refine ⟨rfl, ?_⟩))) (noY_accB rfl) (by simp) ⟨rfl, hbad (.inl rfl), _, _, rfl⟩)
      | (refine Br_split (fun h => ?_) (fun h => ?_))
      | (refine fin0 rfl ?_)
      | (refine ArK_in (wrap_i64 (by omega) (by omega)) ?_)
      | (refine force_in ?_)))
    · repeat' ((conv => whnf); (first
      | (refine Br_true (by assumption) ?_)
      | (refine Br_false (by assumption) ?_)
      | (refine Br_true (beqT (by omega)) ?_)
      | (refine Br_false (beqF (by omega)) ?_)
      | (refine Br_beq (fun h => ?_) (fun h => ?_))
      | (refine Br_true (bneT (by omega)) ?_)
      | (refine Br_false (bneF (by omega)) ?_)
      | (refine Br_bne (fun h => ?_) (fun h => ?_))
      | (refine Br_true (decide_eq_true (by omega)) ?_)
      | (refine Br_false (decide_eq_false (by omega)) ?_)
      | (refine Br_dec (fun h => ?_) (fun h => ?_))
      | (refine Br_not ?_)
      | (refine Len_in (fun hlen => ?_))
      | (refine Fn.use (hrd) rfl rfl ?_)
      | (refine CallF_in (hrd) rfl rfl ?_)
      | (refine force_in ?_)
      | (refine lenM_acc (fun h0 => ?_) (fun h0 => Len_in fun _ => ?_))
      | (refine Rd_ret ([some (.row [.nsl]), some (.row [.i 13]), some (.row [AccV 7 3 rows]), none, none, none, some .dfr] ++ [AccB rows, some (.row (xs.cs.map .d))]) (Wk_env (by repeat (first | exact trivial | refine ⟨rfl, ?_⟩))) (noY_accB rfl) (by simp) ⟨rfl, hbad (.inr (by omega)), _, _, rfl⟩)
      | (refine Br_split (fun h => ?_) (fun h => ?_))
      | (refine fin0 rfl ?_)
      | (refine ArK_in (wrap_i64 (by omega) (by omega)) ?_)
      | (refine force_in ?_)))
      all_goals
        have hk15 : k < 16 := by (try rw [h0] at hrl); simp at *; omega
        have ha := Acc_app (b := 7) (sz := 3) (rows := rows) (new := [xs.cs]) (by simp)
        refine Ch_r ?_
        conv => whnf
        refine App_acc rows [xs.cs] rfl rfl rfl rfl (by simp) hr3 (by intro r hr; simp at hr; subst hr; rfl) (by rw [hrl]; simp only [List.length_cons, List.length_nil]; omega) (Nat.le_of_ble_eq_true rfl) ?_
        repeat' ((conv => whnf); (first
          | (refine Br_true (by assumption) ?_)
          | (refine Br_false (by assumption) ?_)
          | (refine Br_true (beqT (by omega)) ?_)
          | (refine Br_false (beqF (by omega)) ?_)
          | (refine Br_beq (fun h => ?_) (fun h => ?_))
          | (refine Br_true (bneT (by omega)) ?_)
          | (refine Br_false (bneF (by omega)) ?_)
          | (refine Br_bne (fun h => ?_) (fun h => ?_))
          | (refine Br_true (decide_eq_true (by omega)) ?_)
          | (refine Br_false (decide_eq_false (by omega)) ?_)
          | (refine Br_dec (fun h => ?_) (fun h => ?_))
          | (refine Br_not ?_)
          | (refine Len_in (fun hlen => ?_))
          | (refine Br_split (fun h => ?_) (fun h => ?_))
          | (refine fin0 rfl ?_)
          | (refine ArK_in (wrap_i64 (by omega) (by omega)) ?_)
          | (refine force_in ?_)))
        conv => whnf
        refine Rd_next (baseH (.msl 7 0 (rows.length + 1) (rows.length + 1) 3) ++ [some (.row ((rows ++ [xs.cs]).flatten.map .d))]) (Wk_ren [0, 1, 2, 3, 4, 5, 6, 9] rfl rfl (by refine ⟨⟨rfl, rfl⟩, ⟨rfl, rfl⟩, ⟨rfl, rfl⟩, ⟨rfl, rfl⟩, ⟨by rw [renB_row]; rfl, lowB_row _ _⟩, trivial⟩) (by repeat (first | exact trivial | refine ⟨⟨rfl, rfl⟩, ?_⟩)) (by show 7 ≤ 8; decide) (by show ∀ i, i < 7 → gOf [0, 1, 2, 3, 4, 5, 6, 9] i = i; decide)) rfl (by simp [baseH]) ⟨by omega, hok1 rfl, .inr ⟨by omega, ?_⟩⟩
        rw [hro, ha.1, ha.2]
        rfl
  · rintro H' ⟨hk16, hok, hH⟩ hl hY
    rw [List.length_map] at hk16 hok hH
    rw [List.take_length] at hok hH
    rcases hH with ⟨h0, _⟩ | ⟨h0, rfl⟩
    · exact absurd (List.length_eq_zero_iff.1 h0) hnl
    · rw [e, if_pos ⟨hk16, hok⟩]
      have hne : ((ws.map fun x => (readV x).1).map Step.cs) ≠ [] := by simpa using hnl
      rw [AccV_cons hne, AccB_cons hne]
      repeat' ((conv => whnf); (first
        | (refine Br_true (by assumption) ?_)
        | (refine Br_false (by assumption) ?_)
        | (refine Br_true (beqT (by omega)) ?_)
        | (refine Br_false (beqF (by omega)) ?_)
        | (refine Br_beq (fun h => ?_) (fun h => ?_))
        | (refine Br_true (bneT (by omega)) ?_)
        | (refine Br_false (bneF (by omega)) ?_)
        | (refine Br_bne (fun h => ?_) (fun h => ?_))
        | (refine Br_true (decide_eq_true (by omega)) ?_)
        | (refine Br_false (decide_eq_false (by omega)) ?_)
        | (refine Br_dec (fun h => ?_) (fun h => ?_))
        | (refine Br_not ?_)
        | (refine Len_in (fun hlen => ?_))
        | (refine finD (F := [7]) (FV_tup2 (FV_tab _ rfl rfl rfl cs3) (.same _ rfl)))
        | (refine Br_split (fun h => ?_) (fun h => ?_))
        | (refine fin0 rfl ?_)
        | (refine ArK_in (wrap_i64 (by omega) (by omega)) ?_)
        | (refine force_in ?_)))
  · rintro e' H' c _ ⟨rfl, hp, x, more, rfl⟩ hl hY
    rw [hp]
    repeat' ((conv => whnf); (first
      | (refine Br_true (by assumption) ?_)
      | (refine Br_false (by assumption) ?_)
      | (refine Br_true (beqT (by omega)) ?_)
      | (refine Br_false (beqF (by omega)) ?_)
      | (refine Br_beq (fun h => ?_) (fun h => ?_))
      | (refine Br_true (bneT (by omega)) ?_)
      | (refine Br_false (bneF (by omega)) ?_)
      | (refine Br_bne (fun h => ?_) (fun h => ?_))
      | (refine Br_true (decide_eq_true (by omega)) ?_)
      | (refine Br_false (decide_eq_false (by omega)) ?_)
      | (refine Br_dec (fun h => ?_) (fun h => ?_))
      | (refine Br_not ?_)
      | (refine Len_in (fun hlen => ?_))
      | (refine finD (F := []) (FV_tup2 .nsl (.same _ rfl)))
      | (refine Br_split (fun h => ?_) (fun h => ?_))
      | (refine fin0 rfl ?_)
      | (refine ArK_in (wrap_i64 (by omega) (by omega)) ?_)
      | (refine force_in ?_)))
end Go.Eng
