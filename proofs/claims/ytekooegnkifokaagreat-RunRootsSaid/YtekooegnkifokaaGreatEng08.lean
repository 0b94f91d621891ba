/- What the seat's proofs lean on, part 8: the executor over abstract values, its soundness, and what the program's functions answer (Vis1, Fir1, Fir2, Sp7, Sp20, Sp21, PrgC, Eng42, Pag0, Pag1, Pag2, RunC, Sh1, LwC, Eng43, Ins1, Ref1, Ref2, Ref3). -/
import Derived.Test.YtekooegnkifokaaGreatEng07
import Derived.Test.YtekooegnkifokaaGreatEng04
import Derived.Lib.SplitLaws
import Derived.Lib.Join
import Derived.Lib.ItoaNum
import Derived.Test.YtekooegnkifokaaGreatEng06
import Derived.Test.YtekooegnkifokaaGreatEng05
set_option linter.all false
set_option linter.unusedVariables false
set_option linter.unusedSimpArgs false
set_option maxRecDepth 100000
set_option linter.unusedVariables false
set_option linter.unusedSimpArgs false
namespace Go.Eng
open Go Go.Proofs
theorem back_stp (l : List Stp) : Tri Tryz.prog 342 [.d (.sl (l.map Stp.cs))] [] fun v H => v = .clos (.func 370) [] [.ptr 0 0] ∧ H = [some (.row [.d (.sl (l.map Stp.cs))])] := by
  refine Tri_of (m := 0) tt_ok Tryz.func342 rfl (by decide) Tryz.ntmps342 (by rfl) rfl ?_
  repeat' ((conv => whnf); (first
   | (refine finR ?_)))
  rfl
def stpA (s : Stp) : AV := aggD s.cs
theorem stpA_dat (s : Stp) : dat (stpA s) = true := rfl
theorem back_sseq (l : List Stp) (Y : Ysp) (hx : Y.xs = backXs stpA l) (hY : YLaw Tryz.prog Y) :
    Tri Tryz.prog 370 ([] ++ [.clos (.yield Y.l) [] []] ++ [.ptr 0 0]) ([some (.row [.d (.sl (l.map Stp.cs))])] ++ [some (.yl Y 0)]) fun v H1 => noY (H1.set 1 none) = true ∧
      ((H1[1]? = some (some (.yl Y (backXs stpA l).length)) ∧ H1.set 1 none = [some (.row [.d (.sl (l.map Stp.cs))]), none]) ∨ (H1[1]? = some (some (.yz Y)) ∧ H1.set 1 none = [some (.row [.d (.sl (l.map Stp.cs))]), none])) := by
  rw [backXs_len]
  refine Tri_of (m := 2) tt_ok Tryz.func370 rfl (by decide) Tryz.ntmps370 (by rfl) rfl ?_
  have hkl : (List.map Stp.cs l).length = l.length := by simp
  repeat' ((conv => whnf); (first
   | (refine Len_in (fun hlen => ?_))
   | (refine ArK_in (wrap_i64 (by omega) (by omega)) ?_)))
  refine W_loop (fun μ s => ∃ (k : Nat), k ≤ l.length ∧ μ = l.length - k ∧
      s = ⟨[(0, .clos (.yield Y.l) [] []), (1, .ptr 0 0), (3, .i ((l.length : Int) - 1 - (k : Int)))], 19, [some (.row [.d (.sl (l.map Stp.cs))]), some (.yl Y k)], 2, []⟩) l.length
    ⟨_, ?_, 0, by omega, by omega, rfl⟩ ?_
  · refine Wk_env ⟨rfl, rfl, ?_, trivial⟩
    show AV.i (((List.map Stp.cs l).length : Int) - 1) = AV.i _
    rw [hkl]
    simp
  rintro μ s1 ⟨k, hk, rfl, rfl⟩
  refine W_run tt_ok ?_
  by_cases hlt : k < l.length
  · have hat : (l.map Stp.cs)[((l.length : Int) - 1 - (k : Int)).toNat]? = some (l.reverse[k]'(by simpa using hlt)).cs := by rw [List.getElem?_map, rev_at hlt]; rfl
    have hxk := backXs_get stpA l hlt
    rw [← hx] at hxk
    have e : (l.length : Int) - 1 - (k : Int) - 1 = (l.length : Int) - 1 - ((k + 1 : Nat) : Int) := by omega
    generalize l.reverse[k]'(by simpa using hlt) = c at *
    repeat' ((conv => whnf); (first
     | (refine Br_true (decide_eq_true (by omega)) ?_)
     | (refine Idx_in _ hat (by omega) rfl ?_)
     | (refine Yield_in 1 Y k (.tup [.i ((l.length : Int) - 1 - (k : Int)), stpA c]) rfl rfl hY rfl rfl hxk ?_ ?_)
     | (refine Back_in _ _ ⟨k + 1, by omega, rfl, rfl⟩ (by omega) ?_)
     | (refine finQ ⟨rfl, .inr ⟨rfl, rfl⟩⟩)
     | (refine ArK_in (wrap_i64 (by omega) (by omega)) ?_)))
    refine Wk_env ⟨rfl, rfl, ?_, trivial⟩
    show AV.i ((l.length : Int) - 1 - (k : Int) - 1) = AV.i _
    rw [e]
  · have hkl2 : k = l.length := by omega
    subst hkl2
    repeat' ((conv => whnf); (first
     | (refine Br_false (decide_eq_false (by omega)) ?_)
     | (refine finQ ⟨rfl, .inl ⟨rfl, rfl⟩⟩)))
def visB (e : Ev) (s : Stp) : Bool := e.bubbles || s.node == s.target
def visR (e : Ev) (L : List Stp) : List (List D) := (L.reverse.map fun s => visC s 1) ++ (L.filter (visB e)).map fun s => visC s 3
theorem cs5v {l : List Stp} {p : Int} : ∀ r ∈ l.map (fun s => visC s p), r.length = 5 := by
  intro r hr; obtain ⟨x, _, rfl⟩ := List.mem_map.1 hr; rfl
abbrev visH (e : Ev) (R : List (List D)) : Heap := [some (.row (e.cs.map .d)), some (.row [AccV 4 5 R]), none, some .dfr]
theorem aim_Visits (t : Tree) (e : Ev) (f : Nat) (L : List Stp) (hlen : L.length ≤ 1000) (h : (allOk t e.target = false ∧ L = []) ∨ (allOk t e.target = true ∧ pathO t e f e.target = some L)) :
    Fn Tryz.prog 307 [.d (treeD t), aggD e.cs] (.d (.sl (visR e L))) := by
  refine Fn_of tt_ok Tryz.func307 rfl (by decide) Tryz.ntmps307 rfl ?_
  have hP := aim_Path t e f L hlen h
  have hml : (L.map Stp.cs).length = L.length := by simp
  repeat' ((conv => whnf); (first
   | (refine Fn.use (hP) rfl rfl ?_)
   | (refine Tri.call (back_stp L) [] rfl rfl trivial rfl rfl rfl rfl rfl rfl ?_)))
  refine W_rangeG [2] (fs0 := []) (cs0 := [.ptr 0 0]) (H0 := [some (.row [.d (.sl (L.map Stp.cs))])]) (ps := [17, 18]) (backXs stpA L)
    (fun k H => (k = 0 ∧ H = visH e []) ∨ (0 < k ∧ H = visH e ((L.reverse.take k).map fun s => visC s 1) ++ [AccB ((L.reverse.take k).map fun s => visC s 1)])) (fun _ _ => False) rfl rfl rfl
    (by repeat (first | exact trivial | refine ⟨⟨rfl, rfl⟩, ?_⟩)) rfl rfl rfl rfl (by decide) rfl (backXs_args stpA stpA_dat L) (fun _ H => H = [some (.row [.d (.sl (L.map Stp.cs))]), none]) (fun Y hx hY => back_sseq L Y hx hY) (.inl ⟨rfl, by unfold visH; rw [AccV_nil]; rfl⟩) ?_ ?_ ?_
  · rintro lp k x H' hx hJ hl hY
    have hk : k < L.length := by have := (List.getElem?_eq_some_iff.1 hx).1; rwa [backXs_len] at this
    rw [backXs_get stpA L hk] at hx
    injection hx with hx
    subst hx
    have hkr : k < L.reverse.length := by simpa using hk
    have htk : (L.reverse.take (k + 1)).map (fun s => visC s 1) = (L.reverse.take k).map (fun s => visC s 1) ++ [visC (L.reverse[k]'hkr) 1] := by rw [List.take_succ_eq_append_getElem hkr]; simp
    have hrl : ((L.reverse.take k).map fun s => visC s 1).length = k := by simp; omega
    refine W_padH (H2 := visH e ((L.reverse.take k).map fun s => visC s 1) ++ [AccB ((L.reverse.take k).map fun s => visC s 1)]) ?_ ?_
    · rcases hJ with ⟨rfl, rfl⟩ | ⟨_, rfl⟩
      · exact .inr (by rw [List.take_zero, List.map_nil, AccB_nil])
      · exact .inl rfl
    have hr5 : ∀ r ∈ (L.reverse.take k).map (fun s => visC s 1), r.length = 5 := cs5v
    generalize hrw : (L.reverse.take k).map (fun s => visC s 1) = rows at *
    generalize L.reverse[k]'hkr = c at *
    have ha := Acc_app (b := 4) (sz := 5) (rows := rows) (new := [visC c 1]) (by simp)
    have hv := aim_visit c 1
    refine W_run tt_ok ?_
    skip
    refine Need_in (by by_cases h0 : rows = []; all_goals first | (subst h0; rw [AccB_nil]; rfl) | (rw [AccB_cons h0]; rfl)) ?_
    refine W_run tt_ok ?_
    repeat' ((conv => whnf); (first
     | (refine App_acc rows [visC c 1] rfl rfl rfl rfl (by simp) hr5 (by intro r hr; simp at hr; subst hr; rfl) (by rw [hrl]; simp only [List.length_cons, List.length_nil]; omega) (Nat.le_of_ble_eq_true rfl) ?_)
     | (refine W_draw 0 tt_ok mixed (by kernel_rfl) ?_)
     | (refine CallF_in (hv) rfl rfl ?_)
     | (refine force_in ?_)))
    conv => whnf
    refine Rd_next (visH e (rows ++ [visC c 1]) ++ [AccB (rows ++ [visC c 1])]) ?_ ?_ (Nat.le_of_ble_eq_true rfl) (.inr ⟨by omega, by rw [htk]⟩)
    · rw [show visH e (rows ++ [visC c 1]) = [some (.row (e.cs.map .d)), some (.row [.msl 4 0 (rows.length + 1) (rows.length + 1) 5]), none, some .dfr] by unfold visH; rw [ha.1]; rfl, ha.2]
      exact Wk_ren [0, 1, 2, 3, 6] rfl rfl ⟨⟨rfl, rfl⟩, ⟨rfl, rfl⟩, ⟨rfl, rfl⟩, ⟨by rw [renB_row]; rfl, lowB_row _ _⟩, trivial⟩ trivial (by show 4 ≤ 5; decide) (by show ∀ i, i < 4 → gOf [0, 1, 2, 3, 6] i = i; decide)
    · rw [ha.2]; rfl
  · rintro H' H1 hJ rfl hl hY
    rw [backXs_len] at hJ
    have hT : (L.reverse.take L.length).map (fun s => visC s 1) = L.reverse.map fun s => visC s 1 := by rw [List.take_of_length_le (by simp)]
    rw [hT] at hJ
    unfold visR
    have hrl : (L.reverse.map fun s => visC s 1).length = L.length := by simp
    have hr5 : ∀ r ∈ L.reverse.map (fun s => visC s 1), r.length = 5 := cs5v
    have hJ' : (L.reverse.map (fun s => visC s 1) = [] ∧ H' = visH e []) ∨ H' = visH e (L.reverse.map fun s => visC s 1) ++ [AccB (L.reverse.map fun s => visC s 1)] := by
      rcases hJ with ⟨h0, h1⟩ | ⟨_, h1⟩
      · exact .inl ⟨by rw [List.eq_nil_of_length_eq_zero h0]; rfl, h1⟩
      · exact .inr h1
    generalize L.reverse.map (fun s => visC s 1) = R1 at *
    repeat' ((conv => whnf); (first
     | (refine Len_in (fun hlen => ?_))))
    refine W_loop (fun μ s => ∃ (k : Nat), k ≤ L.length ∧ μ = L.length - k ∧
      s = ⟨[(3, .ptr 0 0), (5, .ptr 1 0), (24, .d (.sl (L.map Stp.cs))), (25, .i (L.map Stp.cs).length), (26, .i k)], 45, visH e (R1 ++ ((L.take k).filter (visB e)).map fun s => visC s 3) ++ [AccB (R1 ++ ((L.take k).filter (visB e)).map fun s => visC s 3)], 0, [.mk 3]⟩) L.length ⟨_, ?_, 0, by omega, by omega, rfl⟩ ?_
    · rw [List.take_zero, List.filter_nil, List.map_nil, List.append_nil]
      rcases hJ' with ⟨rfl, rfl⟩ | rfl
      · refine Wk.trans Wk_pad ?_
        rw [AccB_nil]
        exact Wk_renD [0, 1, 2, 3, 4] rfl rfl ⟨⟨rfl, rfl⟩, HLe_cell rfl rfl (by decide) ⟨⟨rfl, rfl⟩, trivial⟩⟩ (by repeat (first | exact trivial | refine ⟨⟨rfl, rfl⟩, ?_⟩)) (by decide) (by omega) rfl
      · exact Wk_renD [0, 1, 2, 3, 4] rfl rfl ⟨⟨rfl, rfl⟩, HLe_cell rfl rfl (by decide) ⟨⟨rfl, rfl⟩, HLe_acc rfl trivial⟩⟩ (by repeat (first | exact trivial | refine ⟨⟨rfl, rfl⟩, ?_⟩)) (by decide) (by omega) rfl
    rintro μ s1 ⟨k, hk, rfl, rfl⟩
    refine W_run tt_ok ?_
    have hfl : ((L.take k).filter (visB e)).length ≤ L.length := Nat.le_trans (List.length_filter_le _ _) (by simp; omega)
    have hR5 : ∀ r ∈ R1 ++ ((L.take k).filter (visB e)).map (fun s => visC s 3), r.length = 5 := fun r hr => by
      rcases List.mem_append.1 hr with hr | hr
      · exact hr5 r hr
      · exact cs5v r hr
    have hRl : (R1 ++ ((L.take k).filter (visB e)).map fun s => visC s 3).length ≤ 2000 := by rw [List.length_append, List.length_map]; omega
    by_cases hlt : k < L.length
    · have hidx : (L.map Stp.cs)[(k : Int).toNat]? = some (L[k]).cs := by simp [hlt]
      have htk : L.take (k + 1) = L.take k ++ [L[k]] := List.take_succ_eq_append_getElem hlt
      have e1 : visB e L[k] = true → R1 ++ ((L.take (k + 1)).filter (visB e)).map (fun s => visC s 3) = (R1 ++ ((L.take k).filter (visB e)).map fun s => visC s 3) ++ [visC L[k] 3] := fun h => by rw [htk, List.filter_append, List.map_append, List.append_assoc]; simp [h]
      have e0 : visB e L[k] = false → R1 ++ ((L.take (k + 1)).filter (visB e)).map (fun s => visC s 3) = R1 ++ ((L.take k).filter (visB e)).map fun s => visC s 3 := fun h => by rw [htk, List.filter_append]; simp [h]
      generalize R1 ++ ((L.take k).filter (visB e)).map (fun s => visC s 3) = R at *
      have hv := aim_visit L[k] 3
      generalize L[k] = c at *
      have ha := Acc_app (b := 4) (sz := 5) (rows := R) (new := [visC c 3]) (by simp)
      have fin : ∀ (ρ : Env) (x y : List AV), visB e c = true → EnvIn ρ [(3, .ptr 0 0), (5, .ptr 1 0), (24, .d (.sl (L.map Stp.cs))), (25, .i (L.map Stp.cs).length), (26, .i (k + 1 : Nat))] →
          Wk ⟨ρ, 45, [some (.row (e.cs.map .d)), some (.row [.msl 7 0 (R.length + 1) (R.length + 1) 5]), none, some .dfr, none, some (.row x), some (.row y), some (.row ((R ++ [visC c 3]).flatten.map .d))], 0, [.mk 3]⟩
            ⟨[(3, .ptr 0 0), (5, .ptr 1 0), (24, .d (.sl (L.map Stp.cs))), (25, .i (L.map Stp.cs).length), (26, .i (k + 1 : Nat))], 45, visH e (R1 ++ ((L.take (k + 1)).filter (visB e)).map fun s => visC s 3) ++ [AccB (R1 ++ ((L.take (k + 1)).filter (visB e)).map fun s => visC s 3)], 0, [.mk 3]⟩ := fun ρ x y hb hρ => by
        refine Wk.trans (Wk_env hρ) ?_
        rw [e1 hb, ha.2, show visH e (R ++ [visC c 3]) = [some (.row (e.cs.map .d)), some (.row [.msl 4 0 (R.length + 1) (R.length + 1) 5]), none, some .dfr] by unfold visH; rw [ha.1]; rfl]
        exact Wk_renD [0, 1, 2, 3, 7] rfl rfl ⟨⟨rfl, rfl⟩, ⟨rfl, rfl⟩, ⟨rfl, rfl⟩, ⟨by rw [renB_row]; rfl, lowB_row _ _⟩, trivial⟩ (by repeat (first | exact trivial | refine ⟨⟨rfl, rfl⟩, ?_⟩)) (by decide) (by omega) rfl
      have fin0 : ∀ (ρ : Env) (x y : List AV), visB e c = false → EnvIn ρ [(3, .ptr 0 0), (5, .ptr 1 0), (24, .d (.sl (L.map Stp.cs))), (25, .i (L.map Stp.cs).length), (26, .i (k + 1 : Nat))] →
          Wk ⟨ρ, 45, [some (.row (e.cs.map .d)), some (.row [AccV 4 5 R]), none, some .dfr, AccB R, some (.row x), some (.row y)], 0, [.mk 3]⟩
            ⟨[(3, .ptr 0 0), (5, .ptr 1 0), (24, .d (.sl (L.map Stp.cs))), (25, .i (L.map Stp.cs).length), (26, .i (k + 1 : Nat))], 45, visH e (R1 ++ ((L.take (k + 1)).filter (visB e)).map fun s => visC s 3) ++ [AccB (R1 ++ ((L.take (k + 1)).filter (visB e)).map fun s => visC s 3)], 0, [.mk 3]⟩ := fun ρ x y hb hρ => by
        refine Wk.trans (Wk_env hρ) ?_
        rw [e0 hb]
        exact Wk_renD [0, 1, 2, 3, 4] rfl rfl ⟨⟨rfl, rfl⟩, HLe_cell rfl rfl (by decide) ⟨⟨rfl, rfl⟩, HLe_acc rfl trivial⟩⟩ (by repeat (first | exact trivial | refine ⟨⟨rfl, rfl⟩, ?_⟩)) (by decide) (by omega) rfl
      obtain ⟨n, tg, rl⟩ := c
      obtain ⟨ety, etg, ere, ebu, eca, eco⟩ := e
      dsimp only [Stp.cs, Ev.cs] at *
      cases ebu
      · by_cases hnt : n = tg
        · have hb : visB ⟨ety, etg, ere, false, eca, eco⟩ ⟨n, tg, rl⟩ = true := by simp [visB, hnt]
          have hph : (if n = tg then (2 : Int) else 3) = 2 := if_pos hnt
          have hq : visC ⟨n, tg, rl⟩ 3 = [.int .i64 n, .int .i64 tg, .int .i64 rl, .int .i64 2, .bool false] := by unfold visC; rw [hph]; rfl
          rw [hq] at hv fin ha
          repeat' ((conv => whnf); (first
           | (refine Br_true (decide_eq_true (by omega)) ?_)
           | (refine Idx_in _ hidx (by omega) rfl ?_)
           | (refine Fn.use (hv) rfl rfl ?_)
           | (refine force_in ?_)))
          refine Ch_r ?_
          conv => whnf
          refine App_acc R [[.int .i64 n, .int .i64 tg, .int .i64 rl, .int .i64 2, .bool false]] rfl rfl rfl rfl (by simp) hR5 (by intro r hr; simp at hr; subst hr; rfl) (by simp only [List.length_cons, List.length_nil]; omega) (Nat.le_of_ble_eq_true rfl) ?_
          repeat' ((conv => whnf); (first
           | (refine Back_in _ _ ⟨k + 1, by omega, rfl, rfl⟩ (by omega) ?_)
           | (refine ArK_in (wrap_i64 (by omega) (by omega)) ?_)))
          exact fin _ _ _ hb (by repeat (first | exact trivial | refine ⟨rfl, ?_⟩))
        · have hb : visB ⟨ety, etg, ere, false, eca, eco⟩ ⟨n, tg, rl⟩ = false := by simp [visB, hnt]
          have hph : (if n = tg then (2 : Int) else 3) = 3 := if_neg hnt
          have hq : visC ⟨n, tg, rl⟩ 3 = [.int .i64 n, .int .i64 tg, .int .i64 rl, .int .i64 3, .bool false] := by unfold visC; rw [hph]; rfl
          rw [hq] at hv
          repeat' ((conv => whnf); (first
           | (refine Br_true (decide_eq_true (by omega)) ?_)
           | (refine Idx_in _ hidx (by omega) rfl ?_)
           | (refine Fn.use (hv) rfl rfl ?_)
           | (refine Back_in _ _ ⟨k + 1, by omega, rfl, rfl⟩ (by omega) ?_)
           | (refine ArK_in (wrap_i64 (by omega) (by omega)) ?_)))
          exact fin0 _ _ _ hb (by repeat (first | exact trivial | refine ⟨rfl, ?_⟩))
      · have hb : visB ⟨ety, etg, ere, true, eca, eco⟩ ⟨n, tg, rl⟩ = true := by simp [visB]
        by_cases hnt : n = tg
        · have hph : (if n = tg then (2 : Int) else 3) = 2 := if_pos hnt
          have hq : visC ⟨n, tg, rl⟩ 3 = [.int .i64 n, .int .i64 tg, .int .i64 rl, .int .i64 2, .bool false] := by unfold visC; rw [hph]; rfl
          rw [hq] at hv fin ha
          repeat' ((conv => whnf); (first
           | (refine Br_true (decide_eq_true (by omega)) ?_)
           | (refine Idx_in _ hidx (by omega) rfl ?_)
           | (refine Fn.use (hv) rfl rfl ?_)
           | (refine force_in ?_)))
          refine Ch_r ?_
          conv => whnf
          refine App_acc R [[.int .i64 n, .int .i64 tg, .int .i64 rl, .int .i64 2, .bool false]] rfl rfl rfl rfl (by simp) hR5 (by intro r hr; simp at hr; subst hr; rfl) (by simp only [List.length_cons, List.length_nil]; omega) (Nat.le_of_ble_eq_true rfl) ?_
          repeat' ((conv => whnf); (first
           | (refine Back_in _ _ ⟨k + 1, by omega, rfl, rfl⟩ (by omega) ?_)
           | (refine ArK_in (wrap_i64 (by omega) (by omega)) ?_)))
          exact fin _ _ _ hb (by repeat (first | exact trivial | refine ⟨rfl, ?_⟩))
        · have hph : (if n = tg then (2 : Int) else 3) = 3 := if_neg hnt
          have hq : visC ⟨n, tg, rl⟩ 3 = [.int .i64 n, .int .i64 tg, .int .i64 rl, .int .i64 3, .bool false] := by unfold visC; rw [hph]; rfl
          rw [hq] at hv fin ha
          repeat' ((conv => whnf); (first
           | (refine Br_true (decide_eq_true (by omega)) ?_)
           | (refine Idx_in _ hidx (by omega) rfl ?_)
           | (refine Fn.use (hv) rfl rfl ?_)
           | (refine force_in ?_)))
          refine Ch_r ?_
          conv => whnf
          refine App_acc R [[.int .i64 n, .int .i64 tg, .int .i64 rl, .int .i64 3, .bool false]] rfl rfl rfl rfl (by simp) hR5 (by intro r hr; simp at hr; subst hr; rfl) (by simp only [List.length_cons, List.length_nil]; omega) (Nat.le_of_ble_eq_true rfl) ?_
          repeat' ((conv => whnf); (first
           | (refine Back_in _ _ ⟨k + 1, by omega, rfl, rfl⟩ (by omega) ?_)
           | (refine ArK_in (wrap_i64 (by omega) (by omega)) ?_)))
          exact fin _ _ _ hb (by repeat (first | exact trivial | refine ⟨rfl, ?_⟩))
    · have hkl : k = L.length := by omega
      subst hkl
      rw [List.take_length]
      rw [List.take_length] at hR5
      generalize R1 ++ (L.filter (visB e)).map (fun s => visC s 3) = R at *
      repeat' ((conv => whnf); (first
       | (refine Br_false (decide_eq_false (by omega)) ?_)
       | (refine force_in ?_)))
      conv => whnf
      exact finD (F := [4]) (FV_acc _ rfl hR5)
  · intro e2 H' H1 c _ h
    exact h.elim
end Go.Eng
set_option maxRecDepth 100000
set_option linter.unusedVariables false
set_option linter.unusedSimpArgs false
namespace Go.Eng
open Go Go.Proofs
structure Vst where
  node : Int
  target : Int
  related : Int
  phase : Int
  capture : Bool
instance : Inhabited Vst := ⟨⟨0, 0, 0, 0, false⟩⟩
def Vst.cs (v : Vst) : List D := [.int .i64 v.node, .int .i64 v.target, .int .i64 v.related, .int .i64 v.phase, .bool v.capture]
def visV (s : Stp) (phase : Int) : Vst := ⟨s.node, s.target, s.related, if s.node = s.target then 2 else phase, phase == 1⟩
def visL (e : Ev) (L : List Stp) : List Vst := (L.reverse.map fun s => visV s 1) ++ (L.filter (visB e)).map fun s => visV s 3
theorem visL_cs (e : Ev) (L : List Stp) : (visL e L).map Vst.cs = visR e L := by
  unfold visL visR
  rw [List.map_append, List.map_map, List.map_map]
  rfl
theorem cs5w {l : List Vst} : ∀ r ∈ l.map Vst.cs, r.length = 5 := by
  intro r hr; obtain ⟨x, _, rfl⟩ := List.mem_map.1 hr; rfl
abbrev vstD (l : List Vst) : D := .sl (l.map Vst.cs)
def runC (e : Ev) (vs : List Vst) (at_ : Vst) (tk : List Hear) (st ca : Bool) : List D := e.cs ++ (vstD vs :: (at_.cs ++ [hearsD tk, .bool st, .bool ca]))
def vst0 : Vst := ⟨0, 0, 0, 0, false⟩
theorem fire_New (t : Tree) (e : Ev) (hm : mayB t = true) (hn : isN t e.target = true) (f : Nat) (L : List Stp) (hlen : L.length ≤ 1000) (h : pathO t e f e.target = some L) :
    Tri Tryz.prog 246 [.d (treeD t), aggD e.cs] [] fun v H => v = .ptr 0 0 ∧ H = [some (.row ((runC e (visL e L) vst0 [] false false).map .d))] := by
  refine Tri_of (m := 0) tt_ok Tryz.func246 rfl (by decide) Tryz.ntmps246 (by rfl) rfl ?_
  have h1 := tree_Check t
  rw [hm] at h1
  have ha : allOk t e.target = true := by unfold allOk; rw [hm, hn]; rfl
  have h2 := aim_Visits t e f L hlen (.inr ⟨ha, h⟩)
  rw [← visL_cs] at h2
  have e7 : (List.map Node.cs t).length = t.length := by simp
  have hp := nd_pos hn
  have hl := (nd_get hn).1
  repeat' ((conv => whnf); (first
   | (refine Br_false (decide_eq_false (by omega)) ?_)
   | (refine Len_in (fun hlen => ?_))
   | (refine Fn.use (h1) rfl rfl ?_)
   | (refine W_draw 0 tt_ok mixed (by kernel_rfl) ?_)
   | (refine CallF_in (h2) rfl rfl ?_)))
  all_goals (try (exfalso; omega))
  conv => whnf
  exact finW (v' := .ptr 0 0) (H' := [some (.row ((runC e (visL e L) vst0 [] false false).map .d))]) (Fin_fz [1] [] rfl rfl rfl ⟨⟨_, rfl, FB_rows ⟨.same _ rfl, .same _ rfl, .same _ rfl, .same _ rfl, .same _ rfl, .same _ rfl, .same _ rfl, .same _ rfl, .same _ rfl, .same _ rfl, .same _ rfl, .same _ rfl, .nsl, .same _ rfl, .same _ rfl, trivial⟩⟩, trivial⟩ (.ptr 1 0 0 rfl) (Nat.zero_le _) (by omega)) ⟨rfl, rfl⟩
def thereB (l : List Hear) (h : Hear) : Bool := l.any (withB h)
theorem fire_there1 (h x : Hear) : Tri Tryz.prog 345 ([] ++ [aggD x.cs] ++ [.ptr 0 0]) [some (.row (h.cs.map .d))] fun v H' => v = .b (withB h x) ∧ H' = [some (.row (h.cs.map .d))] := by
  refine Tri_of (m := 1) tt_ok Tryz.func345 rfl (by decide) Tryz.ntmps345 (by rfl) rfl ?_
  repeat' ((conv => whnf); (first
   | (refine finT rfl rfl (by repeat (first | exact trivial | refine ⟨⟨rfl, rfl⟩, ?_⟩)) ?_)))
  rfl
theorem fire_there (l : List Hear) (h : Hear) : Fn Tryz.prog 308 [.d (hearsD l), aggD h.cs] (.b (thereB l h)) := by
  refine Fn_of tt_ok Tryz.func308 rfl (by decide) Tryz.ntmps308 rfl ?_
  have hi := indexFunc_hear l 345 [] [.ptr 0 0] [some (.row (h.cs.map .d))] (withB h) fun a _ => fire_there1 h a
  have hc : Tri Tryz.prog 344 [.d (hearsD l), .clos (.func 345) [] [.ptr 0 0]] [some (.row (h.cs.map .d))] fun v H' => v = .b (thereB l h) ∧ H' = [some (.row (h.cs.map .d))] := by
    refine Tri_of (m := 1) tt_ok Tryz.func344 rfl (by decide) Tryz.ntmps344 (by rfl) rfl ?_
    have := ix_any (withB h) l
    unfold thereB
    rw [← this]
    generalize ix (withB h) l = i at *
    repeat' ((conv => whnf); (first
     | (refine Tri.use hi ?_)
     | (refine finR ?_)))
    rfl
  repeat' ((conv => whnf); (first
   | (refine Tri.use hc ?_)
   | (refine fin0 rfl ?_)))
  rfl
theorem fire_Cancelled (e : Ev) (vs : List Vst) (at_ : Vst) (tk : List Hear) (st ca : Bool) : Tri Tryz.prog 250 [.ptr 0 0] [some (.row ((runC e vs at_ tk st ca).map .d))] fun v H => v = .b ca ∧ H = [some (.row ((runC e vs at_ tk st ca).map .d))] := by
  refine Tri_of (m := 1) tt_ok Tryz.func250 rfl (by decide) Tryz.ntmps250 (by rfl) rfl ?_
  repeat' ((conv => whnf); (first
   | (refine finR ?_)))
  rfl
theorem fire_Tell (e : Ev) (vs : List Vst) (at_ : Vst) (tk : List Hear) (st ca a1 a2 a3 : Bool) : Tri Tryz.prog 248 [.ptr 0 0, aggD [.bool a1, .bool a2, .bool a3]] [some (.row ((runC e vs at_ tk st ca).map .d))] fun v H => v = .tup [] ∧
    H = [some (.row ((runC e vs at_ (if a2 then [] else tk) (st || (a1 || a2)) (ca || (a3 && e.cancel))).map .d))] := by
  refine Tri_of (m := 1) tt_ok Tryz.func248 rfl (by decide) Tryz.ntmps248 (by rfl) rfl ?_
  obtain ⟨ety, etg, ere, ebu, eca, eco⟩ := e
  cases st <;> cases ca <;> cases a1 <;> cases a2 <;> cases a3
  all_goals skip
  all_goals conv => whnf
  all_goals exact finW (v' := .tup []) (H' := [some (.row ((runC _ vs at_ _ _ _).map .d))]) (Fin_fz [0] [] rfl rfl rfl ⟨⟨_, rfl, FB_rows ⟨.same _ rfl, .same _ rfl, .same _ rfl, .same _ rfl, .same _ rfl, .same _ rfl, .same _ rfl, .same _ rfl, .same _ rfl, .same _ rfl, .same _ rfl, .same _ rfl, (by first | exact .same _ rfl | exact .nsl), .same _ rfl, .same _ rfl, trivial⟩⟩, trivial⟩ (.same _ rfl) (by decide) (by intro i hi; match i, hi with | 0, _ => rfl)) ⟨rfl, rfl⟩
end Go.Eng
set_option maxRecDepth 100000
set_option linter.unusedVariables false
set_option linter.unusedSimpArgs false
namespace Go.Eng
open Go Go.Proofs
def nextR (l : List Hear) (ty : Int) (st : Bool) : List Vst → Vst → List Hear → Option Hear × List Vst × Vst × List Hear
  | [], at_, tk => match tk.dropWhile fun h => !thereB l h with
    | h :: tk' => (some h, [], at_, tk')
    | [] => (none, [], at_, [])
  | v :: vs, at_, tk => match tk.dropWhile fun h => !thereB l h with
    | h :: tk' => (some h, v :: vs, at_, tk')
    | [] => if st then (none, v :: vs, at_, []) else nextR l ty st vs v (l.filter (forB v.node ty v.capture))
theorem nextR_hit {l : List Hear} {ty : Int} {st : Bool} {vs : List Vst} {at_ : Vst} {tk tk' : List Hear} {h : Hear} (hd : (tk.dropWhile fun h => !thereB l h) = h :: tk') : nextR l ty st vs at_ tk = (some h, vs, at_, tk') := by
  cases vs <;> simp only [nextR, hd]
theorem nextR_end {l : List Hear} {ty : Int} {st : Bool} {vs : List Vst} {at_ : Vst} {tk : List Hear} (hd : (tk.dropWhile fun h => !thereB l h) = []) (hs : st = true ∨ vs = []) : nextR l ty st vs at_ tk = (none, vs, at_, []) := by
  cases vs with
  | nil => simp only [nextR, hd]
  | cons v vs => simp only [nextR, hd]; rw [if_pos (hs.resolve_right (by simp))]
theorem nextR_on {l : List Hear} {ty : Int} {st : Bool} {v : Vst} {vs : List Vst} {at_ : Vst} {tk : List Hear} (hd : (tk.dropWhile fun h => !thereB l h) = []) (hs : st = false) : nextR l ty st (v :: vs) at_ tk = nextR l ty st vs v (l.filter (forB v.node ty v.capture)) := by
  simp only [nextR, hd]; rw [if_neg (by rw [hs]; simp)]
def hOf : Option Hear → Hear
  | some h => h
  | none => ⟨0, 0, false, false, 0⟩
def vOf (at_ : Vst) : Option Hear → Vst
  | some _ => at_
  | none => vst0
def callC (at_ : Vst) (r : Option Hear) : List D := (hOf r).cs ++ (vOf at_ r).cs
def runX (e : Ev) (RV : List (List D)) (at_ : Vst) (TK : List (List D)) (st ca : Bool) : List D := e.cs ++ (.sl RV :: (at_.cs ++ [.sl TK, .bool st, .bool ca]))
theorem tail_rows {a : List D} {l : List (List D)} {n : Int} (h : n = (a :: l).length) : ((a :: l).take n.toNat).drop (1 : Int).toNat = l := by
  rw [h, show (((a :: l).length : Nat) : Int).toNat = (a :: l).length by simp, List.take_length]
  rfl
theorem sameD {g F : List Nat} {H : Heap} {x y : D} (h : x = y) : FV g F H (.d x) (.d y) := by subst h; exact .same _ rfl
abbrev zC : List AV := ([.int .i64 0, .int .i64 0, .bool false, .bool false, .int .i64 0] ++ vst0.cs : List D).map .d
theorem fire_Next (e : Ev) (vs : List Vst) (at_ : Vst) (tk : List Hear) (st ca : Bool) (l : List Hear) (hl : l.length ≤ 1000) (r : Option Hear × List Vst × Vst × List Hear) (hr : nextR l e.type st vs at_ tk = r) :
    Tri Tryz.prog 247 [.ptr 0 0, .d (hearsD l)] [some (.row ((runC e vs at_ tk st ca).map .d))] fun v H => v = .tup [aggD (callC r.2.2.1 r.1), .b r.1.isSome] ∧ H = [some (.row ((runC e r.2.1 r.2.2.1 r.2.2.2 st ca).map .d))] := by
  refine Tri_of (m := 1) tt_ok Tryz.func247 rfl (by decide) Tryz.ntmps247 (by rfl) rfl ?_
  refine W_scope 0 (fun _ _ => False) rfl ?_ (fun _ _ h => h.elim)
  refine W_run tt_ok ?_
  skip
  refine W_loop (fun μ s => ∃ (vs : List Vst) (at_ : Vst) (tk : List Hear) (RV TK : List (List D)), nextR l e.type st vs at_ tk = r ∧ μ = vs.length ∧ RV = vs.map Vst.cs ∧ TK = tk.map Hear.cs ∧
      s = ⟨[(0, .ptr 0 0), (1, .d (hearsD l)), (4, .ptr 1 0)], 90, [some (.row ((runX e RV at_ TK st ca).map .d)), some (.row zC)], 1, []⟩) vs.length ⟨_, ?_, vs, at_, tk, _, _, hr, rfl, rfl, rfl, rfl⟩ ?_
  · exact Wk_env (by repeat (first | exact trivial | refine ⟨rfl, ?_⟩))
  rintro μ s1 ⟨vs1, at1, tk1, RV, TK, hr1, rfl, rfl, rfl, rfl⟩
  refine W_run tt_ok ?_
  refine W_loop (fun μ s => ∃ (tk : List Hear) (TK : List (List D)), (tk.dropWhile fun h => !thereB l h) = (tk1.dropWhile fun h => !thereB l h) ∧ μ = tk.length ∧ TK = tk.map Hear.cs ∧
      s = ⟨[(0, .ptr 0 0), (1, .d (hearsD l)), (4, .ptr 1 0)], 90, [some (.row ((runX e (vs1.map Vst.cs) at1 TK st ca).map .d)), some (.row zC)], 1, []⟩) tk1.length ⟨_, ?_, tk1, _, rfl, rfl, rfl, rfl⟩ ?_
  · exact Wk_env (by repeat (first | exact trivial | refine ⟨rfl, ?_⟩))
  rintro μ s1 ⟨tk2, TK, hd, rfl, rfl, rfl⟩
  refine W_run tt_ok ?_
  have hkl : (List.map Hear.cs tk2).length = tk2.length := by simp
  cases tk2 with
  | nil =>
    have hd0 : (tk1.dropWhile fun h => !thereB l h) = [] := by rw [← hd]; rfl
    have e0 : (List.map Hear.cs []).length = 0 := rfl
    cases vs1 with
    | nil =>
      have hq := nextR_end (l := l) (ty := e.type) (st := st) (vs := []) (at_ := at1) hd0 (.inr rfl)
      rw [hr1] at hq
      subst hq
      have e1 : (List.map Vst.cs []).length = 0 := rfl
      cases st
      all_goals repeat' ((conv => whnf); (first
       | (refine Len_in (fun hlen => ?_))
       | (refine finT rfl rfl (by repeat (first | exact trivial | refine ⟨⟨rfl, rfl⟩, ?_⟩)) ?_)))
      all_goals rfl
    | cons v vs2 =>
      have e1 : (List.map Vst.cs (v :: vs2)).length = vs2.length + 1 := by simp
      cases st
      · have hq := nextR_on (l := l) (ty := e.type) (st := false) (v := v) (vs := vs2) (at_ := at1) hd0 rfl
        rw [hr1] at hq
        have hf := listen_For l v.node e.type v.capture hl
        have hidx : (List.map Vst.cs (v :: vs2))[(0 : Int).toNat]? = some v.cs := rfl
        repeat' ((conv => whnf); (first
         | (refine Len_in (fun hlen => ?_))
         | (refine W_draw 0 tt_ok mixed (by kernel_rfl) ?_)
         | (refine Idx_in _ hidx (by omega) rfl ?_)
         | (refine CallF_in (hf) rfl rfl ?_)
         | (refine Need_in ⟨by omega, by omega, by omega, cs5w⟩ ?_)
         | (refine Back_in _ _ ⟨vs2, v, _, _, _, hq.symm, rfl, (by exact tail_rows rfl), rfl, rfl⟩ (by simp) (Wk_env (by repeat (first | exact trivial | refine ⟨rfl, ?_⟩))))))
      · have hq := nextR_end (l := l) (ty := e.type) (st := true) (vs := v :: vs2) (at_ := at1) hd0 (.inl rfl)
        rw [hr1] at hq
        subst hq
        repeat' ((conv => whnf); (first
         | (refine Len_in (fun hlen => ?_))
         | (refine finT rfl rfl (by repeat (first | exact trivial | refine ⟨⟨rfl, rfl⟩, ?_⟩)) ?_)))
        rfl
  | cons h tk3 =>
    have hth := fire_there l h
    have hidx : (List.map Hear.cs (h :: tk3))[(0 : Int).toNat]? = some h.cs := rfl
    have e1 : (List.map Hear.cs (h :: tk3)).length = tk3.length + 1 := by simp
    cases hb : thereB l h
    · rw [hb] at hth
      have hd' : (tk3.dropWhile fun h => !thereB l h) = tk1.dropWhile fun h => !thereB l h := by rw [← hd, List.dropWhile_cons]; simp [hb]
      repeat' ((conv => whnf); (first
       | (refine Br_true (decide_eq_true (by omega)) ?_)
       | (refine Len_in (fun hlen => ?_))
       | (refine Idx_in _ hidx (by omega) rfl ?_)
       | (refine Fn.use (hth) rfl rfl ?_)
       | (refine Need_in ⟨by omega, by omega, by omega, cs5h⟩ ?_)
       | (refine Back_in _ _ ⟨tk3, ((List.map Hear.cs (h :: tk3)).take ((List.map Hear.cs (h :: tk3)).length : Int).toNat).drop (1 : Int).toNat, hd', rfl, tail_rows rfl, rfl⟩ (by simp) ?_)))
      exact Wk_ren [0, 1] rfl rfl ⟨⟨rfl, rfl⟩, ⟨rfl, rfl⟩, trivial⟩ ⟨⟨rfl, rfl⟩, ⟨rfl, rfl⟩, ⟨rfl, rfl⟩, trivial⟩ (by decide) (by intro i hi; match i, hi with | 0, _ => rfl)
    · rw [hb] at hth
      have hd' : (tk1.dropWhile fun h => !thereB l h) = h :: tk3 := by rw [← hd, List.dropWhile_cons]; simp [hb]
      have hq := nextR_hit (l := l) (ty := e.type) (st := st) (vs := vs1) (at_ := at1) hd'
      rw [hr1] at hq
      subst hq
      repeat' ((conv => whnf); (first
       | (refine Br_true (decide_eq_true (by omega)) ?_)
       | (refine Len_in (fun hlen => ?_))
       | (refine W_draw 0 tt_ok mixed (by kernel_rfl) ?_)
       | (refine Idx_in _ hidx (by omega) rfl ?_)
       | (refine Fn.use (hth) rfl rfl ?_)
       | (refine Need_in ⟨by omega, by omega, by omega, cs5h⟩ ?_)))
      conv => whnf
      exact finW (v' := .tup [aggD (h.cs ++ at1.cs), .b true]) (H' := [some (.row ((runC e vs1 at1 tk3 st ca).map .d))]) (Fin_fz [0] [] rfl rfl rfl ⟨⟨_, rfl, FB_rows ⟨.same _ rfl, .same _ rfl, .same _ rfl, .same _ rfl, .same _ rfl, .same _ rfl, .same _ rfl, .same _ rfl, .same _ rfl, .same _ rfl, .same _ rfl, .same _ rfl, sameD (congrArg D.sl (tail_rows rfl)), .same _ rfl, .same _ rfl, trivial⟩⟩, trivial⟩ (.same _ rfl) (by decide) (by intro i hi; match i, hi with | 0, _ => rfl)) ⟨rfl, rfl⟩
end Go.Eng
set_option linter.unusedVariables false
set_option linter.unusedSimpArgs false
namespace Go.Eng
open Go
def digs : Nat → Nat → List UInt8
  | 0, _ => []
  | f + 1, n => if 10 ≤ n then digs f (n / 10) ++ [UInt8.ofNat (48 + n % 10)] else [UInt8.ofNat (48 + n % 10)]
end Go.Eng
set_option linter.unusedVariables false
set_option linter.unusedSimpArgs false
namespace Go.Eng
open Go
def splitL (c : UInt8) : List UInt8 → List (List UInt8)
  | [] => [[]]
  | a :: r => if a = c then [] :: splitL c r else match splitL c r with
    | w :: ws => (a :: w) :: ws
    | [] => [[a]]
def joinL (c : UInt8) : List (List UInt8) → List UInt8
  | [] => []
  | [w] => w
  | w :: ws => w ++ c :: joinL c ws
end Go.Eng
set_option linter.unusedVariables false
set_option linter.unusedSimpArgs false
namespace Go.Eng
open Go
structure Step where
  f : Int
  a : Int
  b : Int
  deriving DecidableEq, Repr
instance : Inhabited Step := ⟨⟨0, 0, 0⟩⟩
def Step.cs (x : Step) : List D := [.i x.f, .i x.a, .i x.b]
def stepsD (l : List Step) : D := .sl (l.map Step.cs)
def nameL : Nat → List UInt8
  | 0 => [102, 111, 99, 117, 115]
  | 1 => [98, 108, 117, 114]
  | 2 => [105, 110, 115, 101, 114, 116]
  | 3 => [114, 101, 109, 111, 118, 101]
  | 4 => [115, 101, 116]
  | 5 => [100, 114, 111, 112]
  | 6 => [115, 104, 111, 119]
  | 7 => [99, 108, 111, 115, 101]
  | 8 => [111, 112, 101, 110]
  | 9 => [104, 105, 100, 101]
  | 10 => [99, 108, 105, 99, 107]
  | 11 => [115, 116, 111, 112]
  | 12 => [115, 116, 111, 112, 110, 111, 119]
  | 13 => [112, 114, 101, 118, 101, 110, 116]
  | 14 => [117, 110, 108, 105, 115, 116, 101, 110]
  | _ => []
def manyN : Nat → Int
  | 0 => 1
  | 1 => 0
  | 2 => 2
  | 3 => 1
  | 4 => 2
  | 5 => 2
  | 6 => 1
  | 7 => 1
  | 8 => 1
  | 9 => 1
  | 10 => 1
  | _ => 0
theorem many_bd (k : Nat) : 0 ≤ manyN k ∧ manyN k ≤ 2 := by unfold manyN; split <;> omega
@[irreducible] def kindsL : List AV := ((List.range 15).map fun k => [AV.d (str (nameL k)), AV.i (manyN k)]).flatten
theorem kinds_len : kindsL.length = 30 := by unfold kindsL; rfl
theorem kinds_low : low 0 (.agg kindsL) = true := by unfold kindsL; rfl
theorem kinds_sub {k : Nat} (h : k < 15) : sub kindsL (k * 2) 2 = [AV.d (str (nameL k)), AV.i (manyN k)] := by
  unfold kindsL
  match k, h with
  | 0, _ => rfl
  | 1, _ => rfl
  | 2, _ => rfl
  | 3, _ => rfl
  | 4, _ => rfl
  | 5, _ => rfl
  | 6, _ => rfl
  | 7, _ => rfl
  | 8, _ => rfl
  | 9, _ => rfl
  | 10, _ => rfl
  | 11, _ => rfl
  | 12, _ => rfl
  | 13, _ => rfl
  | 14, _ => rfl
  | k + 15, h => omega
@[irreducible] def inM (n m : Int) : Bool := decide (0 ≤ n ∧ n ≤ m)
theorem inM_iff {n m : Int} : inM n m = true ↔ 0 ≤ n ∧ n ≤ m := by unfold inM; simp
@[irreducible] def nameV (n : Int) : List UInt8 := if 0 ≤ n ∧ n ≤ 14 then nameL n.toNat else []
@[irreducible] def stepB (x : Step) : Bool := inM x.f 14 && inM x.a 63 && inM x.b 63 && (decide (1 ≤ manyN x.f.toNat) || decide (x.a = 0)) && (decide (2 ≤ manyN x.f.toNat) || decide (x.b = 0))
@[irreducible] def checkB (l : List Step) : Bool := decide (l.length ≤ 16) && l.all stepB
abbrev num (n : Int) : List UInt8 := Lib.decDigits n.toNat
def wordsS (x : Step) : List (List UInt8) := nameL x.f.toNat :: (if 1 ≤ manyN x.f.toNat then [num x.a] else []) ++ (if 2 ≤ manyN x.f.toNat then [num x.b] else [])
def textS (x : Step) : List UInt8 := joinL 32 (wordsS x)
def textL (l : List Step) : List UInt8 := if checkB l = true then joinL 59 (l.map textS) else []
end Go.Eng
set_option maxRecDepth 100000
set_option linter.unusedVariables false
set_option linter.unusedSimpArgs false
namespace Go.Eng
open Go Go.Proofs
theorem prog_in (n m : Int) : Fn Tryz.prog 303 [.i n, .i m] (.b (inM n m)) := by
  refine Fn_of tt_ok Tryz.func303 rfl (by decide) Tryz.ntmps303 rfl ?_
  repeat' ((conv => whnf); (first
   | (refine Br_dec (fun h => ?_) (fun h => ?_))
   | (refine fin0 rfl ?_)))
  all_goals (simp only [AV.d.injEq, D.bool.injEq]; unfold inM; grind)
theorem prog_kinds : Fn Tryz.prog 304 [] (.agg kindsL) := by
  refine Fn_of tt_ok Tryz.func304 rfl (by decide) Tryz.ntmps304 rfl ?_
  repeat' ((conv => whnf); (first
   | (refine fin0 rfl ?_)))
  unfold kindsL
  rfl
set_option maxHeartbeats 1000000 in
theorem step_may (x : Step) : Fn Tryz.prog 238 [aggD x.cs] (.b (stepB x)) := by
  refine Fn_of tt_ok Tryz.func238 rfl (by decide) Tryz.ntmps238 rfl ?_
  have hf := prog_in x.f 14
  cases h0 : inM x.f 14 <;> rw [h0] at hf
  · have e : stepB x = false := by unfold stepB; rw [h0]; rfl
    rw [e]
    repeat' ((conv => whnf); (first
     | (refine Fn.use (hf) rfl rfl ?_)
     | (refine fin0 rfl ?_)))
    all_goals rfl
  have hn := inM_iff.1 h0
  have hm := many_bd x.f.toNat
  have hsub := kinds_sub (k := x.f.toNat) (by omega)
  have hb : 0 ≤ x.f ∧ x.f < ((15 : Nat) : Int) := by omega
  have ha := prog_in x.a 63
  have hbb := prog_in x.b 63
  have es : stepB x = (inM x.a 63 && inM x.b 63 && (decide (1 ≤ manyN x.f.toNat) || decide (x.a = 0)) && (decide (2 ≤ manyN x.f.toNat) || decide (x.b = 0))) := by unfold stepB; rw [h0]; rfl
  generalize manyN x.f.toNat = mm at *
  cases h1 : inM x.a 63 <;> rw [h1] at ha es
  · have e : stepB x = false := by rw [es]; rfl
    rw [e]
    repeat' ((conv => whnf); (first
     | (refine Fn.use (hf) rfl rfl ?_)))
    refine W_loop (fun μ s => μ = 0 ∧ s = ⟨[(1, .ptr 0 0), (13, .agg [.i x.a, .i x.b]), (14, .i 0)], 35, [some (.row [.i x.f, .i x.a, .i x.b])], 0, []⟩) 0 ⟨_, ?_, rfl, rfl⟩ ?_
    · exact Wk_env (by repeat (first | exact trivial | refine ⟨rfl, ?_⟩))
    rintro μ s1 ⟨rfl, rfl⟩
    refine W_run tt_ok ?_
    repeat' ((conv => whnf); (first
     | (refine W_draw 0 tt_ok mixed (by kernel_rfl) ?_)
     | (refine CallF_in (ha) rfl rfl ?_)
     | (refine fin0 rfl ?_)))
    all_goals rfl
  · cases h2 : inM x.b 63 <;> rw [h2] at hbb es
    all_goals
      repeat' ((conv => whnf); (first
       | (refine Fn.use (hf) rfl rfl ?_)))
      refine W_loop (fun μ s => ∃ k : Nat, k ≤ 2 ∧ μ = 2 - k ∧ (1 ≤ k → (1 ≤ mm ∨ x.a = 0)) ∧ (2 ≤ k → inM x.b 63 = true ∧ (2 ≤ mm ∨ x.b = 0)) ∧ s = ⟨[(1, .ptr 0 0), (13, .agg [.i x.a, .i x.b]), (14, .i k)], 35, [some (.row [.i x.f, .i x.a, .i x.b])], 0, []⟩) 2
        ⟨_, ?_, 0, by omega, rfl, fun h => by omega, fun h => by omega, rfl⟩ ?_
      · exact Wk_env (by repeat (first | exact trivial | refine ⟨rfl, ?_⟩))
      rintro μ s1 ⟨k, hk, rfl, f1, f2, rfl⟩
      refine W_run tt_ok ?_
      match k, hk with
      | 0, _ =>
        repeat' ((conv => whnf); (first
         | (refine Br_true (decide_eq_true hb) ?_)
         | (refine Br_true (Nat.ble_eq_true_of_le (by rw [kinds_len]; simp; omega)) ?_)
         | (refine Br_bne (fun h => ?_) (fun h => ?_))
         | (refine Br_dec (fun h => ?_) (fun h => ?_))
         | (refine W_draw 0 tt_ok mixed (by kernel_rfl) ?_)
         | (refine CallF_in (ha) rfl rfl ?_)
         | (refine CallF_in prog_kinds rfl kinds_low ?_)
         | (refine forceL_in hsub ?_)
         | (refine Back_in _ _ ⟨1, by omega, rfl, fun _ => by omega, fun h => by omega, rfl⟩ (by omega) (Wk_env (by repeat (first | exact trivial | refine ⟨rfl, ?_⟩))))
         | (refine fin0 rfl ?_)
         | (refine ArK_in (wrap_i64 (by omega) (by omega)) ?_)))
        all_goals (simp only [AV.d.injEq, D.bool.injEq]; rw [es]; simp; try omega)
      | 1, _ =>
        repeat' ((conv => whnf); (first
         | (refine Br_true (decide_eq_true hb) ?_)
         | (refine Br_true (Nat.ble_eq_true_of_le (by rw [kinds_len]; simp; omega)) ?_)
         | (refine Br_bne (fun h => ?_) (fun h => ?_))
         | (refine Br_dec (fun h => ?_) (fun h => ?_))
         | (refine W_draw 0 tt_ok mixed (by kernel_rfl) ?_)
         | (refine CallF_in (hbb) rfl rfl ?_)
         | (refine CallF_in prog_kinds rfl kinds_low ?_)
         | (refine forceL_in hsub ?_)
         | (refine Back_in _ _ ⟨2, by omega, rfl, fun _ => f1 (by omega), fun _ => ⟨h2, by omega⟩, rfl⟩ (by omega) (Wk_env (by repeat (first | exact trivial | refine ⟨rfl, ?_⟩))))
         | (refine fin0 rfl ?_)
         | (refine ArK_in (wrap_i64 (by omega) (by omega)) ?_)))
        all_goals (simp only [AV.d.injEq, D.bool.injEq]; rw [es]; simp; try omega)
      | 2, _ =>
        have g1 := f1 (by omega)
        have g2 := f2 (by omega)
        repeat' ((conv => whnf); (first
         | (refine fin0 rfl ?_)))
        all_goals (simp only [AV.d.injEq, D.bool.injEq]; rw [es]; simp [h2] at g2 ⊢; try omega)
theorem check1 (x : Step) : Fn Tryz.prog 237 [aggD x.cs] (.b (!stepB x)) := by
  refine Fn_of tt_ok Tryz.func237 rfl (by decide) Tryz.ntmps237 rfl ?_
  repeat' ((conv => whnf); (first
   | (refine Fn.use (step_may x) rfl rfl ?_)
   | (refine fin0 rfl ?_)))
  rfl
theorem indexFunc_step (l : List Step) (g : FuncId) (p : Step → Bool) (hp : ∀ a ∈ l, Fn Tryz.prog g [aggD a.cs] (.b (p a))) :
    Fn Tryz.prog 302 [.d (stepsD l), .d (.fn g)] (.i (ix p l)) := by
  refine Fn_of tt_ok Tryz.func302 rfl (by decide) Tryz.ntmps302 rfl ?_
  refine Len_in (fun hlen => ?_)
  simp only [List.length_map] at hlen
  refine W_loop (fun μ s => ∃ (k : Nat), k ≤ l.length ∧ μ = l.length - k ∧ (∀ j (h : j < l.length), j < k → p l[j] = false) ∧
      s = ⟨[(0, .d (stepsD l)), (1, .d (.fn g)), (7, .i (List.map Step.cs l).length), (8, .i k)], 19, [], 0, []⟩) l.length
    ⟨_, ?_, 0, by simp, by simp, by simp, rfl⟩ ?_
  · exact Wk_env (by repeat (first | exact trivial | refine ⟨rfl, ?_⟩))
  rintro μ s1 ⟨k, hk, rfl, hno, rfl⟩
  refine W_run tt_ok ?_
  refine Br_dec (fun h => ?_) (fun h => ?_)
  · simp at h
    refine Idx_in (l[k]).cs (by simp [h]) (by omega) rfl ?_
    have hd := ix_drop p l k hno hk
    rw [List.drop_eq_getElem_cons h] at hd
    refine Fn.use (hp l[k] (List.getElem_mem h)) rfl rfl ?_
    refine Br_split (fun hq => ?_) (fun hq => ?_)
    · repeat' ((conv => whnf); (first
     | (refine finR ?_)))
      simp only [AV.d.injEq, D.int.injEq, true_and, hd, ix]
      simp [hq]
    · repeat' ((conv => whnf); (first
     | (refine Back_in _ _ ⟨k + 1, by omega, rfl, ?_, rfl⟩ (by omega) (Wk_env (by repeat (first | exact trivial | refine ⟨rfl, ?_⟩))))
     | (refine ArK_in (wrap_i64 (by omega) (by omega)) ?_)))
      intro j hj hjk
      rcases Nat.lt_succ_iff_lt_or_eq.1 hjk with h1 | h1
      · exact hno j hj h1
      · subst h1; exact hq
  · simp at h
    have hd := ix_drop p l k hno hk
    rw [List.drop_eq_nil_of_le h] at hd
    repeat' ((conv => whnf); (first
     | (refine finR ?_)))
    simp [hd, ix]
theorem contains_step (l : List Step) : Fn Tryz.prog 236 [.d (stepsD l), .d (.fn 237)] (.b (l.any fun x => !stepB x)) := by
  refine Fn_of tt_ok Tryz.func236 rfl (by decide) Tryz.ntmps236 rfl ?_
  refine Fn.use (indexFunc_step l _ (fun x => !stepB x) fun a _ => check1 a) rfl rfl ?_
  have h := ix_any (fun x => !stepB x) l
  rw [← h]
  generalize ix (fun x => !stepB x) l = i
  repeat' ((conv => whnf); (first
   | (refine fin0 rfl ?_)))
  all_goals grind
theorem prog_Check (l : List Step) : Fn Tryz.prog 178 [.d (stepsD l)] (.i (if checkB l then 0 else 1)) := by
  refine Fn_of tt_ok Tryz.func178 rfl (by decide) Tryz.ntmps178 rfl ?_
  refine Len_in (fun hlen => ?_)
  have e : checkB l = (decide ((List.map Step.cs l).length ≤ 16) && !(l.any fun x => !stepB x)) := by
    unfold checkB
    rw [List.length_map]
    congr 1
    rw [List.all_eq_not_any_not]
  rw [e]
  have hc := contains_step l
  generalize (l.any fun x => !stepB x) = q at *
  repeat' ((conv => whnf); (first
   | (refine Br_dec (fun h => ?_) (fun h => ?_))
   | (refine Fn.use (hc) rfl rfl ?_)
   | (refine Br_split (fun h => ?_) (fun h => ?_))
   | (refine fin0 rfl ?_)))
  all_goals grind
end Go.Eng
set_option linter.unusedVariables false
set_option linter.unusedSimpArgs false
namespace Go.Eng
open Go
def Agr : Heap → List Nat → List Nat → Prop
  | [], _, _ => True
  | b :: t, x :: g, y :: h => (b = none ∨ x = y) ∧ Agr t g h
  | _ :: _, _, _ => False
theorem Agr_get : ∀ {H : Heap} {g h : List Nat}, Agr H g h → ∀ {i : Nat} {k : Blk}, H[i]? = some (some k) → h[i]? = g[i]? := by
  intro H
  induction H with
  | nil => intro g h _ i k hk; simp at hk
  | cons b t ih =>
    intro g h ha i k hk
    cases g with
    | nil => exact ha.elim
    | cons x g =>
      cases h with
      | nil => exact ha.elim
      | cons y h =>
        obtain ⟨h1, h2⟩ := ha
        cases i with
        | zero =>
          simp at hk
          subst hk
          rcases h1 with h1 | h1
          · simp at h1
          · subst h1; rfl
        | succ i => exact ih h2 (by simpa using hk)
theorem Agr_inj {H : Heap} {g g2 : List Nat} (hnd : noDup g2 = true) (hag : Agr H g g2) {i j x : Nat} {k l : Blk} (hi : H[i]? = some (some k)) (hj : H[j]? = some (some l)) (h1 : g[i]? = some x) (h2 : g[j]? = some x) : i = j :=
  noDup_inj g2 hnd i j x ((Agr_get hag hi).trans h1) ((Agr_get hag hj).trans h2)
section
variable {p : PQ} {σ : List Nat} {w : World} {H : Heap} {g F : List Nat}
theorem HRel.fzI (hH : HRel p σ H w) {H' : Heap} {g2 : List Nat} (hlt : ∀ x ∈ g, x < H.length) (hnd : noDup g2 = true) (hag : Agr H' g g2) (hap : apartL g F = true) (hle : HFz g F H H' g) : HRel (pfz p σ H F) (renS g σ) H' w := by
  obtain ⟨hlen, hget⟩ := HFz_get H' g hle
  have hs := renS_get (σ := σ) (g := g) rfl (by rw [hH.len]; exact hlt)
  have hg : ∀ (i j : Nat), g[i]? = some j → (renS g σ)[i]? = σ[j]? := fun i j h => by
    have hi := (List.getElem?_eq_some_iff.1 h).1
    rw [hs i hi]
    simp [gOf, List.getD_eq_getElem?_getD, h]
  have nfz : ∀ (i j r : Nat) (k : Blk), g[i]? = some j → H[j]? = some (some k) → σ[j]? = some r → ¬ Frozen σ H F r := fun i j r k h1 h2 h3 ⟨b, cs, hb, hcs, hr⟩ => by
    have := hH.inj b j r _ k hcs h2 hr h3
    subst this
    have := List.all_eq_true.1 (List.all_eq_true.1 hap b hb) b (List.mem_iff_getElem?.2 ⟨i, h1⟩)
    simp at this
  refine ⟨by simp [renS, hlen], fun b hb => hb.elim (hH.lt b) fun ⟨⟨i, cs, _, h2, h3⟩, _⟩ => ?_, fun i b hb => ?_, fun i j r a b ha hb hi hj => ?_, hH.gl.part fun _ h => .inl h⟩
  · obtain ⟨r, g1, g2, g3, _⟩ := hH.blk i _ h2
    rw [h3] at g1
    injection g1 with g1
    subst g1
    exact g3
  · obtain ⟨j, b0, h1, h2, h3⟩ := hget i b hb
    obtain ⟨r, g1, g2, g3, g4⟩ := hH.blk j _ h2
    refine ⟨r, by rw [hg i j h1]; exact g1, fun hu => hu.elim g2 (fun h => nfz i j r _ h1 h2 g1 h.1), g3, ?_⟩
    cases h3 with
    | row xs ys hl hv =>
      obtain ⟨c, e, fr, q1, q2, q3, q4⟩ := g4
      refine ⟨c, e, fr, q1, by omega, q3, fun k y v hy hcv => ?_⟩
      have hk : k < xs.length := by have := (List.getElem?_eq_some_iff.1 hy).1; omega
      have e1 : xs[k]? = some xs[k] := List.getElem?_eq_getElem hk
      obtain ⟨z1, z2⟩ := q4 k _ v e1 hcv
      exact ⟨VRel.fz hH hg (hv k _ y e1 hy) v z1, z2⟩
    | iter s pos => exact g4
    | dfr => exact g4
    | raw o => exact g4
    | bytes e bs => exact g4
    | mp ks xs ys hl hv =>
      obtain ⟨es, cl, z1, z2, z3, z4, z5⟩ := g4
      refine ⟨es, cl, z1, z2, by omega, z4, fun k y e hy hc => ?_⟩
      have hk : k < xs.length := by have := (List.getElem?_eq_some_iff.1 hy).1; omega
      have e1 : xs[k]? = some xs[k] := List.getElem?_eq_getElem hk
      exact VRel.fz hH hg (hv k _ y e1 hy) e.val (z5 k _ e e1 hc)
    | yl Y k => exact ⟨g4.1, Y.stI k p _ w w g4.2 rfl (fun _ h => .inl h) (fun _ _ => rfl) (.refl w)⟩
    | yz Y => exact ⟨g4.1, Y.stZ p _ w w g4.2 rfl (fun _ h => .inl h) (fun _ _ => rfl) (.refl w)⟩
  · obtain ⟨i1, a0, a1, a2, _⟩ := hget i a ha
    obtain ⟨j1, b0, b1, b2, _⟩ := hget j b hb
    rw [hg i i1 a1] at hi
    rw [hg j j1 b1] at hj
    have := hH.inj i1 j1 r _ _ a2 b2 hi hj
    subst this
    exact Agr_inj hnd hag ha hb a1 b1
end
theorem Wk_fzI (g g2 F : List Nat) {ρ ρ' : Env} {n m : Nat} {H H' : Heap} {df : List DF} (hlt : (g.all fun x => Nat.blt x H.length) = true) (hnd : noDup g2 = true) (hag : Agr H' g g2) (hap : apartL g F = true) (hle : HFz g F H H' g) (hρ : EFz g F H ρ ρ') (hm : m ≤ g.length)
    (hid : ∀ i, i < m → gOf g i = i) (hdf : dfFix g df = true) : Wk ⟨ρ, n, H, m, df⟩ ⟨ρ', n, H', m, df⟩ := by
  rw [Wk_eq]
  refine ⟨rfl, rfl, fun p σ a w hR => ?_⟩
  have hlt' : ∀ x ∈ g, x < H.length := fun x hx => by simpa [Nat.blt_eq] using List.all_eq_true.1 hlt x hx
  have hlen := hR.heap.len
  simp only at hlen
  have hs := renS_get (σ := σ) (g := g) rfl (by rw [hlen]; exact hlt')
  have hg : ∀ (i j : Nat), g[i]? = some j → (renS g σ)[i]? = σ[j]? := fun i j h => by
    have hi := (List.getElem?_eq_some_iff.1 h).1
    rw [hs i hi]
    simp [gOf, List.getD_eq_getElem?_getD, h]
  obtain ⟨hl, _⟩ := HFz_get H' g hle
  exact ⟨pfz p σ H F, renS g σ, ext_fz hR.heap, fun i hi => by rw [hs i (Nat.lt_of_lt_of_le hi hm), hid i hi], hR.size, hR.df.fix hs _ _ hdf, fun t => VRel.fz hR.heap hg (EFz_get ρ' hρ t) _ (hR.env t), hR.heap.fzI hlt' hnd hag hap hle, by simp only; omega⟩
theorem Fin_fzI (g g2 F : List Nat) {m : Nat} {v v' : AV} {H H' : Heap} (hlt : (g.all fun x => Nat.blt x H.length) = true) (hnd : noDup g2 = true) (hag : Agr H' g g2) (hap : apartL g F = true) (hle : HFz g F H H' g) (hv : FV g F H v v') (hm : m ≤ g.length)
    (hid : ∀ i, i < m → gOf g i = i) : Fin m v H v' H' := by
  rw [Fin_eq]
  intro p σ w x hmH hH hx
  have hlt' : ∀ x ∈ g, x < H.length := fun x hx => by simpa [Nat.blt_eq] using List.all_eq_true.1 hlt x hx
  have hs := renS_get (σ := σ) (g := g) rfl (by rw [hH.len]; exact hlt')
  have hg : ∀ (i j : Nat), g[i]? = some j → (renS g σ)[i]? = σ[j]? := fun i j h => by
    have hi := (List.getElem?_eq_some_iff.1 h).1
    rw [hs i hi]
    simp [gOf, List.getD_eq_getElem?_getD, h]
  exact ⟨pfz p σ H F, renS g σ, ext_fz hH, fun i hi => by rw [hs i (Nat.lt_of_lt_of_le hi hm), hid i hi], hH.fzI hlt' hnd hag hap hle, VRel.fz hH hg hv x hx⟩
theorem FV_accM {g F : List Nat} {H : Heap} {b b' sz : Nat} {rows : List (List D)} (h : g[b']? = some b) : FV g F H (AccV b sz rows) (AccV b' sz rows) := by
  by_cases hr : rows = []
  · subst hr; rw [AccV_nil, AccV_nil]; exact .same _ rfl
  · rw [AccV_cons hr, AccV_cons hr]; exact .msl _ _ _ _ _ _ h
end Go.Eng
set_option maxRecDepth 100000
set_option linter.unusedVariables false
set_option linter.unusedSimpArgs false
namespace Go.Eng
open Go Go.Proofs
structure PRow where
  kind : Int
  prog : Int
  type : Int
  node : Int
  target : Int
  related : Int
  phase : Int
  err : Int
def PRow.cs (r : PRow) : List D := [.int .i64 r.kind, .int .i64 r.prog, .int .i64 r.type, .int .i64 r.node, .int .i64 r.target, .int .i64 r.related, .int .i64 r.phase, .int .i64 r.err]
theorem cs8p {l : List PRow} : ∀ r ∈ l.map PRow.cs, r.length = 8 := by
  intro r hr; obtain ⟨x, _, rfl⟩ := List.mem_map.1 hr; rfl
structure PS where
  cap : Int
  fuelM : Int
  depth : Int
  tree : Tree
  hears : List Hear
  progs : List (List Step)
  focus : Int
  fuel : Int
  under : Int
  rows : List PRow
def prgV (l : List (List Step)) : AV := match l with
  | [] => .nsl
  | l => .d (.sl (l.map fun p => [stepsD p]))
theorem ren_prgV (f : Nat → Nat) (l : List (List Step)) : Eng.ren f (prgV l) = prgV l := by cases l <;> rfl
theorem low_prgV (k : Nat) (l : List (List Step)) : low k (prgV l) = true := by cases l <;> rfl
abbrev rowsP (s : PS) : List (List D) := s.rows.map PRow.cs
def pgC (s : PS) (k c : Nat) : List AV := [.i s.cap, .i s.fuelM, .i s.depth, .d (treeD s.tree), .d (ints []), .d (ints []), .d (shnD []), .d (ints []), .d (hearsD s.hears), prgV s.progs, .i s.focus, .mp c, .d (.sl []), .i 1, .b true, .i s.fuel, .i s.under, AccV k 8 (rowsP s)]
def pgI (s : PS) : Heap := [some (.row (pgC s 1 2)), AccB (rowsP s), some (.mp [] [])]
def pgO (s : PS) : Heap := [some (.row (pgC s 3 2)), none, some (.mp [] []), AccB (rowsP s)]
theorem ren_pgC {f : Nat → Nat} {s : PS} {i j k c : Nat} (h1 : f i = k) (h2 : f j = c) : renL f (pgC s i j) = pgC s k c := by
  unfold pgC
  simp only [renL, Eng.ren, ren_prgV, h2]
  rw [← ren_acc h1]
theorem low_pgC {s : PS} {i j m : Nat} (h1 : i < m) (h2 : j < m) : lowL m (pgC s i j) = true := by
  unfold pgC
  simp only [lowL, low, low_prgV, low_acc h1, Bool.and_true, Bool.true_and, Nat.blt_eq]
  exact h2
theorem noY_pgI (s : PS) : noY (pgI s) = true := by
  show noY (AccB (rowsP s) :: [some (.mp [] [])]) = true
  exact noY_accB rfl
theorem noY_pgO (s : PS) : noY (pgO s) = true := by
  show noY (AccB (rowsP s) :: []) = true
  exact noY_accB rfl
theorem patch_pg {s s' : PS} {H : Heap} {a k c : Nat} (ha : a < H.length) (hk : k < H.length) (hc : H[c]? = some (some (.mp [] []))) (h1 : a ≠ k) (h2 : a ≠ c) (h3 : k ≠ c) :
    patch [a, k, c] H (pgO s') = ((H.set a (some (.row (pgC s' H.length c)))).set k none) ++ [AccB (rowsP s')] := by
  have hcl : c < H.length := (List.getElem?_eq_some_iff.1 hc).1
  unfold patch
  congr 1
  · apply List.ext_getElem?
    intro i
    obtain ⟨_, hg⟩ := patch1_get (hmap [a, k, c] H.length) [a, k, c] (pgO s') H 0
    rw [hg, List.getElem?_set, List.getElem?_set]
    simp only [Nat.zero_add]
    have pa : pos [a, k, c] a = some 0 := by simp [pos, pos.go]
    have pk : pos [a, k, c] k = some 1 := by simp [pos, pos.go, beq_ne h1]
    have pc : pos [a, k, c] c = some 2 := by simp [pos, pos.go, beq_ne h2, beq_ne h3]
    by_cases ei : k = i
    · subst ei
      rw [pk, if_pos rfl, List.length_set, if_pos hk, List.getElem?_eq_getElem hk]
      rfl
    · rw [if_neg ei]
      by_cases ea : a = i
      · subst ea
        rw [pa, if_pos rfl, if_pos ha, List.getElem?_eq_getElem ha]
        show some (some (Blk.row (renL (hmap [a, k, c] H.length) (pgC s' 3 2)))) = _
        rw [ren_pgC (k := H.length) (c := c) (by simp [hmap, Nat.blt]) (by simp [hmap, Nat.blt, gOf])]
      · rw [if_neg ea]
        by_cases ec : c = i
        · subst ec
          rw [pc, hc]
          rfl
        · have : pos [a, k, c] i = none := by simp [pos, pos.go, beq_ne ei, beq_ne ea, beq_ne ec]
          rw [this]
          cases H[i]? <;> rfl
  · show renH _ [AccB (rowsP s')] = _
    by_cases h : rowsP s' = []
    · rw [h, AccB_nil]; rfl
    · rw [AccB_cons h]; simp only [renH, renB_row]
theorem Tri.pg {f : FuncId} {args0 args : List AV} {s s' : PS} {r0 r : AV} {H : Heap} {K : AV → Heap → Prop} (a k c n : Nat) (hn : H.length = n) (h : Tri Tryz.prog f args0 (pgI s) fun v H => v = r0 ∧ H = pgO s')
    (ha : H[a]? = some (some (.row (pgC s k c)))) (hk : H[k]? = some (AccB (rowsP s))) (hc : H[c]? = some (some (.mp [] []))) (h1 : a ≠ k) (h2 : a ≠ c) (h3 : k ≠ c)
    (hargs : args = renL (gOf [a, k, c]) args0) (hl : lowL 3 args0 = true) (hr : Eng.ren (hmap [a, k, c] H.length) r0 = r)
    (hK : K r (((H.set a (some (.row (pgC s' n c)))).set k none) ++ [AccB (rowsP s')])) : Tri Tryz.prog f args H K := by
  subst hn
  have hal : a < H.length := (List.getElem?_eq_some_iff.1 ha).1
  have hkl : k < H.length := (List.getElem?_eq_some_iff.1 hk).1
  have hcl : c < H.length := (List.getElem?_eq_some_iff.1 hc).1
  refine Tri.call h [a, k, c] ?_ ?_ ⟨⟨?_, low_pgC (by show 1 < 3; decide) (by show 2 < 3; decide)⟩, HLe_acc hk ⟨⟨by rw [hc]; rfl, rfl⟩, trivial⟩⟩ hargs hl (noY_pgI s) (noY_pgO s') hr (patch_pg (s := s) hal hkl hc h1 h2 h3) hK
  · simp [Nat.blt_eq, hal, hkl, hcl]
  · simp [noDup, beq_ne h1, beq_ne h2, beq_ne h3]
  · rw [ha]
    show _ = some (some (Blk.row (renL (gOf [a, k, c]) (pgC s 1 2))))
    rw [ren_pgC (k := k) (c := c) rfl rfl]
end Go.Eng
set_option maxRecDepth 100000
set_option linter.unusedVariables false
set_option linter.unusedSimpArgs false
namespace Go.Eng
open Go Go.Proofs
theorem page_in (n l m : Int) : Fn Tryz.prog 70 [.i n, .i l, .i m] (.b (inB n l m)) := by
  refine Fn_of tt_ok Tryz.func70 rfl (by decide) Tryz.ntmps70 rfl ?_
  repeat' ((conv => whnf); (first
   | (refine Br_dec (fun h => ?_) (fun h => ?_))
   | (refine fin0 rfl ?_)))
  all_goals (simp only [AV.d.injEq, D.bool.injEq]; unfold inB; grind)
def wz : List D := [.sl [], .int .i64 1, .bool true]
theorem watch_New : Fn Tryz.prog 72 [] (aggD wz) := by
  refine Fn_of tt_ok Tryz.func72 rfl (by decide) Tryz.ntmps72 rfl ?_
  repeat' ((conv => whnf); (first
   | (refine finD (F := []) (FV_aggs ⟨.nsl, .same _ rfl, .same _ rfl, trivial⟩))))
def okC (cap fuel depth : Int) : Bool := inB cap 1 64 && (inB fuel 0 2000 && inB depth 0 6)
def ps0 (cap fuel depth : Int) : PS := ⟨cap, fuel, depth, [newN 0 0], [], [], 0, 0, 0, []⟩
theorem page_New_no (cap fuel depth : Int) (h : okC cap fuel depth = false) : Fn Tryz.prog 50 [aggD [.int .i64 cap, .int .i64 fuel, .int .i64 depth]] (.tup [.d .nptr, .i 1]) := by
  refine Fn_of tt_ok Tryz.func50 rfl (by decide) Tryz.ntmps50 rfl ?_
  have h1 := page_in cap 1 64
  have h2 := page_in fuel 0 2000
  have h3 := page_in depth 0 6
  unfold okC at h
  generalize inB cap 1 64 = b1 at *
  generalize inB fuel 0 2000 = b2 at *
  generalize inB depth 0 6 = b3 at *
  cases b1
  · repeat' ((conv => whnf); (first
   | (refine Fn.use (h1) rfl rfl ?_)
   | (refine fin0 rfl ?_)))
    rfl
  cases b2
  · repeat' ((conv => whnf); (first
   | (refine Fn.use (h1) rfl rfl ?_)
   | (refine Fn.use (h2) rfl rfl ?_)
   | (refine fin0 rfl ?_)))
    rfl
  cases b3
  · repeat' ((conv => whnf); (first
   | (refine Fn.use (h1) rfl rfl ?_)
   | (refine Fn.use (h2) rfl rfl ?_)
   | (refine Fn.use (h3) rfl rfl ?_)
   | (refine fin0 rfl ?_)))
    rfl
  · simp at h
theorem page_New (cap fuel depth : Int) (h : okC cap fuel depth = true) : Tri Tryz.prog 50 [aggD [.int .i64 cap, .int .i64 fuel, .int .i64 depth]] [] fun v H => v = .tup [.ptr 0 0, .i 0] ∧ H = pgI (ps0 cap fuel depth) := by
  refine Tri_of (m := 0) tt_ok Tryz.func50 rfl (by decide) Tryz.ntmps50 (by rfl) rfl ?_
  have h1 := page_in cap 1 64
  have h2 := page_in fuel 0 2000
  have h3 := page_in depth 0 6
  unfold okC at h
  simp only [Bool.and_eq_true] at h
  rw [h.1] at h1
  rw [h.2.1] at h2
  rw [h.2.2] at h3
  repeat' ((conv => whnf); (first
   | (refine Fn.use (h1) rfl rfl ?_)
   | (refine Fn.use (h2) rfl rfl ?_)
   | (refine Fn.use (h3) rfl rfl ?_)
   | (refine W_draw 0 tt_ok mixed (by kernel_rfl) ?_)
   | (refine CallF_in (tree_New) rfl rfl ?_)
   | (refine CallF_in (watch_New) rfl rfl ?_)))
  conv => whnf
  have e1 : pgI (ps0 cap fuel depth) = [some (.row [.i cap, .i fuel, .i depth, .d (treeD [newN 0 0]), .d (ints []), .d (ints []), .d (shnD []), .d (ints []), .d (hearsD []), .nsl, .i 0, .mp 2, .d (.sl []), .i 1, .b true, .i 0, .i 0, .nsl]), none, some (.mp [] [])] := by
    unfold pgI pgC ps0 rowsP
    rw [List.map_nil, AccV_nil, AccB_nil]
    rfl
  rw [e1]
  exact finW (v' := .tup [.ptr 0 0, .i 0]) (H' := [some (.row [.i cap, .i fuel, .i depth, .d (treeD [newN 0 0]), .d (ints []), .d (ints []), .d (shnD []), .d (ints []), .d (hearsD []), .nsl, .i 0, .mp 2, .d (.sl []), .i 1, .b true, .i 0, .i 0, .nsl]), none, some (.mp [] [])])
    (Fin_fz [2, 0, 1] [] rfl rfl rfl ⟨⟨_, rfl, FB_rows ⟨.same _ rfl, .same _ rfl, .same _ rfl, .same _ rfl, .nsl, .nsl, .nsl, .nsl, .nsl, .same _ rfl, .same _ rfl, .mp _ _ rfl, .same _ rfl, .same _ rfl, .same _ rfl, .same _ rfl, .same _ rfl, .same _ rfl, trivial⟩⟩, ⟨_, rfl, .mp _ _ _ rfl (fun i x y h => by simp at h)⟩, trivial⟩
      (FV_tups ⟨.ptr _ _ _ rfl, .same _ rfl, trivial⟩) (Nat.zero_le _) (by omega)) ⟨rfl, rfl⟩
def opC (d a b c : Int) (fl : Bool) (p : List Step) : List D := [.int .i64 d, .int .i64 a, .int .i64 b, .int .i64 c, .bool fl, stepsD p]
end Go.Eng
set_option maxRecDepth 100000
set_option linter.unusedVariables false
set_option linter.unusedSimpArgs false
namespace Go.Eng
open Go Go.Proofs
theorem patch_pgS {s s' : PS} {H : Heap} {a k c : Nat} (ha : a < H.length) (hk : H[k]? = some (AccB (rowsP s))) (hc : H[c]? = some (some (.mp [] []))) (h1 : a ≠ k) (h2 : a ≠ c) (h3 : k ≠ c) (hr : s'.rows = s.rows) :
    patch [a, k, c] H (pgI s') = H.set a (some (.row (pgC s' k c))) := by
  have hcl : c < H.length := (List.getElem?_eq_some_iff.1 hc).1
  have hkl : k < H.length := (List.getElem?_eq_some_iff.1 hk).1
  have e : rowsP s' = rowsP s := by unfold rowsP; rw [hr]
  unfold patch
  have e0 : renH (hmap [a, k, c] H.length) ((pgI s').drop [a, k, c].length) = [] := rfl
  rw [e0, List.append_nil]
  apply List.ext_getElem?
  intro i
  obtain ⟨_, hg⟩ := patch1_get (hmap [a, k, c] H.length) [a, k, c] (pgI s') H 0
  rw [hg, List.getElem?_set]
  simp only [Nat.zero_add]
  have pa : pos [a, k, c] a = some 0 := by simp [pos, pos.go]
  have pk : pos [a, k, c] k = some 1 := by simp [pos, pos.go, beq_ne h1]
  have pc : pos [a, k, c] c = some 2 := by simp [pos, pos.go, beq_ne h2, beq_ne h3]
  by_cases ea : a = i
  · subst ea
    rw [pa, if_pos rfl, if_pos ha, List.getElem?_eq_getElem ha]
    show some (some (Blk.row (renL (hmap [a, k, c] H.length) (pgC s' 1 2)))) = _
    rw [ren_pgC (k := k) (c := c) (by simp [hmap, Nat.blt, gOf]) (by simp [hmap, Nat.blt, gOf])]
  · rw [if_neg ea]
    by_cases ek : k = i
    · subst ek
      rw [pk, hk]
      show some (match some (AccB (rowsP s')) with | some (some k1) => some (renB (hmap [a, k, c] H.length) k1) | _ => none) = _
      rw [e]
      by_cases h : rowsP s = []
      · rw [h, AccB_nil]
      · rw [AccB_cons h]; simp only [renB_row]
    · by_cases ec : c = i
      · subst ec
        rw [pc, hc]
        rfl
      · have : pos [a, k, c] i = none := by simp [pos, pos.go, beq_ne ek, beq_ne ea, beq_ne ec]
        rw [this]
        cases H[i]? <;> rfl
theorem Tri.pgS {f : FuncId} {args0 args : List AV} {s s' : PS} {r0 r : AV} {H : Heap} {K : AV → Heap → Prop} (a k c : Nat) (h : Tri Tryz.prog f args0 (pgI s) fun v H => v = r0 ∧ H = pgI s') (hrow : s'.rows = s.rows)
    (ha : H[a]? = some (some (.row (pgC s k c)))) (hk : H[k]? = some (AccB (rowsP s))) (hc : H[c]? = some (some (.mp [] []))) (h1 : a ≠ k) (h2 : a ≠ c) (h3 : k ≠ c)
    (hargs : args = renL (gOf [a, k, c]) args0) (hl : lowL 3 args0 = true) (hr : Eng.ren (hmap [a, k, c] H.length) r0 = r)
    (hK : K r (H.set a (some (.row (pgC s' k c))))) : Tri Tryz.prog f args H K := by
  have hal : a < H.length := (List.getElem?_eq_some_iff.1 ha).1
  have hkl : k < H.length := (List.getElem?_eq_some_iff.1 hk).1
  have hcl : c < H.length := (List.getElem?_eq_some_iff.1 hc).1
  refine Tri.call h [a, k, c] ?_ ?_ ⟨⟨?_, low_pgC (by show 1 < 3; decide) (by show 2 < 3; decide)⟩, HLe_acc hk ⟨⟨by rw [hc]; rfl, rfl⟩, trivial⟩⟩ hargs hl (noY_pgI s) (noY_pgI s') hr (patch_pgS hal hk hc h1 h2 h3 hrow) hK
  · simp [Nat.blt_eq, hal, hkl, hcl]
  · simp [noDup, beq_ne h1, beq_ne h2, beq_ne h3]
  · rw [ha]
    show _ = some (some (Blk.row (renL (gOf [a, k, c]) (pgC s 1 2))))
    rw [ren_pgC (k := k) (c := c) rfl rfl]
theorem FB_pg {g F : List Nat} {H : Heap} {s : PS} {i j k c : Nat} (h1 : g[k]? = some i) (h2 : g[c]? = some j) : FB g F H (.row (pgC s i j)) (.row (pgC s k c)) := by
  unfold pgC
  exact FB_rows ⟨.same _ rfl, .same _ rfl, .same _ rfl, .same _ rfl, .same _ rfl, .same _ rfl, .same _ rfl, .same _ rfl, .same _ rfl, .same _ (low_prgV 0 _), .same _ rfl, .mp _ _ h2, .same _ rfl, .same _ rfl, .same _ rfl, .same _ rfl, .same _ rfl, FV_accM h1, trivial⟩
theorem finPI {v r : AV} {H : Heap} {s : PS} (F : List Nat) (ha : H[0]? = some (some (.row (pgC s 1 2)))) (hk : H[1]? = some (AccB (rowsP s))) (hc : H[2]? = some (some (.mp [] []))) (hap : apartL [0, 1, 2] F = true) (hv : FV [0, 1, 2] F H v r) :
    FinK 3 v H fun v H' => v = r ∧ H' = pgI s := by
  have hcl : 2 < H.length := (List.getElem?_eq_some_iff.1 hc).1
  refine finW (v' := r) (H' := [some (.row (pgC s 1 2)), AccB (rowsP s), some (.mp [] [])]) (Fin_fz [0, 1, 2] F ?_ rfl hap ⟨⟨_, ha, FB_pg rfl rfl⟩, HFz_acc hk ⟨⟨_, hc, .mp _ _ _ rfl fun i x y h => by simp at h⟩, trivial⟩⟩ hv (by decide) ?_) ⟨rfl, rfl⟩
  · simp [Nat.blt_eq]; omega
  · intro i hi
    match i, hi with
    | 0, _ => rfl
    | 1, _ => rfl
    | 2, _ => rfl
theorem finPO {v r : AV} {H : Heap} {s : PS} (k : Nat) (F : List Nat) (h0 : k ≠ 0) (h2 : k ≠ 2) (ha : H[0]? = some (some (.row (pgC s k 2)))) (hk : H[k]? = some (AccB (rowsP s))) (hc : H[2]? = some (some (.mp [] []))) (hap : apartL [0, 1, 2, k] F = true) (hv : FV [0, 1, 2, k] F H v r) :
    FinK 3 v H fun v H' => v = r ∧ H' = pgO s := by
  have hcl : 2 < H.length := (List.getElem?_eq_some_iff.1 hc).1
  have hkl : k < H.length := (List.getElem?_eq_some_iff.1 hk).1
  refine finW (v' := r) (H' := [some (.row (pgC s 3 2)), none, some (.mp [] []), AccB (rowsP s)]) (Fin_fzI [0, 1, 2, k] [0, k + 3, 2, k] F ?_ ?_ ⟨.inr rfl, .inl rfl, .inr rfl, .inr rfl, trivial⟩ hap ⟨⟨_, ha, FB_pg rfl rfl⟩, ⟨_, hc, .mp _ _ _ rfl fun i x y h => by simp at h⟩, HFz_acc hk trivial⟩ hv (by show 3 ≤ 4; decide) ?_) ⟨rfl, rfl⟩
  · simp [Nat.blt_eq, hkl]; omega
  · simp only [noDup, List.all_cons, List.all_nil, Bool.and_true, Bool.and_eq_true, Bool.not_eq_true']; refine ⟨⟨beq_ne (by omega), beq_ne (by omega), beq_ne (by omega)⟩, ⟨beq_ne (by omega), beq_ne (by omega)⟩, beq_ne (by omega)⟩
  · intro i hi
    match i, hi with
    | 0, _ => rfl
    | 1, _ => rfl
    | 2, _ => rfl
theorem page_is (s : PS) (n : Int) : Tri Tryz.prog 180 [.ptr 0 0, .i n] (pgI s) fun v H => v = .b (isN s.tree n) ∧ H = pgI s := by
  refine Tri_of (m := 3) tt_ok Tryz.func180 rfl (by decide) Tryz.ntmps180 (by rfl) rfl ?_
  have e : (List.map Node.cs s.tree).length = s.tree.length := by simp
  have hi : isN s.tree n = inB n 0 ((List.map Node.cs s.tree).length - 1) := by unfold isN inB; rw [e]; apply decide_eq_decide.2; omega
  have h1 := page_in n 0 ((List.map Node.cs s.tree).length - 1)
  rw [← hi] at h1
  repeat' ((conv => whnf); (first
   | (refine finPI [] rfl rfl rfl rfl (.same _ rfl))
   | (refine Len_in (fun hlen => ?_))
   | (refine Fn.use (h1) rfl rfl ?_)
   | (refine ArK_in (wrap_i64 (by omega) (by omega)) ?_)))
theorem page_Focus (s : PS) : Tri Tryz.prog 21 [.ptr 0 0] (pgI s) fun v H => v = .i s.focus ∧ H = pgI s := by
  refine Tri_of (m := 3) tt_ok Tryz.func21 rfl (by decide) Tryz.ntmps21 (by rfl) rfl ?_
  repeat' ((conv => whnf); (first
   | (refine finPI [] rfl rfl rfl rfl (.same _ rfl))))
theorem page_View (s : PS) (hne : s.tree ≠ []) (hs : SmallT s.tree) : Tri Tryz.prog 23 [.ptr 0 0] (pgI s) fun v H => v = aggD (pv s.tree) ∧ H = pgI s := by
  refine Tri_of (m := 3) tt_ok Tryz.func23 rfl (by decide) Tryz.ntmps23 (by rfl) rfl ?_
  have h := top_Copy s.tree hne hs
  repeat' ((conv => whnf); (first
   | (refine finPI [] rfl rfl rfl rfl (.same _ rfl))
   | (refine Fn.use (h) rfl rfl ?_)))
def madeR (s : PS) (t : Tree) (n e : Int) : PS × Int × Int := if e ≠ 0 then (s, 0, e) else if (t.length : Int) > s.cap then (s, 0, 4) else ({ s with tree := t }, n, 0)
theorem page_made (s : PS) (t : Tree) (n e : Int) : Tri Tryz.prog 99 [.ptr 0 0, .d (treeD t), .i n, .i e] (pgI s) fun v H => v = .tup [.i (madeR s t n e).2.1, .i (madeR s t n e).2.2] ∧ H = pgI (madeR s t n e).1 := by
  refine Tri_of (m := 3) tt_ok Tryz.func99 rfl (by decide) Tryz.ntmps99 (by rfl) rfl ?_
  have e7 : (List.map Node.cs t).length = t.length := by simp
  unfold madeR
  by_cases he : e = 0
  · subst he
    rw [if_neg (by simp)]
    by_cases hc : (t.length : Int) > s.cap
    · rw [if_pos hc]
      repeat' ((conv => whnf); (first
       | (refine finPI [] rfl rfl rfl rfl (FV_tups ⟨.same _ rfl, .same _ rfl, trivial⟩))
       | (refine Br_true (decide_eq_true (by omega)) ?_)
       | (refine Len_in (fun hlen => ?_))))
      all_goals (exfalso; omega)
    · rw [if_neg hc]
      repeat' ((conv => whnf); (first
       | (refine finPI [] rfl rfl rfl rfl (FV_tups ⟨.same _ rfl, .same _ rfl, trivial⟩))
       | (refine Br_false (decide_eq_false (by omega)) ?_)
       | (refine Len_in (fun hlen => ?_))))
      all_goals (exfalso; omega)
  · rw [if_pos he]
    repeat' ((conv => whnf); (first
     | (refine finPI [] rfl rfl rfl rfl (FV_tups ⟨.same _ rfl, .same _ rfl, trivial⟩))
     | (refine Br_true (bneT (by omega)) ?_)))
theorem renH_pgI (f : Nat → Nat) (s : PS) : renH f (pgI s) = [some (.row (pgC s (f 1) (f 2))), AccB (rowsP s), some (.mp [] [])] := by
  have e : renL f (pgC s 1 2) = pgC s (f 1) (f 2) := ren_pgC rfl rfl
  have eb : renB f (.row (pgC s 1 2)) = .row (pgC s (f 1) (f 2)) := by show Blk.row (renL f (pgC s 1 2)) = _; rw [e]
  unfold pgI
  by_cases h : rowsP s = []
  · rw [h, AccB_nil]
    simp only [renH, List.map_cons, List.map_nil, Option.map, eb]
    rfl
  · rw [AccB_cons h]
    simp only [renH, List.map_cons, List.map_nil, Option.map, eb, renB_row]
    rfl
end Go.Eng
set_option maxRecDepth 100000
set_option linter.unusedVariables false
set_option linter.unusedSimpArgs false
namespace Go.Eng
open Go Go.Proofs
def cntR (k : Int) (l : List PRow) : Nat := (l.filter fun r => r.kind == k).length
theorem cntR_le (k : Int) (l : List PRow) : cntR k l ≤ l.length := List.length_filter_le _ _
theorem cntR_take {k : Int} {l : List PRow} {j : Nat} (h : j < l.length) : cntR k (l.take (j + 1)) = cntR k (l.take j) + (if l[j].kind = k then 1 else 0) := by
  unfold cntR
  rw [List.take_succ_eq_append_getElem h, List.filter_append, List.length_append]
  by_cases e : l[j].kind = k <;> simp [e]
theorem run_Count (l : List PRow) (k : Int) : Fn Tryz.prog 44 [.d (.sl (l.map PRow.cs)), .i k] (.i (cntR k l)) := by
  refine Fn_of tt_ok Tryz.func44 rfl (by decide) Tryz.ntmps44 rfl ?_
  have hkl : (l.map PRow.cs).length = l.length := by simp
  repeat' ((conv => whnf); (first
   | (refine Len_in (fun hlen => ?_))))
  refine W_loop (fun μ s => ∃ (j : Nat), j ≤ l.length ∧ μ = l.length - j ∧
      s = ⟨[(1, .i k), (5, .i (cntR k (l.take j))), (8, .d (.sl (l.map PRow.cs))), (9, .i (List.map PRow.cs l).length), (10, .i j)], 22, [], 0, []⟩) l.length ⟨_, ?_, 0, by omega, by omega, rfl⟩ ?_
  · exact Wk_env (by repeat (first | exact trivial | refine ⟨rfl, ?_⟩))
  rintro μ s1 ⟨j, hj, rfl, rfl⟩
  refine W_run tt_ok ?_
  have hcl := cntR_le k (l.take j)
  rw [List.length_take] at hcl
  by_cases hlt : j < l.length
  · have hidx : (l.map PRow.cs)[(j : Int).toNat]? = some (l[j]).cs := by simp [hlt]
    have ht := cntR_take (k := k) hlt
    generalize cntR k (l.take j) = c1 at *
    generalize l[j] = x at *
    by_cases he : x.kind = k
    · rw [if_pos he] at ht
      repeat' ((conv => whnf); (first
       | (refine Br_true (beqT (by omega)) ?_)
       | (refine Br_true (decide_eq_true (by omega)) ?_)
       | (refine Idx_in _ hidx (by omega) rfl ?_)
       | (refine Back_in _ _ ⟨j + 1, by omega, rfl, rfl⟩ (by omega) ?_)
       | (refine ArK_in (wrap_i64 (by omega) (by omega)) ?_)))
      rw [ht]
      exact Wk_ren [] rfl rfl trivial (by repeat (first | exact trivial | refine ⟨⟨rfl, rfl⟩, ?_⟩)) (by omega) (by omega)
    · rw [if_neg he] at ht
      repeat' ((conv => whnf); (first
       | (refine Br_false (beqF (by omega)) ?_)
       | (refine Br_true (decide_eq_true (by omega)) ?_)
       | (refine Idx_in _ hidx (by omega) rfl ?_)
       | (refine Back_in _ _ ⟨j + 1, by omega, rfl, rfl⟩ (by omega) ?_)
       | (refine ArK_in (wrap_i64 (by omega) (by omega)) ?_)))
      rw [ht]
      exact Wk_ren [] rfl rfl trivial (by repeat (first | exact trivial | refine ⟨⟨rfl, rfl⟩, ?_⟩)) (by omega) (by omega)
  · have hjl : j = l.length := by omega
    subst hjl
    rw [List.take_length]
    repeat' ((conv => whnf); (first
     | (refine Br_false (decide_eq_false (by omega)) ?_)
     | (refine fin0 rfl ?_)))
    rfl
abbrev cfgD (cap fuel depth : Int) : List D := [.int .i64 cap, .int .i64 fuel, .int .i64 depth]
theorem okC_of {cap fuel depth : Int} (h : okC cap fuel depth = true) : (1 ≤ cap ∧ cap ≤ 64) ∧ (0 ≤ fuel ∧ fuel ≤ 2000) ∧ 0 ≤ depth ∧ depth ≤ 6 := by
  unfold okC inB at h
  simpa using h
theorem okC_not {cap fuel depth : Int} (h : okC cap fuel depth = false) : ¬ ((1 ≤ cap ∧ cap ≤ 64) ∧ (0 ≤ fuel ∧ fuel ≤ 2000) ∧ 0 ≤ depth ∧ depth ≤ 6) := by
  intro k
  have : okC cap fuel depth = true := by
    unfold okC inB
    simpa using k
  rw [h] at this
  cases this
theorem run_Bound_no (cap fuel depth n : Int) (h : okC cap fuel depth = false ∨ n < 0 ∨ 10000 < n) : Fn Tryz.prog 42 [aggD (cfgD cap fuel depth), .i n] (.tup [.i 0, .i 1]) := by
  refine Fn_of tt_ok Tryz.func42 rfl (by decide) Tryz.ntmps42 rfl ?_
  cases hc : okC cap fuel depth
  · have hN := page_New_no cap fuel depth hc
    repeat' ((conv => whnf); (first
     | (refine Fn.use (hN) rfl rfl ?_)
     | (refine fin0 rfl ?_)))
    all_goals rfl
  · have hN := page_New cap fuel depth hc
    have h2 : n < 0 ∨ 10000 < n := h.resolve_left (by rw [hc]; simp)
    generalize ps0 cap fuel depth = s0 at *
    by_cases h0 : n < 0
    · repeat' ((conv => whnf); (first
     | (refine Br_true (decide_eq_true (by omega)) ?_)
     | (refine Tri.call hN [] rfl rfl trivial rfl rfl rfl (noY_pgI s0) (r := .tup [.ptr 1 0, .i 0]) (H' := [some (.row [.i cap, .i fuel, .i depth]), some (.row (pgC s0 2 3)), AccB (rowsP s0), some (.mp [] [])]) rfl (by rw [patch_nil, renH_pgI]; rfl) ?_)
     | (refine fin0 rfl ?_)))
      all_goals rfl
    · have h3 := h2.resolve_left h0
      repeat' ((conv => whnf); (first
       | (refine Br_true (decide_eq_true (by omega)) ?_)
       | (refine Br_false (decide_eq_false (by omega)) ?_)
       | (refine Tri.call hN [] rfl rfl trivial rfl rfl rfl (noY_pgI s0) (r := .tup [.ptr 1 0, .i 0]) (H' := [some (.row [.i cap, .i fuel, .i depth]), some (.row (pgC s0 2 3)), AccB (rowsP s0), some (.mp [] [])]) rfl (by rw [patch_nil, renH_pgI]; rfl) ?_)
       | (refine fin0 rfl ?_)))
      all_goals rfl
theorem run_Bound (cap fuel depth n : Int) (hc : okC cap fuel depth = true) (h0 : 0 ≤ n) (h1 : n ≤ 10000) : Fn Tryz.prog 42 [aggD (cfgD cap fuel depth), .i n] (.tup [.i (n * fuel), .i 0]) := by
  have hN := page_New cap fuel depth hc
  obtain ⟨_, ⟨f0, f1⟩, _⟩ := okC_of hc
  have p0 : 0 ≤ n * fuel := Int.mul_nonneg h0 f0
  have p1 : n * fuel ≤ 10000 * 2000 := Int.mul_le_mul h1 f1 f0 (by omega)
  generalize ps0 cap fuel depth = s0 at *
  refine Fn_of tt_ok Tryz.func42 rfl (by decide) Tryz.ntmps42 rfl ?_
  repeat' ((conv => whnf); (first
   | (refine Br_false (decide_eq_false (by omega)) ?_)
   | (refine Tri.call hN [] rfl rfl trivial rfl rfl rfl (noY_pgI s0) (r := .tup [.ptr 1 0, .i 0]) (H' := [some (.row [.i cap, .i fuel, .i depth]), some (.row (pgC s0 2 3)), AccB (rowsP s0), some (.mp [] [])]) rfl (by rw [patch_nil, renH_pgI]; rfl) ?_)
   | (refine fin0 rfl ?_)
   | (refine ArK_in (wrap_i64 (by omega) (by omega)) ?_)))
  rfl
theorem ref18_New : Fn Tryz.prog 49 [] (aggD wz) := by
  refine Fn_of tt_ok Tryz.func49 rfl (by decide) Tryz.ntmps49 rfl ?_
  repeat' ((conv => whnf); (first
   | (refine finD (F := []) (FV_aggs ⟨.nsl, .same _ rfl, .same _ rfl, trivial⟩))))
theorem ref1_New : Fn Tryz.prog 48 [] (.d (treeD [newN 0 0])) := by
  refine Fn_of tt_ok Tryz.func48 rfl (by decide) Tryz.ntmps48 rfl ?_
  repeat' ((conv => whnf); (first
   | (refine Ch_r ?_)
   | (refine fin0 rfl ?_)))
  rfl
theorem ref21_New_no (cap fuel depth : Int) (h : okC cap fuel depth = false) : Fn Tryz.prog 16 [aggD (cfgD cap fuel depth)] (.d .nptr) := by
  have hn := okC_not h
  refine Fn_of tt_ok Tryz.func16 rfl (by decide) Tryz.ntmps16 rfl ?_
  by_cases a1 : cap < 1
  · repeat' ((conv => whnf); (first
   | (refine Br_true (decide_eq_true (by omega)) ?_)
   | (refine fin0 rfl ?_)))
    all_goals rfl
  by_cases a2 : cap > 64
  · repeat' ((conv => whnf); (first
   | (refine Br_true (decide_eq_true (by omega)) ?_)
   | (refine Br_false (decide_eq_false (by omega)) ?_)
   | (refine fin0 rfl ?_)))
    all_goals rfl
  by_cases a3 : fuel < 0
  · repeat' ((conv => whnf); (first
   | (refine Br_true (decide_eq_true (by omega)) ?_)
   | (refine Br_false (decide_eq_false (by omega)) ?_)
   | (refine fin0 rfl ?_)))
    all_goals rfl
  by_cases a4 : fuel > 2000
  · repeat' ((conv => whnf); (first
   | (refine Br_true (decide_eq_true (by omega)) ?_)
   | (refine Br_false (decide_eq_false (by omega)) ?_)
   | (refine fin0 rfl ?_)))
    all_goals rfl
  by_cases a5 : depth < 0
  · repeat' ((conv => whnf); (first
   | (refine Br_true (decide_eq_true (by omega)) ?_)
   | (refine Br_false (decide_eq_false (by omega)) ?_)
   | (refine fin0 rfl ?_)))
    all_goals rfl
  by_cases a6 : depth > 6
  · repeat' ((conv => whnf); (first
   | (refine Br_true (decide_eq_true (by omega)) ?_)
   | (refine Br_false (decide_eq_false (by omega)) ?_)
   | (refine fin0 rfl ?_)))
    all_goals rfl
  exfalso
  omega
def r21C (cap fuel depth : Int) : List AV := [.i cap, .i fuel, .i depth, .d (treeD [newN 0 0]), .nsl, .nsl, .nsl, .nsl, .nsl, .nsl, .i 0, .nsl, .d (.sl []), .i 1, .b true, .i 0, .i 0, .nsl]
theorem ref21_New (cap fuel depth : Int) (h : okC cap fuel depth = true) : Tri Tryz.prog 16 [aggD (cfgD cap fuel depth)] [] fun v H => v = .ptr 0 0 ∧ H = [some (.row (r21C cap fuel depth))] := by
  refine Tri_of (m := 0) tt_ok Tryz.func16 rfl (by decide) Tryz.ntmps16 (by rfl) rfl ?_
  obtain ⟨⟨a1, a2⟩, ⟨a3, a4⟩, a5, a6⟩ := okC_of h
  repeat' ((conv => whnf); (first
   | (refine Br_false (decide_eq_false (by omega)) ?_)
   | (refine W_draw 0 tt_ok mixed (by kernel_rfl) ?_)
   | (refine CallF_in (ref1_New) rfl rfl ?_)
   | (refine CallF_in (ref18_New) rfl rfl ?_)))
  conv => whnf
  exact finW (v' := .ptr 0 0) (H' := [some (.row (r21C cap fuel depth))]) (Fin_fz [1] [] rfl rfl rfl ⟨⟨_, rfl, FB_rows ⟨.same _ rfl, .same _ rfl, .same _ rfl, .same _ rfl, .same _ rfl, .same _ rfl, .same _ rfl, .same _ rfl, .same _ rfl, .same _ rfl, .same _ rfl, .same _ rfl, .same _ rfl, .same _ rfl, .same _ rfl, .same _ rfl, .same _ rfl, .same _ rfl, trivial⟩⟩, trivial⟩ (.ptr 1 0 0 rfl) (Nat.zero_le _) (by omega)) ⟨rfl, rfl⟩
theorem ref22_Bound_no (cap fuel depth n : Int) (h : okC cap fuel depth = false ∨ n < 0 ∨ 10000 < n) : Fn Tryz.prog 45 [aggD (cfgD cap fuel depth), .i n] (.tup [.i 0, .i 1]) := by
  refine Fn_of tt_ok Tryz.func45 rfl (by decide) Tryz.ntmps45 rfl ?_
  cases hc : okC cap fuel depth
  · have hN := ref21_New_no cap fuel depth hc
    repeat' ((conv => whnf); (first
     | (refine Fn.use (hN) rfl rfl ?_)
     | (refine fin0 rfl ?_)))
    all_goals rfl
  · have hN := ref21_New cap fuel depth hc
    have h2 : n < 0 ∨ 10000 < n := h.resolve_left (by rw [hc]; simp)
    by_cases h0 : n < 0
    · repeat' ((conv => whnf); (first
     | (refine Br_true (decide_eq_true (by omega)) ?_)
     | (refine Tri.call hN [] rfl rfl trivial rfl rfl rfl rfl (r := .ptr 1 0) (H' := [some (.row [.i cap, .i fuel, .i depth]), some (.row (r21C cap fuel depth))]) rfl rfl ?_)
     | (refine fin0 rfl ?_)))
      all_goals rfl
    · have h3 := h2.resolve_left h0
      repeat' ((conv => whnf); (first
       | (refine Br_true (decide_eq_true (by omega)) ?_)
       | (refine Br_false (decide_eq_false (by omega)) ?_)
       | (refine Tri.call hN [] rfl rfl trivial rfl rfl rfl rfl (r := .ptr 1 0) (H' := [some (.row [.i cap, .i fuel, .i depth]), some (.row (r21C cap fuel depth))]) rfl rfl ?_)
       | (refine fin0 rfl ?_)))
      all_goals rfl
theorem ref22_Bound (cap fuel depth n : Int) (hc : okC cap fuel depth = true) (h0 : 0 ≤ n) (h1 : n ≤ 10000) : Fn Tryz.prog 45 [aggD (cfgD cap fuel depth), .i n] (.tup [.i (n * fuel), .i 0]) := by
  have hN := ref21_New cap fuel depth hc
  obtain ⟨_, ⟨f0, f1⟩, _⟩ := okC_of hc
  have p0 : 0 ≤ n * fuel := Int.mul_nonneg h0 f0
  have p1 : n * fuel ≤ 10000 * 2000 := Int.mul_le_mul h1 f1 f0 (by omega)
  refine Fn_of tt_ok Tryz.func45 rfl (by decide) Tryz.ntmps45 rfl ?_
  repeat' ((conv => whnf); (first
   | (refine Br_false (decide_eq_false (by omega)) ?_)
   | (refine Tri.call hN [] rfl rfl trivial rfl rfl rfl rfl (r := .ptr 1 0) (H' := [some (.row [.i cap, .i fuel, .i depth]), some (.row (r21C cap fuel depth))]) rfl rfl ?_)
   | (refine fin0 rfl ?_)
   | (refine ArK_in (wrap_i64 (by omega) (by omega)) ?_)))
  rfl
theorem law22_config (cap fuel depth : Int) : Fn Tryz.prog 41 [aggD (cfgD cap fuel depth)] (aggD (cfgD cap fuel depth)) := by
  refine Fn_of tt_ok Tryz.func41 rfl (by decide) Tryz.ntmps41 rfl ?_
  repeat' ((conv => whnf); (first
   | (refine fin0 rfl ?_)))
  rfl
theorem law22_RunCounts (hL : Fn Tryz.prog 34 [] (.b true)) (l : List PRow) (k cap fuel depth : Int) : Fn Tryz.prog 11 [.d (.sl (l.map PRow.cs)), .i k, aggD (cfgD cap fuel depth)] (.b true) := by
  refine Fn_of tt_ok Tryz.func11 rfl (by decide) Tryz.ntmps11 rfl ?_
  have hkl : (l.map PRow.cs).length = l.length := by simp
  by_cases hlen : 200 < l.length
  · repeat' ((conv => whnf); (first
   | (refine Br_true (decide_eq_true (by omega)) ?_)
   | (refine Len_in (fun hlen => ?_))
   | (refine Fn.use (hL) rfl rfl ?_)
   | (refine fin0 rfl ?_)))
    rfl
  have hC := run_Count l k
  have hG := law22_config cap fuel depth
  repeat' ((conv => whnf); (first
   | (refine Br_false (decide_eq_false (by omega)) ?_)
   | (refine Len_in (fun hlen => ?_))))
  refine W_loop (fun μ s => ∃ (j : Nat), j ≤ l.length ∧ μ = l.length - j ∧
      s = ⟨[(0, .d (.sl (l.map PRow.cs))), (1, .i k), (5, .ptr 0 0), (7, AccV 1 8 ((l.take j).map PRow.cs)), (8, .i (cntR k (l.take j))), (9, .i j)], 71, [some (.row [.i cap, .i fuel, .i depth]), AccB ((l.take j).map PRow.cs)], 0, []⟩) l.length ⟨_, ?_, 0, by omega, by omega, rfl⟩ ?_
  · rw [List.take_zero, List.map_nil, AccV_nil, AccB_nil]
    exact Wk.trans Wk_pad (Wk_env (by repeat (first | exact trivial | refine ⟨rfl, ?_⟩)))
  rintro μ s1 ⟨j, hj, rfl, rfl⟩
  have hcl := cntR_le k (l.take j)
  rw [List.length_take] at hcl
  by_cases hlt : j < l.length
  · refine W_run tt_ok ?_
    have hidx : (l.map PRow.cs)[(j : Int).toNat]? = some (l[j]).cs := by simp [hlt]
    have e : (l.take (j + 1)).map PRow.cs = (l.take j).map PRow.cs ++ [(l[j]).cs] := by rw [List.take_succ_eq_append_getElem hlt, List.map_append]; rfl
    have ht := cntR_take (k := k) hlt
    have hrl : ((l.take j).map PRow.cs).length ≤ j := by simp; omega
    have hr1 : ∀ r ∈ (l.take j).map PRow.cs, r.length = 8 := cs8p
    generalize cntR k (l.take j) = c1 at *
    generalize l[j] = x at *
    have ha2 := Acc_app (b := 1) (sz := 8) (rows := (l.take j).map PRow.cs) (new := [x.cs]) (by simp)
    generalize (l.take j).map PRow.cs = rows at *
    have hx8 : ∀ r ∈ [x.cs], r.length = 8 := by intro r hr; simp at hr; subst hr; rfl
    have hlim : rows.length + [x.cs].length ≤ 1000000 := by simp only [List.length_cons, List.length_nil]; omega
    obtain ⟨x1, x2, x3, x4, x5, x6, x7, x8⟩ := x
    dsimp only at ht
    by_cases he : x1 = k
    all_goals
      first | rw [if_pos he] at ht | rw [if_neg he] at ht
      repeat' ((conv => whnf); (first
       | (refine Br_true (decide_eq_true (by omega)) ?_)
       | (refine Len_in (fun hlen => ?_))
       | (refine Idx_in _ hidx (by omega) rfl ?_)
       | (refine force_in ?_)))
      refine Ch_r ?_
      conv => whnf
      refine App_acc rows [PRow.cs ⟨x1, x2, x3, x4, x5, x6, x7, x8⟩] rfl rfl rfl rfl (by simp) hr1 hx8 hlim (Nat.le_of_ble_eq_true rfl) ?_
      repeat' ((conv => whnf); (first
       | (refine Br_true (beqT (by omega)) ?_)
       | (refine Br_false (beqF (by omega)) ?_)
       | (refine Idx_in _ hidx (by omega) rfl ?_)
       | (refine Back_in _ _ ⟨j + 1, by omega, rfl, rfl⟩ (by omega) ?_)
       | (refine ArK_in (wrap_i64 (by omega) (by omega)) ?_)))
      rw [e, ha2.1, ha2.2, ht]
      exact Wk_ren [0, 2] rfl rfl ⟨⟨rfl, rfl⟩, ⟨by rw [renB_row]; rfl, lowB_row _ _⟩, trivial⟩ (by repeat (first | exact trivial | refine ⟨⟨rfl, rfl⟩, ?_⟩)) (by decide) (by omega)
  · have hjl : j = l.length := by omega
    subst hjl
    rw [List.take_length]
    refine W_wk (Wk_fz [0] [1] (ρ' := [(0, .d (.sl (l.map PRow.cs))), (1, .i k), (5, .ptr 0 0), (7, .d (.sl (l.map PRow.cs))), (8, .i (cntR k l)), (9, .i l.length)]) (H' := [some (.row [.i cap, .i fuel, .i depth])]) rfl rfl rfl ⟨⟨_, rfl, FB_rows ⟨.same _ rfl, .same _ rfl, .same _ rfl, trivial⟩⟩, trivial⟩ ⟨.same _ rfl, .same _ rfl, .ptr _ _ _ rfl, FV_accF _ (by simp) rfl cs8p, .same _ rfl, .same _ rfl, trivial⟩ (by decide) (by omega)) ?_
    refine W_run tt_ok ?_
    have hcl2 := cntR_le k l
    generalize cntR k l = c1 at *
    by_cases hb : okC cap fuel depth = true ∧ 0 ≤ k ∧ k ≤ 10000
    · have hB := run_Bound cap fuel depth k hb.1 hb.2.1 hb.2.2
      have hR := ref22_Bound cap fuel depth k hb.1 hb.2.1 hb.2.2
      generalize k * fuel = z at *
      repeat' ((conv => whnf); (first
       | (refine Br_true (beqT (by omega)) ?_)
       | (refine Br_false (decide_eq_false (by omega)) ?_)
       | (refine Len_in (fun hlen => ?_))
       | (refine Fn.use (hG) rfl rfl ?_)
       | (refine Fn.use (hB) rfl rfl ?_)
       | (refine Fn.use (hR) rfl rfl ?_)
       | (refine Fn.use (hC) rfl rfl ?_)
       | (refine Fn.use (hL) rfl rfl ?_)
       | (refine fin0 rfl ?_)))
      all_goals rfl
    · have hb2 : okC cap fuel depth = false ∨ k < 0 ∨ 10000 < k := by
        cases hc : okC cap fuel depth
        · exact .inl rfl
        · right
          by_cases h0 : k < 0
          · exact .inl h0
          · right
            by_cases h1 : 10000 < k
            · exact h1
            · exact absurd ⟨hc, by omega, by omega⟩ hb
      have hB := run_Bound_no cap fuel depth k hb2
      have hR := ref22_Bound_no cap fuel depth k hb2
      repeat' ((conv => whnf); (first
       | (refine Br_true (beqT (by omega)) ?_)
       | (refine Br_false (decide_eq_false (by omega)) ?_)
       | (refine Len_in (fun hlen => ?_))
       | (refine Fn.use (hG) rfl rfl ?_)
       | (refine Fn.use (hB) rfl rfl ?_)
       | (refine Fn.use (hR) rfl rfl ?_)
       | (refine Fn.use (hC) rfl rfl ?_)
       | (refine Fn.use (hL) rfl rfl ?_)
       | (refine fin0 rfl ?_)))
      all_goals rfl
end Go.Eng
set_option linter.unusedVariables false
set_option linter.unusedSimpArgs false
namespace Go.Eng
open Go
theorem ex_map {α : Type} (f : α → List D) : ∀ rows : List (List D), (∀ r ∈ rows, ∃ a, r = f a) → ∃ l : List α, rows = l.map f := by
  intro rows
  induction rows with
  | nil => intro _; exact ⟨[], rfl⟩
  | cons r t ih =>
    intro h
    obtain ⟨a, rfl⟩ := h r (by simp)
    obtain ⟨l, rfl⟩ := ih fun r hr => h r (by simp [hr])
    exact ⟨a :: l, rfl⟩
abbrev i64 : Sh := .int .i64
theorem has_int {d : D} (h : HasSh i64 d) : ∃ n : Int, d = .i n := by cases h with | int _ n h => exact ⟨n, rfl⟩
def intsSh : Sh := .sl [i64]
theorem has_ints {d : D} (h : HasSh intsSh d) : ∃ l : List Int, d = ints l := by
  cases h with
  | sl _ rows hl h =>
    obtain ⟨l, rfl⟩ := ex_map intCs rows fun r hr => by
      have h1 := hl r hr
      match r, h1 with
      | [x], _ =>
        obtain ⟨n, rfl⟩ := has_int (h [x] hr 0 i64 x rfl rfl)
        exact ⟨n, rfl⟩
    exact ⟨l, rfl⟩
def attrSh : List Sh := [i64, i64]
theorem row_attr {r : List D} (h : Row attrSh r) : ∃ a : Attr, r = a.cs := by
  obtain ⟨h1, h2⟩ := h
  match r, h1, h2 with
  | [x, y], _, h2 =>
    obtain ⟨n, rfl⟩ := has_int (h2 0 i64 x rfl rfl)
    obtain ⟨v, rfl⟩ := has_int (h2 1 i64 y rfl rfl)
    exact ⟨⟨n, v⟩, rfl⟩
def attrsSh : Sh := .sl attrSh
theorem has_attrs {d : D} (h : HasSh attrsSh d) : ∃ l : List Attr, d = attrsD l := by
  cases h with
  | sl _ rows hl h =>
    obtain ⟨l, rfl⟩ := ex_map Attr.cs rows fun r hr => row_attr ⟨hl r hr, h r hr⟩
    exact ⟨l, rfl⟩
def nodeSh : List Sh := [i64, i64, i64, intsSh, i64, i64, attrsSh]
theorem row_node {r : List D} (h : Row nodeSh r) : ∃ x : Node, r = x.cs := by
  obtain ⟨h1, h2⟩ := h
  match r, h1, h2 with
  | [x0, x1, x2, x3, x4, x5, x6], _, h2 =>
    obtain ⟨n0, rfl⟩ := has_int (h2 0 i64 x0 rfl rfl)
    obtain ⟨n1, rfl⟩ := has_int (h2 1 i64 x1 rfl rfl)
    obtain ⟨n2, rfl⟩ := has_int (h2 2 i64 x2 rfl rfl)
    obtain ⟨n3, rfl⟩ := has_ints (h2 3 intsSh x3 rfl rfl)
    obtain ⟨n4, rfl⟩ := has_int (h2 4 i64 x4 rfl rfl)
    obtain ⟨n5, rfl⟩ := has_int (h2 5 i64 x5 rfl rfl)
    obtain ⟨n6, rfl⟩ := has_attrs (h2 6 attrsSh x6 rfl rfl)
    exact ⟨⟨n0, n1, n2, n3, n4, n5, n6⟩, rfl⟩
def treeSh : Sh := .sl nodeSh
theorem has_tree {d : D} (h : HasSh treeSh d) : ∃ t : Tree, d = treeD t := by
  cases h with
  | sl _ rows hl h =>
    obtain ⟨l, rfl⟩ := ex_map Node.cs rows fun r hr => row_node ⟨hl r hr, h r hr⟩
    exact ⟨l, rfl⟩
theorem arg_one {P : Program} {t : TypeId} {s : Sh} {x : AV} (h : ArgOk P t x) (hf : flat P 8 t = some [s]) (hu : ∀ ds, topAV P t ds = hd1 ds) : ∃ d, HasSh s d ∧ x = .d d := by
  obtain ⟨shs, ds, h1, h2, h3⟩ := h
  rw [hf] at h1
  injection h1 with h1
  subst h1
  obtain ⟨g1, g2⟩ := h2
  match ds, g1, g2, h3 with
  | [d], _, g2, h3 => exact ⟨d, g2 0 s d rfl rfl, by rw [h3, hu]; rfl⟩
theorem arg_agg {P : Program} {t : TypeId} {shs : List Sh} {x : AV} (h : ArgOk P t x) (hf : flat P 8 t = some shs) (hu : ∀ ds, topAV P t ds = .agg (ds.map .d)) : ∃ ds, Row shs ds ∧ x = .agg (ds.map .d) := by
  obtain ⟨shs', ds, h1, h2, h3⟩ := h
  rw [hf] at h1
  injection h1 with h1
  subst h1
  exact ⟨ds, h2, by rw [h3, hu]⟩
theorem args_2 {P : Program} {t u : TypeId} {xs : List AV} (h : ArgsOk P [t, u] xs) : ∃ x y, xs = [x, y] ∧ ArgOk P t x ∧ ArgOk P u y := by
  match xs, h with
  | [x, y], h => exact ⟨x, y, rfl, h.1, h.2.1⟩
theorem args_3 {P : Program} {t u v : TypeId} {xs : List AV} (h : ArgsOk P [t, u, v] xs) : ∃ x y z, xs = [x, y, z] ∧ ArgOk P t x ∧ ArgOk P u y ∧ ArgOk P v z := by
  match xs, h with
  | [x, y, z], h => exact ⟨x, y, z, rfl, h.1, h.2.1, h.2.2.1⟩
end Go.Eng
set_option maxRecDepth 100000
set_option linter.unusedVariables false
set_option linter.unusedSimpArgs false
namespace Go.Eng
open Go Go.Proofs
def rowSh : Sh := .sl [i64, i64, i64, i64, i64, i64, i64, i64]
theorem has_rows {d : D} (h : HasSh rowSh d) : ∃ l : List PRow, d = .sl (l.map PRow.cs) := by
  cases h with
  | sl _ rows hl h =>
    obtain ⟨l, rfl⟩ := ex_map PRow.cs rows fun r hr => by
      have h1 := hl r hr
      have h2 := h r hr
      match r, h1, h2 with
      | [x0, x1, x2, x3, x4, x5, x6, x7], _, h2 =>
        obtain ⟨n0, rfl⟩ := has_int (h2 0 i64 x0 rfl rfl)
        obtain ⟨n1, rfl⟩ := has_int (h2 1 i64 x1 rfl rfl)
        obtain ⟨n2, rfl⟩ := has_int (h2 2 i64 x2 rfl rfl)
        obtain ⟨n3, rfl⟩ := has_int (h2 3 i64 x3 rfl rfl)
        obtain ⟨n4, rfl⟩ := has_int (h2 4 i64 x4 rfl rfl)
        obtain ⟨n5, rfl⟩ := has_int (h2 5 i64 x5 rfl rfl)
        obtain ⟨n6, rfl⟩ := has_int (h2 6 i64 x6 rfl rfl)
        obtain ⟨n7, rfl⟩ := has_int (h2 7 i64 x7 rfl rfl)
        exact ⟨⟨n0, n1, n2, n3, n4, n5, n6, n7⟩, rfl⟩
    exact ⟨l, rfl⟩
theorem law22_RunCounts_args (hL : Fn Tryz.prog 34 [] (.b true)) (xs : List AV) (h : ArgsOk Tryz.prog [96, 3, 23] xs) : Fn Tryz.prog 11 xs (.b true) := by
  obtain ⟨x, y, z, rfl, h1, h2, h3⟩ := args_3 h
  obtain ⟨d, hd, rfl⟩ := arg_one (s := rowSh) h1 (by kernel_rfl) (fun _ => by kernel_rfl)
  obtain ⟨e, he, rfl⟩ := arg_one (s := i64) h2 (by kernel_rfl) (fun _ => by kernel_rfl)
  obtain ⟨ds, hc, rfl⟩ := arg_agg (shs := [i64, i64, i64]) h3 (by kernel_rfl) (fun _ => by kernel_rfl)
  obtain ⟨l, rfl⟩ := has_rows hd
  obtain ⟨n, rfl⟩ := has_int he
  obtain ⟨g1, g2⟩ := hc
  match ds, g1, g2 with
  | [x0, x1, x2], _, g2 =>
    obtain ⟨n0, rfl⟩ := has_int (g2 0 i64 x0 rfl rfl)
    obtain ⟨n1, rfl⟩ := has_int (g2 1 i64 x1 rfl rfl)
    obtain ⟨n2, rfl⟩ := has_int (g2 2 i64 x2 rfl rfl)
    exact law22_RunCounts hL l n n0 n1 n2
end Go.Eng
set_option linter.unusedVariables false
set_option linter.unusedSimpArgs false
namespace Go.Eng
open Go
def Keep (r : Nat) (H H' : Heap) : Prop := r < H.length → rowOf H' r = rowOf H r
theorem Keep.refl (r : Nat) (H : Heap) : Keep r H H := fun _ => rfl
theorem Keep.push (r : Nat) (H new : Heap) : Keep r H (H ++ new) := fun h => by
  unfold rowOf
  rw [List.getElem?_append_left h]
def sideK (r : Nat) (T : TypeId) (op : Op) (ρ : Nat → AV) (X : Prop) : Prop :=
  match op with
  | .load t x => match Nat.beq t T with
    | true => match evalO ρ x with
      | .ptr b _ => match Nat.beq b r with
        | true => X
        | false => False
      | _ => False
    | false => X
  | _ => X
theorem sideK_iff {r : Nat} {T : TypeId} {op : Op} {ρ : Nat → AV} {X : Prop} : sideK r T op ρ X ↔ sideK r T op ρ True ∧ X := by
  unfold sideK
  repeat' (first | split | (simp; done) | simp only [and_true, true_and, false_and])
theorem sideK_congr {r : Nat} {T : TypeId} {op : Op} {ρ ρ' : Nat → AV} {X : Prop} (h : Agree ρ ρ' op.operands.toList) : sideK r T op ρ X = sideK r T op ρ' X := by
  cases op <;> unfold sideK <;> try rfl
  case load t x =>
    have e : evalO ρ x = evalO ρ' x := h _ (by simp [Op.operands])
    simp only [e]
def keepK (md r : Nat) (op : Op) (H H' : Heap) (X : Prop) : Prop :=
  match cls md op with
  | 0 => X
  | 1 => X
  | 2 => X
  | _ => Keep r H H' ∧ X
def isLd (T : TypeId) (op : Op) : Bool := match op with | .load t _ => Nat.beq t T | _ => false
section
variable {P : Program} {tt : TT} {p : PQ} {σ : List Nat} {s : St} {a : Act} {w : World} {ro : Option Nat} {n : Nat} {md base : Nat} {ops : Array Oper} {ρ : Nat → AV} {H : Heap} {r : Nat} {T : TypeId}
def sideAt (r : Nat) (T : TypeId) (ops : Array Oper) (i : Nat) (ρ : Nat → AV) : Prop := ∀ o, ops[i]? = some o → gst ops o ρ = some true → sideK r T o.op ρ True
theorem sideAt_congr {i : Nat} {o : Oper} {ρ' : Nat → AV} (ho : ops[i]? = some o) (ha : AgreeT ops o ρ ρ') (h : sideAt r T ops i ρ) : sideAt r T ops i ρ' := by
  intro o' ho' hg
  rw [ho] at ho'; injection ho' with ho'; subst ho'
  rw [← ha.gst] at hg
  rw [← sideK_congr ha.opnds]
  exact h o ho hg
theorem opKd_keep {K : AV → Heap → Prop} (op : Op) (h : opKd P tt md base op ρ H fun v H' => keepK md r op H H' (K v H')) : opKd P tt md base op ρ H fun v H' => Keep r H H' ∧ K v H' := by
  unfold keepK at h
  by_cases h0 : cls md op = 0
  · rw [h0] at h
    obtain ⟨v, h1, h2⟩ := opKd_pure op h0 H _ h
    exact h2 H _ ⟨.refl r H, h1⟩
  by_cases h1 : cls md op = 1
  · rw [h1] at h
    obtain ⟨v, h2, h3⟩ := opKd_load op h1 h
    exact h3 H _ (fun _ _ => rfl) ⟨.refl r H, h2⟩
  by_cases h2 : cls md op = 2
  · rw [h2] at h
    obtain ⟨v, new, h3, h4⟩ := opKd_push op h2 h
    exact h4 _ ⟨.push r H new, h3⟩
  · generalize cls md op = c at *
    match c, h0, h1, h2, h with
    | n + 3, _, _, _, h => exact h
theorem at_ld {i : Nat} {o : Oper} {K : (Nat → AV) → Heap → Prop} (ho : ops[i]? = some o) (hB : isLd T o.op = true) (hs : sideAt r T ops i ρ) (h : opAt P tt md base ops n i ρ H K) :
    ∃ v, K (updO ρ o.dst v) H ∧ ∀ H2, (r < base → rowOf H2 r = rowOf H r) → Out P tt md base ops n i o ρ H2 v H2 := by
  obtain ⟨o', ho', hd, h | h⟩ := opAt_in h <;> rw [ho] at ho' <;> injection ho' with ho' <;> subst ho'
  · obtain ⟨hg, h⟩ := h
    have hs := hs o ho hg
    have key : ∃ v, K (updO ρ o.dst v) H ∧ ∀ (H2 : Heap) (K' : AV → Heap → Prop), (r < base → rowOf H2 r = rowOf H r) → K' v H2 → opKd P tt md base o.op ρ H2 K' := by
      generalize o.op = op at h hs hB ⊢
      cases op <;> (try (simp [isLd] at hB; done))
      rename_i ty x
      unfold isLd at hB
      simp only at hB
      unfold sideK at hs
      simp only [hB] at hs
      unfold opKd opK at h ⊢
      simp only at h ⊢
      generalize evalO ρ x = v at h hs ⊢
      cases v <;> (try exact hs.elim)
      rename_i b off
      simp only at h hs ⊢
      have hbr : b = r := by
        cases e : Nat.beq b r with
        | true => exact Nat.eq_of_beq_eq_true e
        | false => rw [e] at hs; exact hs.elim
      subst hbr
      cases hb : Nat.blt b base with
      | false => rw [hb] at h; exact h.elim
      | true =>
        rw [hb] at h
        simp only at h ⊢
        cases ht : tt ty with
        | none => rw [ht] at h; exact h.elim
        | some ti =>
          rw [ht] at h
          simp only at h ⊢
          cases hr : rowOf H b with
          | none => rw [hr] at h; exact h.elim
          | some cs =>
            rw [hr] at h
            obtain ⟨v, h1, h2⟩ := PD_load ti cs off H (fun v H' => K (updO ρ o.dst v) H') h
            refine ⟨v, h1, fun H2 K' hag hk => ?_⟩
            rw [hag (Nat.blt_eq.mp hb)]
            exact h2 H2 K' hk
    obtain ⟨v, k1, k2⟩ := key
    exact ⟨v, k1, fun H2 hag => Out_of ho hd hg fun K' hk => k2 H2 K' hag hk⟩
  · exact ⟨.tup [], h.2, fun H2 _ => Out_skip ho hd h.1⟩
def swR (md : Nat) (T : TypeId) (ops : Array Oper) (x i : Nat) : Bool :=
  match ops[x]?, ops[i]? with
  | some ox, some oi => (clsOk (cls md ox.op) (cls md oi.op) || (isLd T ox.op || isLd T oi.op)) && ox.apart ops oi
  | _, _ => false
def opR (P : Program) (tt : TT) (r : Nat) (T : TypeId) (md base : Nat) (ops : Array Oper) (n i : Nat) (ρ : Nat → AV) (H : Heap) (K : (Nat → AV) → Heap → Prop) : Prop :=
  sideAt r T ops i ρ ∧ opAt P tt md base ops n i ρ H fun ρ' H' => Keep r H H' ∧ K ρ' H'
def awpR (P : Program) (tt : TT) (r : Nat) (T : TypeId) (md base : Nat) (ops : Array Oper) (n : Nat) (l : List Nat) (ρ : Nat → AV) (H : Heap) (K : (Nat → AV) → Heap → Prop) : Prop :=
  match l with
  | [] => K ρ H
  | i :: t => opR P tt r T md base ops n i ρ H fun ρ' H' => awpR P tt r T md base ops n t ρ' H' K
theorem swapR {i j : Nat} (hsw : swR md T ops i j = true) {K : (Nat → AV) → Heap → Prop} (hb : base ≤ H.length)
    (h : opR P tt r T md base ops n i ρ H fun ρ1 H1 => opR P tt r T md base ops n j ρ1 H1 K) : opR P tt r T md base ops n j ρ H fun ρ1 H1 => opR P tt r T md base ops n i ρ1 H1 K := by
  unfold swR at hsw
  split at hsw
  rotate_left
  · simp at hsw
  rename_i oi oj hi hj
  simp only [Bool.and_eq_true] at hsw
  obtain ⟨hcl, hap⟩ := hsw
  obtain ⟨h1, h2, h3⟩ := Oper.apart_spec hap
  have agj : ∀ v, AgreeT ops oj (updO ρ oi.dst v) ρ := fun v t ht => updO_get (fun x hx e => h1 x hx (e ▸ ht)) v
  have agi : ∀ v, AgreeT ops oi ρ (updO ρ oj.dst v) := fun v t ht => (updO_get (fun x hx e => h3 x hx (e ▸ ht)) v).symm
  have comm : ∀ v u, updO (updO ρ oi.dst v) oj.dst u = updO (updO ρ oj.dst u) oi.dst v := fun v u => updO_comm h2 v u
  obtain ⟨hsi, h⟩ := h
  have hsj : sideAt r T ops j ρ := by
    obtain ⟨v, H', g1, _, _⟩ := at3 hi h
    exact sideAt_congr hj (agj v) g1.2.1
  have si : ∀ v, sideAt r T ops i (updO ρ oj.dst v) := fun v => sideAt_congr hi (agi v) hsi
  have grow : ∀ new : Heap, ∀ b, b < base → rowOf (H ++ new) b = rowOf H b := fun new b hb' => by
    unfold rowOf
    rw [List.getElem?_append_left (by omega)]
  refine ⟨hsj, ?_⟩
  by_cases a0 : cls md oi.op = 0
  · obtain ⟨vi, g1, g2⟩ := at0 hi a0 h
    obtain ⟨vj, H2, k1, k2, k3⟩ := at3 hj g1.2.2
    exact k3 ρ (agj vi) _ ⟨k1.1, si vj, g2 H2 _ (agi vj) _ ⟨.refl r H2, by rw [← comm]; exact k1.2⟩⟩
  by_cases b0 : cls md oj.op = 0
  · obtain ⟨vi, H1, g1, g2, g3⟩ := at3 hi h
    obtain ⟨vj, k1, k2⟩ := at0 hj b0 g1.2.2
    exact k2 H ρ (agj vi) _ ⟨.refl r H, si vj, g3 _ (agi vj) _ ⟨g1.1, by rw [← comm]; exact k1.2⟩⟩
  rcases Bool.or_eq_true _ _ ▸ hcl with hcl | hcl
  · have hcl : (cls md oi.op = 1 ∧ cls md oj.op = 1) ∨ (cls md oi.op = 1 ∧ cls md oj.op = 2) ∨ (cls md oi.op = 2 ∧ cls md oj.op = 1) := by
      simp only [clsOk, Bool.or_eq_true, Bool.and_eq_true, Nat.beq_eq_true_eq] at hcl
      have e : ∀ x y : Nat, Nat.beq x y = true → x = y := fun x y h => Nat.eq_of_beq_eq_true h
      rcases hcl with (((h | h) | h) | h) | h
      · exact absurd (by first | exact h | exact e _ _ h) a0
      · exact absurd (by first | exact h | exact e _ _ h) b0
      · exact .inl ⟨by first | exact h.1 | exact e _ _ h.1, by first | exact h.2 | exact e _ _ h.2⟩
      · exact .inr (.inl ⟨by first | exact h.1 | exact e _ _ h.1, by first | exact h.2 | exact e _ _ h.2⟩)
      · exact .inr (.inr ⟨by first | exact h.1 | exact e _ _ h.1, by first | exact h.2 | exact e _ _ h.2⟩)
    rcases hcl with ⟨ci, cj⟩ | ⟨ci, cj⟩ | ⟨ci, cj⟩
    · obtain ⟨vi, g1, g2⟩ := at1 hi ci h
      obtain ⟨vj, k1, k2⟩ := at1 hj cj g1.2.2
      exact k2 H (fun _ _ => rfl) ρ (agj vi) _ ⟨.refl r H, si vj, g2 H (fun _ _ => rfl) _ (agi vj) _ ⟨.refl r H, by rw [← comm]; exact k1.2⟩⟩
    · obtain ⟨vi, g1, g2⟩ := at1 hi ci h
      obtain ⟨vj, new, k1, k2⟩ := at2 hj cj g1.2.2
      exact k2 ρ (agj vi) _ ⟨.push r H new, si vj, g2 _ (grow new) _ (agi vj) _ ⟨.refl r _, by rw [← comm]; exact k1.2⟩⟩
    · obtain ⟨vi, new, g1, g2⟩ := at2 hi ci h
      obtain ⟨vj, k1, k2⟩ := at1 hj cj g1.2.2
      exact k2 H (fun b hb' => (grow new b hb').symm) ρ (agj vi) _ ⟨.refl r H, si vj, g2 _ (agi vj) _ ⟨.push r H new, by rw [← comm]; exact k1.2⟩⟩
  · rcases Bool.or_eq_true _ _ ▸ hcl with hcl | hcl
    · obtain ⟨vi, g1, g2⟩ := at_ld hi hcl hsi h
      obtain ⟨vj, H2, k1, k2, k3⟩ := at3 hj g1.2.2
      exact k3 ρ (agj vi) _ ⟨k1.1, si vj, g2 H2 (fun hr => k1.1 (by omega)) _ (agi vj) _ ⟨.refl r H2, by rw [← comm]; exact k1.2⟩⟩
    · obtain ⟨vi, H1, g1, g2, g3⟩ := at3 hi h
      obtain ⟨vj, k1, k2⟩ := at_ld hj hcl g1.2.1 g1.2.2
      exact k2 H (fun hr => (g1.1 (by omega)).symm) ρ (agj vi) _ ⟨.refl r H, si vj, g3 _ (agi vj) _ ⟨g1.1, by rw [← comm]; exact k1.2⟩⟩
theorem opR_mono {i : Nat} {K K' : (Nat → AV) → Heap → Prop} (h : opR P tt r T md base ops n i ρ H K) (hk : ∀ ρ' H', H.length ≤ H'.length → K ρ' H' → K' ρ' H') : opR P tt r T md base ops n i ρ H K' := ⟨h.1, opAt_mono h.2 fun ρ' H' hl hh => ⟨hh.1, hk ρ' H' hl hh.2⟩⟩
theorem bubbleR {i : Nat} {b : List Nat} {K : (Nat → AV) → Heap → Prop} (a : List Nat) : ∀ (ρ : Nat → AV) (H : Heap), base ≤ H.length → (∀ x ∈ a, swR md T ops x i = true) →
    awpR P tt r T md base ops n (a ++ i :: b) ρ H K → opR P tt r T md base ops n i ρ H fun ρ' H' => awpR P tt r T md base ops n (a ++ b) ρ' H' K := by
  induction a with
  | nil => intro ρ H _ _ h; exact h
  | cons x a ih =>
    intro ρ H hb hs h
    have h' : opR P tt r T md base ops n x ρ H fun ρ1 H1 => opR P tt r T md base ops n i ρ1 H1 fun ρ2 H2 => awpR P tt r T md base ops n (a ++ b) ρ2 H2 K :=
      opR_mono (K := fun ρ1 H1 => awpR P tt r T md base ops n (a ++ i :: b) ρ1 H1 K) h fun ρ1 H1 hl hh => ih ρ1 H1 (Nat.le_trans hb hl) (fun y hy => hs y (by simp [hy])) hh
    exact swapR (hs x (by simp)) hb h'
def floatB (md : Nat) (T : TypeId) (ops : Array Oper) : Bool :=
  (List.range ops.size).all fun i => match ops[i]? with
    | none => false
    | some o => (o.after.all fun e => !Region.binds .any e || Nat.blt e.on i) && (List.range i).all fun x => (o.after.any fun e => Region.binds .any e && Nat.beq e.on x) || (swR md T ops x i || depB ops 5 i x)
theorem any_float (hT : TTok P tt) (hB : floatB md T ops = true) {K : (Nat → AV) → Heap → Prop} {Q : Exit → Act → World → Prop} : ∀ (fuel : Nat) (listed : Array Bool) (s : St) (p : PQ) (σ : List Nat) (a : Act) (w : World),
    listed.size = ops.size → Cl ops listed → (unl ops listed).length = fuel → Rel p σ s a w → base ≤ s.H.length → awpR P tt r T md base ops s.n (unl ops listed) (get s.ρ) s.H K →
    (∀ (s' : St) (p' : PQ) (σ' : List Nat) (a' : Act) (w' : World), Ext p w p' w' → Mono σ σ' → Rel p' σ' s' a' w' → s'.m = s.m → s'.n = s.n → s'.df = s.df → K (get s'.ρ) s'.H → Q .normal a' w') →
    wpAnyIn (Fr ro) n P .any ops Q fuel listed a w := by
  have hchk : ∀ i o, ops[i]? = some o → (∀ e ∈ o.after, Region.binds .any e = true → e.on < i) ∧ ∀ x, x < i → (∃ e ∈ o.after, Region.binds .any e = true ∧ e.on = x) ∨ (swR md T ops x i = true ∨ depB ops 5 i x = true) := fun i o ho => by
    have hi : i < ops.size := (Array.getElem?_eq_some_iff.1 ho).1
    have := List.all_eq_true.1 hB i (List.mem_range.2 hi)
    rw [ho] at this
    simp only [Bool.and_eq_true, List.all_eq_true, List.mem_range, Bool.or_eq_true, Array.any_eq_true', Array.all_eq_true_iff_forall_mem] at this
    refine ⟨fun e he hb => ?_, fun x hx => ?_⟩
    · have := this.1 e he
      rw [hb] at this
      simpa [Nat.blt_eq] using this
    · rcases this.2 x hx with ⟨e, he, h1⟩ | h1
      · exact .inl ⟨e, he, h1.1, Nat.eq_of_beq_eq_true h1.2⟩
      · exact .inr h1
  have hready : ∀ (listed : Array Bool) (i : Nat), i ∈ Region.ready .any ops listed → i ∈ unl ops listed ∧ ∃ o, ops[i]? = some o ∧ ∀ e ∈ o.after, Region.binds .any e = true → listed.getD e.on false = true := fun listed i hi => by
    obtain ⟨h1, o, ho, h2⟩ := mem_ready.1 hi
    exact ⟨mem_unl.2 ⟨(Array.getElem?_eq_some_iff.1 ho).1, h1⟩, o, ho, h2⟩
  intro fuel
  induction fuel with
  | zero =>
    intro listed s p σ a w hs hcl hl hR hb h hk
    have hnil : unl ops listed = [] := List.length_eq_zero_iff.1 hl
    rw [hnil] at h
    refine ⟨?_, hk s p σ a w (.refl p w) (.refl σ) hR rfl rfl rfl h⟩
    refine List.eq_nil_iff_forall_not_mem.2 fun i hi => ?_
    have := (hready listed i hi).1
    rw [hnil] at this
    simp at this
  | succ fuel ih =>
    intro listed s p σ a w hs hcl hl hR hb h hk
    refine ⟨fun hnil => ?_, fun i hi => ?_⟩
    · exfalso
      match hu : unl ops listed, hl with
      | x :: r, _ =>
        have hx : x ∈ unl ops listed := hu ▸ (by simp)
        obtain ⟨hx1, hx2⟩ := mem_unl.1 hx
        have ho : ops[x]? = some ops[x] := Array.getElem?_eq_getElem hx1
        have : x ∈ Region.ready .any ops listed := mem_ready.2 ⟨hx2, ops[x], ho, fun e he hb => by
          have hlt := (hchk x _ ho).1 e he hb
          cases hg : listed.getD e.on false with
          | true => rfl
          | false =>
            exfalso
            have : e.on ∈ unl ops listed := mem_unl.2 ⟨by omega, by
              have : e.on < listed.size := by omega
              simp [Array.getD_eq_getD_getElem?, this] at hg ⊢
              exact hg⟩
            rw [hu] at this
            have hp : (x :: r).Pairwise (· < ·) := hu ▸ unl_lt
            rcases List.mem_cons.1 this with h | h
            · omega
            · have := (List.pairwise_cons.1 hp).1 _ h
              omega⟩
        rw [hnil] at this
        simp at this
    · obtain ⟨hm, o, ho, hdeps⟩ := hready listed i hi
      obtain ⟨l1, l2, hsplit⟩ := List.append_of_mem hm
      have hp : (l1 ++ i :: l2).Pairwise (· < ·) := hsplit ▸ unl_lt
      rw [hsplit] at h
      have hsw : ∀ x ∈ l1, swR md T ops x i = true := fun x hx => by
        have hxi : x < i := (List.pairwise_append.1 hp).2.2 x hx i (by simp)
        rcases (hchk i o ho).2 x hxi with ⟨e, he, hbd, rfl⟩ | h1 | h1
        rotate_left
        · exact h1
        · exfalso
          have h3 := dep_listed hcl 5 i x (fun o' ho' => by rw [ho] at ho'; injection ho' with ho'; subst ho'; exact hdeps) h1
          have h2 := (mem_unl.1 (hsplit ▸ (by simp [hx]) : x ∈ unl ops listed)).2
          have : x < listed.size := by
            have : i < ops.size := (Array.getElem?_eq_some_iff.1 ho).1
            omega
          simp [Array.getD_eq_getD_getElem?, this] at h3 h2
          rw [h3] at h2
          simp at h2
        · exfalso
          have h1 := hdeps e he hbd
          have h2 := (mem_unl.1 (hsplit ▸ (by simp [hx]) : e.on ∈ unl ops listed)).2
          have : e.on < listed.size := by
            have : i < ops.size := (Array.getElem?_eq_some_iff.1 ho).1
            omega
          simp [Array.getD_eq_getD_getElem?, this] at h1 h2
          rw [h1] at h2
          simp at h2
      have h2 := bubbleR l1 _ _ hb hsw h
      have h3 := opAt_mono (K' := fun ρ' H' => base ≤ H'.length ∧ awpR P tt r T md base ops s.n (l1 ++ l2) ρ' H' K) h2.2 fun ρ' H' hl hh => ⟨Nat.le_trans hb hl, hh.2⟩
      refine at_sound hT hR h3 fun s' p' σ' a' w' e1 e2 e3 e4 e5 e6 ⟨e7, e8⟩ => ?_
      refine ih _ s' p' σ' a' w' (by simp [hs]) ?_ ?_ e3 e7 ?_ fun s2 p2 σ2 a2 w2 f1 f2 f3 f4 f5 f6 f7 => hk s2 p2 σ2 a2 w2 (e1.trans f1) (e2.trans f2) f3 (f4.trans e4) (f5.trans e5) (f6.trans e6) f7
      · have hmon : ∀ y, listed.getD y false = true → (listed.setIfInBounds i true).getD y false = true := fun y hy => by
          rw [Array.getD_eq_getD_getElem?, Array.getElem?_setIfInBounds]
          by_cases e : i = y
          · subst e
            have : i < listed.size := by rw [hs]; exact (Array.getElem?_eq_some_iff.1 ho).1
            simp [this]
          · rw [if_neg e, ← Array.getD_eq_getD_getElem?]; exact hy
        intro j o2 hj ho2 e he hb2
        refine hmon _ ?_
        by_cases hij : i = j
        · subst hij
          rw [ho] at ho2; injection ho2 with ho2; subst ho2
          exact hdeps e he hb2
        · rw [Array.getD_eq_getD_getElem?, Array.getElem?_setIfInBounds, if_neg hij, ← Array.getD_eq_getD_getElem?] at hj
          exact hcl j o2 hj ho2 e he hb2
      · rw [unl_set hs hsplit]
        rw [hsplit] at hl
        simp at hl ⊢
        omega
      · rw [unl_set hs hsplit, e5]
        exact e8
def stepR (P : Program) (tt : TT) (r : Nat) (T : TypeId) (md base : Nat) (ops : Array Oper) (i : Nat) (ih : St → (St → Prop) → Prop) (s : St) (K : St → Prop) : Prop :=
  match s with
  | ⟨ρ, n, H, m, df⟩ => match ops[i]? with
      | none => False
      | some o => match o.guard with
        | none => sideK r T o.op (get ρ) (opKd P tt md base o.op (get ρ) H fun v H' => keepK md r o.op H H' (putK ⟨ρ, n, H, m, df⟩ o.dst v H' fun s' => ih s' K))
        | some (j, want) => match (ops[j]?).bind (·.dst) with
          | none => False
          | some t => match get ρ t with
            | .d (.bool b) => match want with
              | true => Br b (sideK r T o.op (get ((t, .d (.bool true)) :: ρ)) (opKd P tt md base o.op (get ((t, .d (.bool true)) :: ρ)) H fun v H' => keepK md r o.op H H' (putK ⟨(t, .d (.bool true)) :: ρ, n, H, m, df⟩ o.dst v H' fun s' => ih s' K)))
                  (putK ⟨(t, .d (.bool false)) :: ρ, n, H, m, df⟩ o.dst (.tup []) H fun s' => ih s' K)
              | false => Br b (putK ⟨(t, .d (.bool true)) :: ρ, n, H, m, df⟩ o.dst (.tup []) H fun s' => ih s' K)
                  (sideK r T o.op (get ((t, .d (.bool false)) :: ρ)) (opKd P tt md base o.op (get ((t, .d (.bool false)) :: ρ)) H fun v H' => keepK md r o.op H H' (putK ⟨(t, .d (.bool false)) :: ρ, n, H, m, df⟩ o.dst v H' fun s' => ih s' K)))
            | .tup vs => match vs with
              | [] => putK ⟨ρ, n, H, m, df⟩ o.dst (.tup []) H fun s' => ih s' K
              | _ => False
            | _ => False
def awpE (P : Program) (tt : TT) (r : Nat) (T : TypeId) (md base : Nat) (ops : Array Oper) (l : List Nat) : St → (St → Prop) → Prop :=
  @List.rec Nat (fun _ => St → (St → Prop) → Prop) nilKI (fun i _ ih => stepR P tt r T md base ops i ih) l
theorem awpE_cons (P : Program) (tt : TT) (r : Nat) (T : TypeId) (md base : Nat) (ops : Array Oper) (i : Nat) (t : List Nat) (s : St) (K : St → Prop) : awpE P tt r T md base ops (i :: t) s K = stepR P tt r T md base ops i (awpE P tt r T md base ops t) s K := rfl
theorem awpE_R {K : St → Prop} (l : List Nat) : ∀ (s : St), awpE P tt r T md base ops l s K → awpR P tt r T md base ops s.n l (get s.ρ) s.H fun ρ' H' => ∃ ρl, ρ' = get ρl ∧ K ⟨ρl, s.n, H', s.m, s.df⟩ := by
  induction l with
  | nil => intro s h; obtain ⟨ρ, n, H, m, df⟩ := s; exact ⟨ρ, rfl, h⟩
  | cons i t0 ih =>
    intro s h
    obtain ⟨ρ, n, H, m, df⟩ := s
    rw [awpE_cons] at h
    unfold stepR at h
    simp only at h
    unfold awpR opR opAt
    split at h
    · exact h.elim
    rename_i o ho
    simp only [ho]
    have putE : ∀ (ρ : Env) (v : AV) (H' : Heap), (putK ⟨ρ, n, H, m, df⟩ o.dst v H' fun s' => awpE P tt r T md base ops t0 s' K) →
        okDst n o.dst = true ∧ awpR P tt r T md base ops n t0 (updO (get ρ) o.dst v) H' fun ρ' H' => ∃ ρl, ρ' = get ρl ∧ K ⟨ρl, n, H', m, df⟩ := fun ρ v H' h => by
      unfold putK at h
      simp only at h
      cases hd : o.dst with
      | none => rw [hd] at h; exact ⟨rfl, ih _ h⟩
      | some d =>
        rw [hd] at h
        simp only at h
        cases hb : Nat.blt d n with
        | false => rw [hb] at h; exact h.elim
        | true => rw [hb] at h; exact ⟨hb, ih _ h⟩
    have skp : ∀ (ρ : Env), (putK ⟨ρ, n, H, m, df⟩ o.dst (.tup []) H fun s' => awpE P tt r T md base ops t0 s' K) →
        okDst n o.dst = true ∧ (Keep r H H ∧ awpR P tt r T md base ops n t0 (updO (get ρ) o.dst (.tup [])) H fun ρ' H' => ∃ ρl, ρ' = get ρl ∧ K ⟨ρl, n, H', m, df⟩) := fun ρ h => by
      obtain ⟨g1, g2⟩ := putE ρ _ _ h
      exact ⟨g1, .refl r H, g2⟩
    have run : ∀ ρ : Env, (opKd P tt md base o.op (get ρ) H fun v H' => keepK md r o.op H H' (putK ⟨ρ, n, H, m, df⟩ o.dst v H' fun s' => awpE P tt r T md base ops t0 s' K)) →
        okDst n o.dst = true ∧ opKd P tt md base o.op (get ρ) H fun v H' => Keep r H H' ∧ awpR P tt r T md base ops n t0 (updO (get ρ) o.dst v) H' fun ρ' H' => ∃ ρl, ρ' = get ρl ∧ K ⟨ρl, n, H', m, df⟩ := fun ρ h => by
      obtain ⟨v, H', h1, _, h2⟩ := opKd_det _ (opKd_keep _ h)
      obtain ⟨g1, g2⟩ := putE ρ v H' h1.2
      exact ⟨g1, h2 (fun v H' => Keep r H H' ∧ awpR P tt r T md base ops n t0 (updO (get ρ) o.dst v) H' fun ρ' H' => ∃ ρl, ρ' = get ρl ∧ K ⟨ρl, n, H', m, df⟩) ⟨h1.1, g2⟩⟩
    have yes : ∀ ρ : Env, sideK r T o.op (get ρ) True → sideAt r T ops i (get ρ) := fun ρ h o' ho' _ => by
      rw [ho] at ho'; injection ho' with ho'; subst ho'; exact h
    have no : ∀ ρ : Env, gst ops o (get ρ) = some false → sideAt r T ops i (get ρ) := fun ρ h o' ho' hg => by
      rw [ho] at ho'; injection ho' with ho'; subst ho'; rw [h] at hg; simp at hg
    split at h
    · rename_i hg
      have : gst ops o (get ρ) = some true := by simp [gst, hg]
      rw [this]
      obtain ⟨h0, h⟩ := sideK_iff.1 h
      exact ⟨yes ρ h0, run ρ h⟩
    · rename_i j want hg
      split at h
      · exact h.elim
      rename_i t ht
      split at h
      · rename_i b hb
        have hgs : gst ops o (get ρ) = some (b == want) := by simp [gst, hg, ht, hb]
        have hsame : get ((t, AV.d (.bool b)) :: ρ) = get ρ := by rw [get_cons]; exact upd_same hb
        rw [hgs]
        split at h
        · cases b
          · have := skp _ h
            rw [hsame] at this
            exact ⟨no ρ hgs, this⟩
          · obtain ⟨h0, h⟩ := sideK_iff.1 h
            have := run _ h
            rw [hsame] at this h0
            exact ⟨yes ρ h0, this⟩
        · cases b
          · obtain ⟨h0, h⟩ := sideK_iff.1 h
            have := run _ h
            rw [hsame] at this h0
            exact ⟨yes ρ h0, this⟩
          · have := skp _ h
            rw [hsame] at this
            exact ⟨no ρ hgs, this⟩
      · rename_i vs hb
        split at h
        · have hgs : gst ops o (get ρ) = some false := by simp [gst, hg, ht, hb]
          rw [hgs]
          exact ⟨no ρ hgs, skp _ h⟩
        · exact h.elim
      · exact h.elim
theorem W_float (md r : Nat) (T : TypeId) (hT : TTok P tt) (hmx : P.follows .mixedOrders = true) {id : Nat} {Q : AEx → St → Prop} (hB : floatB md T ops = true) (h : awpE P tt r T md s.H.length ops (idxs ops.toList 0) s (Q .normal)) : W P ro (.region id ops true) Q s := by
  rw [idxs_eq] at h
  have h := awpE_R _ s h
  rw [W_eq]
  intro p σ a w hR
  obtain ⟨hR', he⟩ := hR.drew
  refine wpIn_region_any hmx ?_
  have hu : unl ops (Array.replicate ops.size false) = List.range ops.size := List.filter_eq_self.2 fun i hi => by
    simp [List.mem_range.1 hi]
  refine any_float hT hB ops.size _ s p σ a _ (by simp) (fun i o hi => by simp [Array.getD_eq_getD_getElem?, Array.getElem?_replicate] at hi; split at hi <;> simp at hi) (by rw [hu]; simp) hR' (Nat.le_refl _) (by rw [hu]; exact h) ?_
  rintro s' p' σ' a' w' e1 e2 e3 e4 e5 e6 ⟨ρl, h1, h2⟩
  refine ⟨.normal, p', σ', ⟨ρl, s.n, s'.H, s.m, s.df⟩, rfl, he.trans e1, mono_m e2 hR.heap hR.m, ?_, rfl, rfl, h2⟩
  refine ⟨by rw [e3.size, e5], ?_, fun t => by simp only; rw [← h1]; exact e3.env t, e3.heap, by have := e3.m; rw [e4] at this; exact this⟩
  have := e3.df
  rw [e6] at this
  exact this
end
end Go.Eng
set_option maxRecDepth 100000
set_option linter.unusedVariables false
set_option linter.unusedSimpArgs false
namespace Go.Eng
open Go Go.Proofs
theorem ups_may {t : Tree} (h : mayB t = true) : Ups t := ups_of t fun k hk => may_node h (isN_nat hk)
theorem tree_wrong (t : Tree) (a b : Int) (hm : mayB t = true) (ha : isN t a = true) (hb : isN t b = true) (k1 : (nd t a).kind ≠ 2) (k2 : (nd t b).kind ≠ 0) (k3 : (nd t b).kind ≠ 3)
    (hl : ∀ x ∈ climb t (t.length + 1) a, x ≠ b) : Fn Tryz.prog 166 [.d (treeD t), aggD [.int .i64 a, .int .i64 b, .int .i64 (-1)]] (.i 0) := by
  refine Fn_of tt_ok Tryz.func166 rfl (by decide) Tryz.ntmps166 rfl ?_
  have h1 := tree_is t a
  have h2 := tree_is t b
  rw [ha] at h1
  rw [hb] at h2
  repeat' ((conv => whnf); (first
   | (refine Br_false (beqF (by omega)) ?_)
   | (refine Fn.use (h1) rfl rfl ?_)
   | (refine Fn.use (h2) rfl rfl ?_)
   | (refine Idx_nd ha rfl ?_)
   | (refine Idx_nd hb rfl ?_)
   | (refine Tri.call (tree_up t a) [] rfl rfl trivial rfl rfl rfl rfl (r := .clos (.func 290) [] [.ptr 2 0, .ptr 3 0]) (H' := [some (.row [.i a, .i b, .i (-1)]), some (.row [.i 0]), some (.row [.d (treeD t)]), some (.row [.i a])]) rfl rfl ?_)))
  conv => whnf
  refine W_rangeA [2, 3] (fs0 := []) (cs0 := [.ptr 0 0, .ptr 1 0]) (H0 := [some (.row [.d (treeD t)]), some (.row [.i a])]) ((climb t (t.length + 1) a).map AV.i) (fun k H => H = [some (.row [.i a, .i b, .i (-1)]), some (.row [.i 0]), none, none, some .dfr]) (fun _ _ => False) rfl rfl rfl
    (by repeat (first | exact trivial | refine ⟨⟨rfl, rfl⟩, ?_⟩)) rfl rfl rfl rfl (by decide) (by decide) AsgOk_in rfl plain_ints ?_ rfl ?_ ?_ ?_
  · intro Y hx hY
    have := tree_up1 t a (ups_may hm) (.inr ha) Y hx hY
    rw [hx] at this
    exact this
  · rintro l k x H' hx rfl hl' hY
    rw [List.getElem?_map] at hx
    cases h : (climb t (t.length + 1) a)[k]? with
    | none => rw [h] at hx; simp at hx
    | some c =>
    rw [h] at hx
    simp at hx
    subst hx
    have hc := hl c (List.mem_of_getElem? h)
    refine W_run tt_ok ?_
    repeat' ((conv => whnf); (first
     | (refine Br_false (beqF hc) ?_)
     | (refine Rd_next [some (.row [.i a, .i b, .i (-1)]), some (.row [.i 0]), none, none, some .dfr] (Wk_env (by repeat (first | exact trivial | refine ⟨rfl, ?_⟩))) rfl (Nat.le_of_ble_eq_true rfl) rfl)))
  · rintro H' rfl hl' hY
    repeat' ((conv => whnf); (first
     | (refine W_draw 0 tt_ok mixed (by kernel_rfl) ?_)
     | (refine fin0 rfl ?_)))
    rfl
  · intro e H' c _ h
    exact h.elim
end Go.Eng
set_option maxRecDepth 100000
set_option linter.unusedVariables false
namespace Go.Eng
open Go Go.Proofs
theorem ref_Is (t : Tree) (n : Int) : Fn Tryz.prog 65 [.d (treeD t), .i n] (.b (isN t n)) := by
  refine Fn_of tt_ok Tryz.func65 rfl (by decide) Tryz.ntmps65 rfl ?_
  repeat' ((conv => whnf); (first
   | (refine Br_dec (fun h => ?_) (fun h => ?_))
   | (refine Len_in (fun hlen => ?_))
   | (refine fin0 rfl ?_)))
  all_goals (simp only [AV.d.injEq, D.bool.injEq, isN, List.length_map] at *; grind)
theorem ref_value (n v : Int) : Fn Tryz.prog 210 [.i n, .i v] (.b (valueB n v)) := by
  refine Fn_of tt_ok Tryz.func210 rfl (by decide) Tryz.ntmps210 rfl ?_
  repeat' ((conv => whnf); (first
   | (refine Br_beq (fun h => ?_) (fun h => ?_))
   | (refine Br_dec (fun h => ?_) (fun h => ?_))
   | (refine fin0 rfl ?_)))
  all_goals simp only [AV.d.injEq, D.bool.injEq, valueB]
  all_goals grind
theorem ref_Attr (kind : Int) (a : Attr) : Fn Tryz.prog 156 [.i kind, aggD a.cs] (.b (attrB kind a)) := by
  refine Fn_of tt_ok Tryz.func156 rfl (by decide) Tryz.ntmps156 rfl ?_
  repeat' ((conv => whnf); (first
   | (refine Br_beq (fun h => ?_) (fun h => ?_))
   | (refine Br_bne (fun h => ?_) (fun h => ?_))
   | (refine Br_dec (fun h => ?_) (fun h => ?_))
   | (refine Br_not ?_)
   | (refine Fn.use (ref_value _ _) rfl rfl ?_)
   | (refine Br_split (fun h => ?_) (fun h => ?_))
   | (refine fin0 rfl ?_)))
  all_goals simp only [AV.d.injEq, D.bool.injEq, attrB, ofSh]
  all_goals grind
def refFrom (kind : Int) : Int → List Attr → Bool
  | _, [] => true
  | last, a :: r => attrB kind a && decide (last < a.name) && refFrom kind a.name r
theorem refFrom_eq (kind : Int) (l : List Attr) : ∀ last : Int, -1 ≤ last → refFrom kind last l = (attrsFrom (decide (kind = 3)) last l && (decide (l = []) || decide (kind = 1) || decide (kind = 3))) := by
  induction l with
  | nil => intro last _; simp [refFrom, attrsFrom]
  | cons a r ih =>
    intro last hl
    simp only [refFrom, attrsFrom]
    by_cases h0 : last < a.name
    · rw [ih a.name (by omega)]
      unfold attrB
      by_cases h1 : kind = 1
      · subst h1; simp; grind
      · by_cases h3 : kind = 3
        · subst h3; simp; grind
        · simp [h1, h3]
    · simp [h0]
theorem refFrom_attrs (x : Node) : refFrom x.kind (-1) x.attrs = attrsB x := by
  unfold attrsB
  exact refFrom_eq x.kind x.attrs (-1) (by omega)
def prevN (l : List Attr) (k : Nat) : Int := if k = 0 then -1 else (l.getD (k - 1) default).name
theorem ref_attrs (x : Node) : Fn Tryz.prog 89 [aggD x.cs] (.b (attrsB x)) := by
  rw [← refFrom_attrs]
  refine Fn_of tt_ok Tryz.func89 rfl (by decide) Tryz.ntmps89 rfl ?_
  refine W_loop (fun μ s => ∃ (k : Nat), k ≤ x.attrs.length ∧ μ = x.attrs.length - k ∧ (refFrom x.kind (-1) x.attrs = refFrom x.kind (prevN x.attrs k) (x.attrs.drop k)) ∧ s = ⟨[(1, .ptr 0 0), (3, .i k)], 40, [some (.row (x.cs.map .d))], 0, []⟩) (x.attrs.length) ⟨_, ?_, 0, by simp, by simp, ?_, rfl⟩ ?_
  · exact Wk_ren [0] rfl rfl (by repeat (first | exact trivial | refine ⟨⟨rfl, rfl⟩, ?_⟩)) (by repeat (first | exact trivial | refine ⟨⟨rfl, rfl⟩, ?_⟩)) (by decide) (by omega)
  · rfl
  rintro μ s1 ⟨k, hk, rfl, hinv, rfl⟩
  refine W_run tt_ok ?_
  refine Len_in (fun hlen => ?_)
  simp only [List.length_map] at hlen
  refine Br_dec (fun h => ?_) (fun h => ?_)
  · simp at h
    conv => whnf
    rw [List.drop_eq_getElem_cons h] at hinv
    simp only [refFrom] at hinv
    have hp : (x.attrs[k]).name = prevN x.attrs (k + 1) := by simp [prevN, h]
    have hi : (List.map Attr.cs x.attrs)[(k : Int).toNat]? = some (x.attrs[k]).cs := by simp [h]
    refine W_draw 0 tt_ok mixed (by kernel_rfl) ?_
    refine Idx_in _ hi (by omega) rfl ?_
    refine CallF_in (ref_Attr _ _) rfl rfl ?_
    refine Br_not (Br_split (fun ha => ?_) (fun ha => ?_))
    rotate_left
    · repeat' ((conv => whnf); (first
     | (refine fin0 rfl ?_)))
      rw [hinv, ha]; rfl
    rw [ha, Bool.true_and] at hinv
    refine Br_dec (fun h0 => ?_) (fun h0 => ?_)
    · have hk1 : k - 1 < x.attrs.length := by omega
      have hi1 : (List.map Attr.cs x.attrs)[((k : Int) - 1).toNat]? = some (x.attrs[k - 1]).cs := by
        rw [show ((k : Int) - 1).toNat = k - 1 by omega]; simp [hk1]
      have hp1 : prevN x.attrs k = (x.attrs[k - 1]).name := by
        unfold prevN
        rw [if_neg (by omega)]
        simp [hk1]
      rw [hp1, hp] at hinv
      refine Idx_in _ hi (by omega) rfl ?_
      refine ArK_in (wrap_i64 (by omega) (by omega)) ?_
      refine Idx_in _ hi1 (by omega) rfl ?_
      refine Br_dec (fun h1 => ?_) (fun h1 => ?_)
      · repeat' ((conv => whnf); (first
       | (refine fin0 rfl ?_)))
        rw [hinv, decide_eq_false (by omega)]; rfl
      · rw [decide_eq_true (by omega), Bool.true_and] at hinv
        repeat' ((conv => whnf); (first
         | (refine Back_in _ _ ⟨k + 1, by omega, rfl, ?_, rfl⟩ (by omega) (Wk_ren [0] rfl rfl (by repeat (first | exact trivial | refine ⟨⟨rfl, rfl⟩, ?_⟩)) (by repeat (first | exact trivial | refine ⟨⟨rfl, rfl⟩, ?_⟩)) (by decide) (by omega)))
         | (refine ArK_in (wrap_i64 (by omega) (by omega)) ?_)))
        exact hinv
    · have hp1 : prevN x.attrs k = -1 := by
        unfold prevN
        rw [if_pos (by omega)]
      have hn : -1 < (x.attrs[k]).name := by
        unfold attrB at ha
        simp at ha
        omega
      rw [hp1, decide_eq_true hn, Bool.true_and, hp] at hinv
      repeat' ((conv => whnf); (first
       | (refine Back_in _ _ ⟨k + 1, by omega, rfl, ?_, rfl⟩ (by omega) (Wk_ren [0] rfl rfl (by repeat (first | exact trivial | refine ⟨⟨rfl, rfl⟩, ?_⟩)) (by repeat (first | exact trivial | refine ⟨⟨rfl, rfl⟩, ?_⟩)) (by decide) (by omega)))
       | (refine ArK_in (wrap_i64 (by omega) (by omega)) ?_)))
      exact hinv
  · simp at h
    repeat' ((conv => whnf); (first
     | (refine fin0 rfl ?_)))
    rw [hinv, List.drop_eq_nil_of_le h]
    rfl
theorem ref_count (l : List Int) (n : Int) : Fn Tryz.prog 157 [.d (ints l), .i n] (.i (l.count n)) := by
  refine Fn_ofB tt_ok Tryz.func157 rfl (by decide) Tryz.ntmps157 rfl (fun hok => ?_)
  have hB := Ok_len (hok (.d (ints l)) (by simp))
  simp only [List.length_map] at hB
  refine W_loop (fun μ s => ∃ (k : Nat), k ≤ l.length ∧ μ = l.length - k ∧ (True) ∧ s = ⟨[(0, .d (ints l)), (1, .i n), (5, .i ((l.take k).count n)), (6, .i k)], 22, [], 0, []⟩) (l.length) ⟨_, ?_, 0, by simp, by simp, ?_, rfl⟩ ?_
  · exact Wk_env (by repeat (first | exact trivial | refine ⟨rfl, ?_⟩))
  · trivial
  rintro μ s1 ⟨k, hk, rfl, hinv, rfl⟩
  refine W_run tt_ok ?_
  refine Len_in (fun _ => ?_)
  refine Br_dec (fun h => ?_) (fun h => ?_)
  · simp at h
    have hct := List.count_le_length (a := n) (l := l.take k)
    simp only [List.length_take] at hct
    have htk : l.take (k + 1) = l.take k ++ [l[k]] := List.take_succ_eq_append_getElem h
    refine Idx_in (intCs l[k]) (by simp [h]) (by omega) rfl ?_
    refine Br_beq (fun h1 => ?_) (fun h1 => ?_)
    · have hc : (l.take (k + 1)).count n = (l.take k).count n + 1 := by rw [htk, List.count_append]; simp [h1]
      have hc' : (((l.take (k + 1)).count n : Nat) : Int) = ((l.take k).count n : Nat) + 1 := by rw [hc]; rfl
      repeat' ((conv => whnf); (first
       | (refine Back_in _ _ ⟨k + 1, by omega, rfl, ?_, rfl⟩ (by omega) (Wk_env (by rw [hc']; repeat (first | exact trivial | refine ⟨rfl, ?_⟩))))
       | (refine ArK_in (wrap_i64 (by omega) (by omega)) ?_)))
      trivial
    · have hc : (l.take (k + 1)).count n = (l.take k).count n := by rw [htk, List.count_append]; simp [h1]
      repeat' ((conv => whnf); (first
       | (refine Back_in _ _ ⟨k + 1, by omega, rfl, ?_, rfl⟩ (by omega) (Wk_env (by rw [hc]; repeat (first | exact trivial | refine ⟨rfl, ?_⟩))))
       | (refine ArK_in (wrap_i64 (by omega) (by omega)) ?_)))
      trivial
  · simp at h
    repeat' ((conv => whnf); (first
     | (refine fin0 rfl ?_)))
    rw [List.take_of_length_le h]
end Go.Eng
set_option maxRecDepth 100000
set_option linter.unusedVariables false
namespace Go.Eng
open Go Go.Proofs
theorem ref_kind (x : Node) (n : Int) : Fn Tryz.prog 88 [aggD x.cs, .i n] (.b (kindB x n)) := by
  refine Fn_of tt_ok Tryz.func88 rfl (by decide) Tryz.ntmps88 rfl ?_
  repeat' ((conv => whnf); (first
   | (refine Br_beq (fun h => ?_) (fun h => ?_))
   | (refine Br_dec (fun h => ?_) (fun h => ?_))
   | (refine Br_not ?_)
   | (refine fin0 rfl ?_)))
  all_goals simp only [AV.d.injEq, D.bool.injEq, kindB]
  all_goals grind
def kidsB (t : Tree) (n : Int) : Bool := (nd t n).kids.all (belowB t n) && !(decide ((nd t n).kind = 2) && !decide ((nd t n).kids = [])) && parB t (nd t n) n
theorem ref_kids (t : Tree) (n : Int) (hn : isN t n = true) : Fn Tryz.prog 90 [.d (treeD t), .i n] (.b (kidsB t n)) := by
  refine Fn_of tt_ok Tryz.func90 rfl (by decide) Tryz.ntmps90 rfl ?_
  refine Idx_nd hn rfl ?_
  refine W_loop (fun μ s => ∃ (k : Nat), k ≤ (nd t n).kids.length ∧ μ = (nd t n).kids.length - k ∧ (∀ j (h : j < (nd t n).kids.length), j < k → belowB t n (nd t n).kids[j] = true) ∧ s = ⟨[(0, .d (treeD t)), (1, .i n), (5, .ptr 0 0), (6, .i k)], 85, [some (.row ((nd t n).cs.map .d))], 0, []⟩) ((nd t n).kids.length) ⟨_, ?_, 0, by simp, by simp, ?_, rfl⟩ ?_
  · exact Wk_env (by repeat (first | exact trivial | refine ⟨rfl, ?_⟩))
  · intro j h hj; omega
  rintro μ s1 ⟨k, hk, rfl, hinv, rfl⟩
  refine W_run tt_ok ?_
  refine Len_in (fun hlen => ?_)
  simp only [List.length_map] at hlen
  have hz : (nd t n).kids = [] ↔ (nd t n).kids.length = 0 := by simp
  refine Br_dec (fun h => ?_) (fun h => ?_)
  · simp at h
    have hi : (List.map intCs (nd t n).kids)[(k : Int).toNat]? = some (intCs (nd t n).kids[k]) := by simp [h]
    refine Idx_in _ hi (by omega) rfl ?_
    have hb : belowB t n (nd t n).kids[k] = false → kidsB t n = false := by
      intro hb
      unfold kidsB
      rw [Bool.and_eq_false_iff]; left
      rw [Bool.and_eq_false_iff]; left
      rw [List.all_eq_false]
      exact ⟨_, List.getElem_mem h, by simp [hb]⟩
    have hx : belowB t n (nd t n).kids[k] = true → ∀ j (h : j < (nd t n).kids.length), j < k + 1 → belowB t n (nd t n).kids[j] = true := by
      intro hb j hj hjk
      rcases Nat.lt_succ_iff_lt_or_eq.1 hjk with h1 | h1
      · exact hinv j hj h1
      · subst h1; exact hb
    generalize (nd t n).kids[k] = q at hb hx
    repeat' ((conv => whnf); (first
     | (refine Br_bne (fun h => ?_) (fun h => ?_))
     | (refine Br_not ?_)
     | (refine Fn.use (ref_Is _ _) rfl rfl ?_)
     | (refine Fn.use (ref_count _ _) rfl rfl ?_)
     | (refine Idx_nd (by assumption) rfl ?_)
     | (refine Back_in _ _ ⟨k + 1, by omega, rfl, ?_, rfl⟩ (by omega) (Wk_env (by repeat (first | exact trivial | refine ⟨rfl, ?_⟩))))
     | (refine Br_split (fun h => ?_) (fun h => ?_))
     | (refine fin0 rfl ?_)
     | (refine ArK_in (wrap_i64 (by omega) (by omega)) ?_)))
    all_goals first
      | (refine hx ?_; unfold belowB onceB; simp only [Bool.and_eq_true, Bool.or_eq_true, decide_eq_true_eq, beq_iff_eq]; grind)
      | (rw [hb]; unfold belowB onceB; rw [Bool.eq_false_iff]; simp only [ne_eq, Bool.and_eq_true, Bool.or_eq_true, decide_eq_true_eq, beq_iff_eq]; grind)
  · simp at h
    have ha : (nd t n).kids.all (belowB t n) = true := by
      rw [List.all_eq_true]
      intro y hy
      obtain ⟨j, hj, rfl⟩ := List.getElem_of_mem hy
      exact hinv j hj (by omega)
    repeat' ((conv => whnf); (first
     | (refine Br_beq (fun h => ?_) (fun h => ?_))
     | (refine Br_dec (fun h => ?_) (fun h => ?_))
     | (refine Len_in (fun hlen => ?_))
     | (refine Fn.use (ref_Is _ _) rfl rfl ?_)
     | (refine Fn.use (ref_count _ _) rfl rfl ?_)
     | (refine Idx_nd (by assumption) rfl ?_)
     | (refine Br_split (fun h => ?_) (fun h => ?_))
     | (refine fin0 rfl ?_)))
    all_goals simp only [AV.d.injEq, D.bool.injEq, kidsB, ha, parB, onceB, List.length_map, hz] at *
    all_goals grind
theorem ref_shadow (t : Tree) (n : Int) (hn : isN t n = true) : Fn Tryz.prog 91 [.d (treeD t), .i n] (.b (shadowB t n)) := by
  refine Fn_of tt_ok Tryz.func91 rfl (by decide) Tryz.ntmps91 rfl ?_
  repeat' ((conv => whnf); (first
   | (refine Br_beq (fun h => ?_) (fun h => ?_))
   | (refine Br_bne (fun h => ?_) (fun h => ?_))
   | (refine Fn.use (ref_Is _ _) rfl rfl ?_)
   | (refine Idx_nd hn rfl ?_)
   | (refine Idx_nd (by assumption) rfl ?_)
   | (refine Br_split (fun h => ?_) (fun h => ?_))
   | (refine fin0 rfl ?_)))
  all_goals (simp only [shadowB, AV.d.injEq, D.bool.injEq]; simp_all <;> (rw [Bool.eq_iff_iff]; simp_all))
theorem ref_Up (t : Tree) (n : Int) (hn : isN t n = true) : Fn Tryz.prog 158 [.d (treeD t), .i n] (.i (upN (nd t n))) := by
  refine Fn_of tt_ok Tryz.func158 rfl (by decide) Tryz.ntmps158 rfl ?_
  repeat' ((conv => whnf); (first
   | (refine Br_beq (fun h => ?_) (fun h => ?_))
   | (refine Idx_nd hn rfl ?_)
   | (refine fin0 rfl ?_)))
  all_goals simp [upN, *]
end Go.Eng
set_option maxRecDepth 100000
set_option linter.unusedVariables false
namespace Go.Eng
open Go Go.Proofs
theorem endsF_step (t : Tree) (f : Nat) (c : Int) : endsF t (f + 1) c = (decide (c = -1) || endsF t f (upN (nd t c))) := rfl
theorem ref_ends (t : Tree) (n : Int) (hu : Ups t) (hn : okN t n) : Fn Tryz.prog 92 [.d (treeD t), .i n] (.b (endsB t n)) := by
  refine Fn_of tt_ok Tryz.func92 rfl (by decide) Tryz.ntmps92 rfl ?_
  refine W_loop (fun μ s => ∃ (k : Nat) (c : Int), k ≤ t.length + 1 ∧ μ = t.length + 1 - k ∧ okN t c ∧ endsB t n = endsF t (t.length + 1 - k) c ∧ s = ⟨[(0, .d (treeD t)), (1, .i c), (5, .i k)], 17, [], 0, []⟩) (t.length + 1) ⟨_, ?_, 0, n, by simp, by simp, hn, by unfold endsB; rfl, rfl⟩ ?_
  · exact Wk_env (by repeat (first | exact trivial | refine ⟨rfl, ?_⟩))
  rintro μ s1 ⟨k, c, hk, rfl, hc, he, rfl⟩
  refine W_run tt_ok ?_
  refine Len_in (fun hlen => ?_)
  simp only [List.length_map] at hlen
  refine Br_dec (fun h => ?_) (fun h => ?_)
  · simp at h
    rw [show t.length + 1 - k = (t.length + 1 - (k + 1)) + 1 by omega, endsF_step] at he
    refine Br_beq (fun h1 => ?_) (fun h1 => ?_)
    · repeat' ((conv => whnf); (first
     | (refine fin0 rfl ?_)))
      rw [he, decide_eq_true h1]; rfl
    · have hc' : isN t c = true := hc.resolve_left h1
      obtain ⟨hu1, hu2⟩ := hu c hc'
      rw [hu2] at hu1
      rw [decide_eq_false h1, Bool.false_or] at he
      repeat' ((conv => whnf); (first
       | (refine Fn.use (ref_Up t c hc') rfl rfl ?_)
       | (refine Back_in _ _ ⟨k + 1, _, by omega, rfl, hu1, he, rfl⟩ (by omega) (Wk_env (by repeat (first | exact trivial | refine ⟨rfl, ?_⟩))))
       | (refine ArK_in (wrap_i64 (by omega) (by omega)) ?_)))
  · simp at h
    rw [show t.length + 1 - k = 0 by omega] at he
    repeat' ((conv => whnf); (first
     | (refine fin0 rfl ?_)))
    rw [he]; rfl
theorem nodeB_ref (t : Tree) (n : Int) : nodeB t n = (kindB (nd t n) n && attrsB (nd t n) && kidsB t n && shadowB t n) := by
  unfold nodeB kidsB
  grind
theorem ref_May (t : Tree) : Fn Tryz.prog 64 [.d (treeD t)] (.b (mayB t)) := by
  refine Fn_of tt_ok Tryz.func64 rfl (by decide) Tryz.ntmps64 rfl ?_
  refine Len_in (fun hlen => ?_)
  simp only [List.length_map] at hlen
  have hout : ¬ (1 ≤ t.length ∧ t.length ≤ 64) → mayB t = false := fun h => by unfold mayB; simp; intro h1 h2; omega
  have hbad : ∀ k : Nat, k < t.length → nodeB t k = false → mayB t = false := fun k h hq => by
    unfold mayB
    rw [Bool.and_eq_false_iff]; left
    rw [Bool.and_eq_false_iff]; right
    rw [List.all_eq_false]
    exact ⟨k, by simpa using h, by simp [hq]⟩
  have hend : ∀ k : Nat, k < t.length → endsB t k = false → mayB t = false := fun k h hq => by
    unfold mayB
    rw [Bool.and_eq_false_iff]; right
    rw [List.all_eq_false]
    exact ⟨k, by simpa using h, by simp [hq]⟩
  have hin : ∀ Q : Prop, (¬ (1 ≤ t.length ∧ t.length ≤ 64) → Q) → (1 ≤ t.length ∧ t.length ≤ 64 → Q) → Q := fun Q a b => (Classical.em _).elim b a
  refine hin _ (fun hx => ?_) (fun hok => ?_)
  · have e : (List.map Node.cs t).length = t.length := by simp
    repeat' ((conv => whnf); (first
     | (refine Br_true (decide_eq_true (by omega)) ?_)
     | (refine Br_dec (fun h => ?_) (fun h => ?_))
     | (refine Len_in (fun hlen => ?_))
     | (refine fin0 rfl ?_)))
    all_goals rw [hout hx]
  refine Br_false (decide_eq_false (by simp; omega)) ?_
  refine Len_in (fun _ => ?_)
  refine Br_false (decide_eq_false (by simp; omega)) ?_
  refine W_loop (fun μ s => ∃ (k : Nat), k ≤ t.length ∧ μ = t.length - k ∧ (∀ j : Nat, j < k → nodeB t j = true) ∧ s = ⟨[(0, .d (treeD t)), (3, .i k)], 56, [], 0, []⟩) (t.length) ⟨_, ?_, 0, by simp, by simp, ?_, rfl⟩ ?_
  · exact Wk_env (by repeat (first | exact trivial | refine ⟨rfl, ?_⟩))
  · intro j hj; omega
  rintro μ s1 ⟨k, hk, rfl, hinv, rfl⟩
  refine W_run tt_ok ?_
  refine Len_in (fun _ => ?_)
  refine Br_dec (fun h => ?_) (fun h => ?_)
  · simp at h
    have hk := isN_nat h
    have hb := hbad k h
    rw [nodeB_ref] at hb
    repeat' ((conv => whnf); (first
     | (refine Br_not ?_)
     | (refine Fn.use (ref_kind _ _) rfl rfl ?_)
     | (refine Fn.use (ref_attrs _) rfl rfl ?_)
     | (refine Fn.use (ref_kids _ _ hk) rfl rfl ?_)
     | (refine Fn.use (ref_shadow _ _ hk) rfl rfl ?_)
     | (refine Idx_nd hk rfl ?_)
     | (refine Back_in _ _ ⟨k + 1, by omega, rfl, ?_, rfl⟩ (by omega) (Wk_env (by repeat (first | exact trivial | refine ⟨rfl, ?_⟩))))
     | (refine Br_split (fun h => ?_) (fun h => ?_))
     | (refine fin0 rfl ?_)
     | (refine ArK_in (wrap_i64 (by omega) (by omega)) ?_)))
    all_goals first
      | (intro j hj
         rcases Nat.lt_succ_iff_lt_or_eq.1 hj with h1 | h1
         · exact hinv j h1
         · subst h1; rw [nodeB_ref]; simp only [*]; rfl)
      | (rw [hb]; simp only [*]; simp)
  · simp at h
    have hk' : k = t.length := by omega
    subst hk'
    have hu := ups_of t hinv
    refine W_loop (fun μ s => ∃ (k : Nat), k ≤ t.length ∧ μ = t.length - k ∧ (∀ j : Nat, j < k → endsB t j = true) ∧ s = ⟨[(0, .d (treeD t)), (4, .i k)], 56, [], 0, []⟩) t.length ⟨_, ?_, 0, by simp, by simp, by simp, rfl⟩ ?_
    · exact Wk_env (by repeat (first | exact trivial | refine ⟨rfl, ?_⟩))
    rintro μ s1 ⟨k, hk, rfl, hen, rfl⟩
    refine W_run tt_ok ?_
    refine Len_in (fun _ => ?_)
    refine Br_dec (fun h => ?_) (fun h => ?_)
    · simp at h
      have hlt := h
      repeat' ((conv => whnf); (first
       | (refine Br_not ?_)
       | (refine Fn.use (ref_ends _ _ hu (.inr (isN_nat hlt))) rfl rfl ?_)
       | (refine Back_in _ _ ⟨k + 1, by omega, rfl, ?_, rfl⟩ (by omega) (Wk_env (by repeat (first | exact trivial | refine ⟨rfl, ?_⟩))))
       | (refine Br_split (fun h => ?_) (fun h => ?_))
       | (refine fin0 rfl ?_)
       | (refine ArK_in (wrap_i64 (by omega) (by omega)) ?_)))
      · intro j hj
        rcases Nat.lt_succ_iff_lt_or_eq.1 hj with h1 | h1
        · exact hen j h1
        · subst h1; assumption
      · rw [hend k hlt (by assumption)]
    · simp at h
      repeat' ((conv => whnf); (first
       | (refine fin0 rfl ?_)))
      unfold mayB
      simp only [AV.d.injEq, D.bool.injEq]
      symm
      simp only [Bool.and_eq_true, List.all_eq_true, List.mem_range, decide_eq_true_eq]
      exact ⟨⟨hok, hinv⟩, fun j hj => hen j (by omega)⟩
end Go.Eng
