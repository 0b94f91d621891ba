/- What the seat's proofs lean on, part 10: the executor over abstract values, its soundness, and what the program's functions answer (RunR, Lv22, SeatZ, Lw22). -/
import Derived.Test.YtekooegnkifokaaGreatEng09
import Derived.Test.YtekooegnkifokaaGreatEng00
import Derived.Test.YtekooegnkifokaaGreatChecked
import Derived.Test.YtekooegnkifokaaGreatRows
import Derived.ProofKit
import Derived.JoinedOf
import Derived.Test.YtekooegnkifokaaGreatEng08
set_option linter.all false
set_option linter.unusedVariables false
set_option linter.unusedSimpArgs false
set_option maxRecDepth 100000
set_option linter.unusedVariables false
set_option linter.unusedSimpArgs false
namespace Go.Eng
open Go Go.Proofs
theorem run_Run_no (cap fuel depth : Int) (h : okC cap fuel depth = false) : Fn Tryz.prog 40 [aggD (cfgD cap fuel depth), .nsl] (.tup [.agg [.nsl, .nsl], .i 1]) := by
  refine Fn_of tt_ok Tryz.func40 rfl (by decide) Tryz.ntmps40 rfl ?_
  have hN := page_New_no cap fuel depth h
  repeat' ((conv => whnf); (first
   | (refine Fn.use (hN) rfl rfl ?_)
   | (refine fin0 rfl ?_)))
  all_goals rfl
def oH (cap fuel depth : Int) (v : AV) : Heap := [some (.row [.i cap, .i fuel, .i depth]), some (.row [.nsl, .nsl]), none, none, none, some (.row [.nsl, .nsl]), none, none, none, some (.row [v]), some .dfr]
theorem outA_args (xs : List OutR) : ∀ (k : Nat) (x : AV), (xs.map outA)[k]? = some x → (argsY x).length = [7].length ∧ ∀ y ∈ argsY x, dat y = true := by
  intro k x hx
  rw [List.getElem?_map] at hx
  cases h : xs[k]? with
  | none => rw [h] at hx; simp at hx
  | some o =>
    rw [h] at hx
    simp at hx
    subst hx
    refine ⟨rfl, fun y hy => ?_⟩
    have : y = outA o := by
      have e : argsY (outA o) = [outA o] := rfl
      rw [e] at hy
      simpa using hy
    subst this
    rfl
theorem patch_out (cap fuel depth : Int) (s' : PS) (l : List OpR) (v : AV) (b : Option Blk) :
    patch [2, 3, 4, 6, 7, 8] (oH cap fuel depth v ++ [b]) (outW s' l none) = [some (.row [.i cap, .i fuel, .i depth]), some (.row [.nsl, .nsl]), some (.row (pgC s' 13 4)), none, some (.mp [] []), some (.row [.nsl, .nsl]),
      some (.row [.ptr 2 0]), some (.row [.d (opsD l)]), some (.row [.clos (.func 95) [] [.ptr 6 0]]), some (.row [v]), some .dfr, b, none, AccB (rowsP s')] := by
  have e1 : renB (hmap [2, 3, 4, 6, 7, 8] 12) (.row (pgC s' 7 2)) = .row (pgC s' 13 4) := by
    show Blk.row (renL _ _) = _
    rw [ren_pgC (k := 13) (c := 4) rfl rfl]
  have e2 : renH (hmap [2, 3, 4, 6, 7, 8] 12) [none, AccB (rowsP s')] = [none, AccB (rowsP s')] := by
    by_cases h : rowsP s' = []
    · rw [h, AccB_nil]; rfl
    · rw [AccB_cons h]; simp only [renH, renB_row]
  have e3 : patch [2, 3, 4, 6, 7, 8] (oH cap fuel depth v ++ [b]) (outW s' l none) = [some (.row [.i cap, .i fuel, .i depth]), some (.row [.nsl, .nsl]), some (renB (hmap [2, 3, 4, 6, 7, 8] 12) (.row (pgC s' 7 2))), none, some (.mp [] []), some (.row [.nsl, .nsl]),
      some (.row [.ptr 2 0]), some (.row [.d (opsD l)]), some (.row [.clos (.func 95) [] [.ptr 6 0]]), some (.row [v]), some .dfr, b] ++ renH (hmap [2, 3, 4, 6, 7, 8] 12) [none, AccB (rowsP s')] := rfl
  rw [e3, e1, e2]
  rfl
theorem run_Run (n : Nat) (cap fuel depth : Int) (hc : okC cap fuel depth = true) (l : List OpR) (s' : PS) (xs : List OutR) (hg : outsG n (ps0 cap fuel depth) l = some (s', xs)) (hne : xs ≠ []) (hl : l.length ≤ 1000) (hlx : xs.length ≤ 1000) (hrw : s'.rows.length ≤ 90000) :
    Fn Tryz.prog 40 [aggD (cfgD cap fuel depth), .d (opsD l)] (.tup [.agg [.d (.sl (xs.map OutR.cs)), .d (.sl (rowsP s'))], .i 0]) := by
  refine Fn_of tt_ok Tryz.func40 rfl (by decide) Tryz.ntmps40 rfl ?_
  have hN := page_New cap fuel depth hc
  have hA0 : AccB (rowsP (ps0 cap fuel depth)) = none := by show AccB [] = none; exact AccB_nil
  generalize ps0 cap fuel depth = s0 at *
  have hkl : (l.map OpR.cs).length = l.length := by simp
  have hR := page_Rows s' hrw
  repeat' ((conv => whnf); (first
   | (refine Br_false (decide_eq_false (by omega)) ?_)
   | (refine Len_in (fun hlen => ?_))
   | (refine Tri.call hN [] rfl rfl trivial rfl rfl rfl (noY_pgI s0) (r := .tup [.ptr 2 0, .i 0]) (H' := [some (.row [.i cap, .i fuel, .i depth]), some (.row [.nsl, .nsl]), some (.row (pgC s0 3 4)), none, some (.mp [] [])]) rfl (by rw [patch_nil, renH_pgI, hA0]; rfl) ?_)
   | (refine Tri_of tt_ok Tryz.func68 rfl (by decide) Tryz.ntmps68 rfl rfl ?_)
   | (refine Tri_of tt_ok Tryz.func67 rfl (by decide) Tryz.ntmps67 rfl rfl ?_)
   | (refine Tri_of tt_ok Tryz.func94 rfl (by decide) Tryz.ntmps94 rfl rfl ?_)
   | (refine finQ ?_)))
  conv => whnf
  refine W_rangeG [2, 3, 4, 6, 7, 8] (fs0 := []) (cs0 := [.ptr 4 0, .ptr 5 0]) (H0 := outH s0 l) (ps := [7]) (xs.map outA)
    (fun k H => (k = 0 ∧ H = oH cap fuel depth .nsl) ∨ (0 < k ∧ H = oH cap fuel depth (AccV 11 4 ((xs.take k).map OutR.cs)) ++ [AccB ((xs.take k).map OutR.cs)])) (fun _ _ => False) rfl rfl rfl
    ⟨⟨by show _ = some (some (Blk.row (renL (gOf [2, 3, 4, 6, 7, 8]) (pgC s0 1 2)))); rw [ren_pgC (k := 3) (c := 4) rfl rfl]; rfl, low_pgC (by show 1 < 6; decide) (by show 2 < 6; decide)⟩, HLe_acc (by rw [hA0]; rfl) ⟨⟨rfl, rfl⟩, ⟨rfl, rfl⟩, ⟨rfl, rfl⟩, ⟨rfl, rfl⟩, trivial⟩⟩ rfl rfl rfl rfl (by decide) rfl (outA_args xs)
    (fun b H => b = true → H = outW s' l none) (fun Y hx hY => run_outs2 n l s0 s' xs hg Y hx hY) (.inl ⟨rfl, rfl⟩) ?_ ?_ ?_
  · rintro lp k z H' hx hH hln hY
    obtain ⟨x, hxk, rfl⟩ : ∃ x, xs[k]? = some x ∧ z = outA x := by
      rw [List.getElem?_map] at hx
      cases h : xs[k]? with
      | none => rw [h] at hx; simp at hx
      | some c => rw [h] at hx; simp at hx; exact ⟨c, rfl, hx.symm⟩
    have hlt : k < xs.length := (List.getElem?_eq_some_iff.1 hxk).1
    have hce : xs[k] = x := (List.getElem?_eq_some_iff.1 hxk).2
    have htk : (xs.take (k + 1)).map OutR.cs = (xs.take k).map OutR.cs ++ [x.cs] := by rw [List.take_succ_eq_append_getElem hlt, hce, List.map_append]; rfl
    have hrl : ((xs.take k).map OutR.cs).length = k := by simp; omega
    refine W_padH (H2 := oH cap fuel depth (AccV 11 4 ((xs.take k).map OutR.cs)) ++ [AccB ((xs.take k).map OutR.cs)]) ?_ ?_
    · rcases hH with ⟨rfl, rfl⟩ | ⟨_, rfl⟩
      · exact .inr (by rw [List.take_zero, List.map_nil, AccV_nil, AccB_nil])
      · exact .inl rfl
    have hr1 : ∀ r ∈ (xs.take k).map OutR.cs, r.length = 4 := cs4o
    generalize hrw : (xs.take k).map OutR.cs = rows at *
    have ha := Acc_app (b := 11) (sz := 4) (rows := rows) (new := [x.cs]) (by simp)
    have hx4 : ∀ r ∈ [x.cs], r.length = 4 := by intro r hr; simp at hr; subst hr; rfl
    have hlim : rows.length + [x.cs].length ≤ 1000000 := by simp only [List.length_cons, List.length_nil]; omega
    obtain ⟨x1, x2, x3, x4⟩ := x
    refine W_run tt_ok ?_
    skip
    refine Need_in (show noY (AccB rows :: [_]) = true from noY_accB rfl) ?_
    refine W_run tt_ok ?_
    repeat' ((conv => whnf); (first
     | (refine force_in ?_)))
    refine Ch_r ?_
    conv => whnf
    refine App_acc rows [OutR.cs ⟨x1, x2, x3, x4⟩] rfl rfl rfl rfl (by simp) hr1 hx4 hlim (Nat.le_of_ble_eq_true rfl) ?_
    skip
    conv => whnf
    refine Rd_next (oH cap fuel depth (.msl 11 0 (rows.length + 1) (rows.length + 1) 4) ++ [some (.row ((rows ++ [OutR.cs ⟨x1, x2, x3, x4⟩]).flatten.map .d))]) (Wk_ren [0, 1, 2, 3, 4, 5, 6, 7, 8, 9, 10, 13] rfl rfl (by refine ⟨⟨rfl, rfl⟩, ⟨rfl, rfl⟩, ⟨rfl, rfl⟩, ⟨rfl, rfl⟩, ⟨rfl, rfl⟩, ⟨by rw [renB_row]; rfl, lowB_row _ _⟩, trivial⟩) (by repeat (first | exact trivial | refine ⟨⟨rfl, rfl⟩, ?_⟩)) (by show 11 ≤ 12; decide) (by show ∀ i, i < 11 → gOf [0, 1, 2, 3, 4, 5, 6, 7, 8, 9, 10, 13] i = i; decide)) rfl (by simp [oH]) (.inr ⟨by omega, ?_⟩)
    rw [htk, ha.1, ha.2]
    rfl
  · rintro H' H1 hJ hS hln hY
    have hS := hS rfl
    subst hS
    rw [List.length_map] at hJ
    have hpos : 0 < xs.length := List.length_pos_iff.2 hne
    rcases hJ with ⟨h0, _⟩ | ⟨_, rfl⟩
    · omega
    rw [List.take_length]
    have hnn : xs.map OutR.cs ≠ [] := by simpa using hne
    rw [AccV_cons hnn, AccB_cons hnn]
    rw [patch_out]
    repeat' ((conv => whnf); (first
     | (refine finD (F := [11]) (FV_tups ⟨FV_aggs ⟨FV_tab _ rfl rfl rfl cs4o, .same _ rfl, trivial⟩, .same _ rfl, trivial⟩))
     | (refine Tri.pgS 2 13 4 hR rfl rfl rfl rfl (by decide) (by decide) (by decide) rfl rfl rfl ?_)
     | (refine finQ ?_)))
  · intro e H' H1 c _ h
    exact h.elim
end Go.Eng
set_option maxRecDepth 100000
set_option linter.unusedVariables false
set_option linter.unusedSimpArgs false
namespace Go.Eng
open Go Go.Proofs
def opsL : List OpR := [⟨0, 1, 1, 0, false, []⟩, ⟨2, 0, 1, -1, false, []⟩, ⟨10, 1, 0, 0, false, []⟩, ⟨99, 0, 0, 0, false, []⟩]
def wAll : PS × List OutR := match outsG 4 (ps0 9 5 1) opsL with
  | some q => q
  | none => (ps0 0 0 0, [])
theorem w_eq : outsG 4 (ps0 9 5 1) opsL = some (wAll.1, wAll.2) := by kernel_rfl
theorem w_len : (wAll.2.map OutR.cs).length = 4 := by kernel_rfl
theorem w_0 : (wAll.2.map OutR.cs)[0]? = some [.int .i64 1, .int .i64 0, .int .i64 0, .sl [[.int .i64 0, .int .i64 0]]] := by kernel_rfl
theorem w_2 : (wAll.2.map OutR.cs)[2]? = some [.int .i64 0, .int .i64 0, .int .i64 1, .sl [[.int .i64 0, .int .i64 1]]] := by kernel_rfl
theorem w_3 : (wAll.2.map OutR.cs)[3]? = some [.int .i64 0, .int .i64 12, .int .i64 1, .sl [[.int .i64 0, .int .i64 1]]] := by kernel_rfl
theorem w_rows : wAll.1.rows.length = 4 := by kernel_rfl
theorem w_c3 : cntR 3 wAll.1.rows = 4 := by kernel_rfl
theorem w_c1 : cntR 1 wAll.1.rows = 0 := by kernel_rfl
theorem W_cut {P : Program} {ro : Option Nat} {c d : Code} {Q : AEx → St → Prop} {s : St} (S1 : St) (h1 : W P ro c (fun e s' => e = .normal ∧ Wk s' S1) s) (h2 : W P ro d Q S1) : W P ro (.seq c d) Q s :=
  W_seq (W_mono h1 fun e s' ⟨he, hk⟩ => by subst he; exact W_wk hk h2)
theorem Fn_ofW {P : Program} {tt : TT} (hT : TTok P tt) {f : FuncId} {fn : Func} {c : Code} (hf : P.funcs[f]? = some fn) (hb : fn.body = some c) (hnm : (fn.name == "runtime.NumGoroutine") = false) {n : Nat} (hn : fn.ntmps = n)
    {args : List AV} {r : AV} (hargs : Nat.ble args.length n = true) (h : W P none c (RetQ P tt fn 0 fun v H => v = r ∧ H = []) ⟨argEnv args 0, n, [], 0, []⟩) : Fn P f args r := by
  subst hn
  exact Tri_of_awp hT hf hb hnm hargs h
theorem live22_of {X L : List (List D)} {a0 a1 a2 a3 a4 b15 c3 c1 : Int} (ha0 : a0 = 0) (ha1 : a1 = 1) (ha2 : a2 = 1) (ha3 : a3 = 1) (ha4 : a4 = 12) (hb15 : b15 = 15) (hc3 : c3 = (4 : Nat)) (hc1 : c1 = (0 : Nat))
    (hR : Fn Tryz.prog 40 [aggD (cfgD 9 5 1), .d (.sl [[.int .i64 0, .int .i64 1, .int .i64 1, .int .i64 0, .bool false, .sl []], [.int .i64 2, .int .i64 0, .int .i64 1, .int .i64 (-1), .bool false, .sl []], [.int .i64 10, .int .i64 1, .int .i64 0, .int .i64 0, .bool false, .sl []], [.int .i64 99, .int .i64 0, .int .i64 0, .int .i64 0, .bool false, .sl []]])] (.tup [.agg [.d (.sl X), .d (.sl L)], .i 0]))
    (hN : Fn Tryz.prog 40 [aggD (cfgD 0 0 0), .nsl] (.tup [.agg [.nsl, .nsl], .i 1]))
    (hB : Fn Tryz.prog 42 [aggD (cfgD 9 5 1), .i 3] (.tup [.i b15, .i 0]))
    (h3 : Fn Tryz.prog 44 [.d (.sl L), .i 3] (.i c3)) (h1 : Fn Tryz.prog 44 [.d (.sl L), .i 1] (.i c1))
    (q0 : X[0]? = some [.int .i64 a1, .int .i64 0, .int .i64 0, .sl [[.int .i64 0, .int .i64 0]]])
    (q2 : X[2]? = some [.int .i64 0, .int .i64 0, .int .i64 a2, .sl [[.int .i64 a0, .int .i64 a3]]])
    (q3 : X[3]? = some [.int .i64 0, .int .i64 a4, .int .i64 1, .sl [[.int .i64 0, .int .i64 1]]])
    (ql : X.length = 4) (qr : L.length = 4) : Fn Tryz.prog 34 [] (.b true) := by
  refine Fn_ofW tt_ok Tryz.func34 rfl (by decide) Tryz.ntmps34 rfl ?_
  refine W_cut ⟨[], 109, [], 0, []⟩ ?_ ?_
  · refine W_run tt_ok ?_
    repeat' ((conv => whnf); (first
     | (refine And.intro rfl (Wk_env (by repeat (first | exact trivial | refine ⟨rfl, ?_⟩))))))
  refine W_cut ⟨[(1, .ptr 0 0)], 109, [some (.row [.i 9, .i 5, .i 1])], 0, []⟩ ?_ ?_
  · refine W_run tt_ok ?_
    repeat' ((conv => whnf); (first
     | (refine And.intro rfl (Wk_H [some (.row [.i 9, .i 5, .i 1])] (by kernel_rfl) (Wk_env (by repeat (first | exact trivial | refine ⟨rfl, ?_⟩)))))))
  refine W_cut ⟨[(1, .ptr 0 0), (2, .ptr 1 0), (3, .i 0)], 109, [some (.row [.i 9, .i 5, .i 1]), some (.row [.d (.sl X), .d (.sl L)])], 0, []⟩ ?_ ?_
  · refine W_run tt_ok ?_
    repeat' ((conv => whnf); (first
     | (refine And.intro rfl (Wk_H [some (.row [.i 9, .i 5, .i 1]), some (.row [.d (.sl X), .d (.sl L)])] (by kernel_rfl) (Wk_env (by repeat (first | exact trivial | refine ⟨rfl, ?_⟩)))))
     | (refine Ch_r ?_)
     | (refine Fn.use (hR) rfl rfl ?_)))
  refine W_cut ⟨[(1, .ptr 0 0), (2, .ptr 1 0), (3, .i 0), (5, .i 1)], 109, [some (.row [.i 9, .i 5, .i 1]), some (.row [.d (.sl X), .d (.sl L)]), some (.row [.nsl, .nsl])], 0, []⟩ ?_ ?_
  · refine W_run tt_ok ?_
    repeat' ((conv => whnf); (first
     | (refine And.intro rfl (Wk_H [some (.row [.i 9, .i 5, .i 1]), some (.row [.d (.sl X), .d (.sl L)]), some (.row [.nsl, .nsl])] (by kernel_rfl) (Wk_env (by repeat (first | exact trivial | refine ⟨rfl, ?_⟩)))))
     | (refine Fn.use (hN) rfl rfl ?_)))
  refine W_cut ⟨[(2, .ptr 1 0), (3, .i 0), (5, .i 1), (6, .i b15), (7, .i 0)], 109, [some (.row [.i 9, .i 5, .i 1]), some (.row [.d (.sl X), .d (.sl L)]), some (.row [.nsl, .nsl])], 0, []⟩ ?_ ?_
  · refine W_run tt_ok ?_
    repeat' ((conv => whnf); (first
     | (refine And.intro rfl (Wk_env (by repeat (first | exact trivial | refine ⟨rfl, ?_⟩))))
     | (refine Fn.use (hB) rfl rfl ?_)))
  clear hR hN hB
  refine W_cut ⟨[(2, .ptr 1 0), (3, .i 0), (5, .i 1), (6, .i b15), (7, .i 0)], 109, [some (.row [.i 9, .i 5, .i 1]), some (.row [.d (.sl X), .d (.sl L)]), some (.row [.nsl, .nsl])], 0, []⟩ ?_ ?_
  · refine W_run tt_ok ?_
    repeat' ((conv => whnf); (first
     | (refine And.intro rfl (Wk_env (by repeat (first | exact trivial | refine ⟨rfl, ?_⟩))))
     | (refine Br_false (bneF (by omega)) ?_)
     | (refine Len_in (fun hlen => ?_))
     | (refine Idx_in _ q2 (by omega) rfl ?_)))
  refine W_cut ⟨[(0, .b true)], 109, [], 0, []⟩ ?_ ?_
  · dsimp only [List.append]
    refine W_run tt_ok ?_
    have q4 : [[D.int .i64 a0, D.int .i64 a3]][(0 : Int).toNat]? = some [.int .i64 a0, .int .i64 a3] := rfl
    repeat' ((conv => whnf); (first
     | (refine And.intro rfl (Wk_ren [] rfl rfl trivial (by repeat (first | exact trivial | refine ⟨⟨rfl, rfl⟩, ?_⟩)) (by omega) (by omega)))
     | (refine Br_true (by subst_vars; rfl) ?_)
     | (refine Br_true (beqT (by omega)) ?_)
     | (refine Len_in (fun hlen => ?_))
     | (refine Fn.use (h3) rfl rfl ?_)
     | (refine Fn.use (h1) rfl rfl ?_)
     | (refine Idx_in _ q0 (by omega) rfl ?_)
     | (refine Idx_in _ q2 (by omega) rfl ?_)
     | (refine Idx_in _ q3 (by omega) rfl ?_)
     | (refine Idx_in _ q4 (by omega) rfl ?_)))
  refine W_run tt_ok ?_
  repeat' ((conv => whnf); (first
   | (refine fin0 rfl ?_)))
  rfl
theorem law22_live : Fn Tryz.prog 34 [] (.b true) := by
  have hlen : wAll.2.length = 4 := by have := w_len; rwa [List.length_map] at this
  have hR := run_Run 4 9 5 1 rfl opsL wAll.1 wAll.2 w_eq (by intro h; rw [h] at hlen; simp at hlen) (by decide) (by omega) (by rw [w_rows]; decide)
  have h3 := run_Count wAll.1.rows 3
  have h1 := run_Count wAll.1.rows 1
  rw [w_c3] at h3
  rw [w_c1] at h1
  exact live22_of rfl rfl rfl rfl rfl rfl rfl rfl hR (run_Run_no 0 0 0 rfl) (run_Bound 9 5 1 3 rfl (by omega) (by omega)) h3 h1 w_0 w_2 w_3 w_len (by rw [List.length_map, w_rows])
end Go.Eng
namespace Go.Proofs.YtekooegnkifokaaGreat
open Go Go.ChangeShapes Go.WideShapes Go.ChangeAt Go.RowKit
theorem z_own : ownKnob Tryz.prog.godebug = none := by kernel_rfl
theorem z_laidOut : laidOutB Tryz.prog = true := by kernel_rfl
theorem z_maps : mapsRowed Tryz.prog = true := by kernel_rfl
theorem z_stops : (Tryz.prog.stops == []) = true := by kernel_rfl
theorem z_knobs : (Tryz.prog.stopKnobs == []) = true := by kernel_rfl
theorem z_plain : (Rows.pageNilRow.plainKeys == Tryz.prog.plainKeys) = true := by kernel_rfl
theorem z_heard : Tryz.prog.stopsHeard = true := by kernel_rfl
theorem z_enter : Tryz.prog.mayEnter = true := by kernel_rfl
theorem z_lifted : (Rows.pageNilRow.lifted == Tryz.prog.liftsFinal) = true := by kernel_rfl
theorem z_make : (Tryz.prog.make == some Rows.pageNilRow.make) = true := by kernel_rfl
end Go.Proofs.YtekooegnkifokaaGreat
set_option maxRecDepth 100000
set_option linter.unusedVariables false
set_option linter.unusedSimpArgs false
namespace Go.Eng
open Go Go.Proofs
theorem law22_RunActives (hL : Fn Tryz.prog 34 [] (.b true)) (t : Tree) (f : Int) : Fn Tryz.prog 9 [.d (treeD t), .i f] (.b true) := by
  have hF := ref_Few t
  cases hf : fewB t
  · rw [hf] at hF
    refine Fn_of tt_ok Tryz.func9 rfl (by decide) Tryz.ntmps9 rfl ?_
    repeat' ((conv => whnf); (first
     | (refine Fn.use (hF) rfl rfl ?_)
     | (refine Fn.use (hL) rfl rfl ?_)
     | (refine fin0 rfl ?_)))
    rfl
  · rw [hf] at hF
    have h1 := run_Actives t f
    have h3 := ref22_Actives t f
    have hlen : (actsR t f).length ≤ 1000 := by
      have := rootsF_len t t.length
      unfold fewB at hf
      simp only [Bool.and_eq_true, decide_eq_true_eq] at hf
      unfold actsR rootsR
      split
      · rw [List.length_map]; omega
      · simp
    have h2 := law22_actives (actsR t f) hlen
    have h4 := ref22_One 0 0 0 (actsR t f)
    generalize actsR t f = l at *
    refine Fn_of tt_ok Tryz.func9 rfl (by decide) Tryz.ntmps9 rfl ?_
    repeat' ((conv => whnf); (first
     | (refine Fn.use (hF) rfl rfl ?_)
     | (refine Fn.use (h1) rfl rfl ?_)
     | (refine Fn.use (h2) rfl rfl ?_)
     | (refine Fn.use (h3) rfl rfl ?_)
     | (refine Fn.use (h4) rfl rfl ?_)
     | (refine Fn.use (hL) rfl rfl ?_)
     | (refine fin0 rfl ?_)))
    rfl
theorem ref3_Both (t : Tree) (a b : Int) : Fn Tryz.prog 46 [.d (treeD t), .i a, .i b] (.b (mayB t && isN t a && isN t b)) := by
  have hM := ref_May t
  have hA := ref_Is t a
  have hB := ref_Is t b
  generalize mayB t = x at *
  generalize isN t a = y at *
  generalize isN t b = z at *
  cases x <;> cases y <;> cases z
  all_goals
    refine Fn_of tt_ok Tryz.func46 rfl (by decide) Tryz.ntmps46 rfl ?_
    repeat' ((conv => whnf); (first
     | (refine Fn.use (hM) rfl rfl ?_)
     | (refine Fn.use (hA) rfl rfl ?_)
     | (refine Fn.use (hB) rfl rfl ?_)
     | (refine fin0 rfl ?_)))
    all_goals rfl
theorem law22_RunRoots (hL : Fn Tryz.prog 34 [] (.b true)) (t : Tree) (f : Int) : Fn Tryz.prog 13 [.d (treeD t), .i f] (.b true) := by
  have hF := ref_Few t
  have hB := ref3_Both t f f
  cases hf : fewB t
  · rw [hf] at hF
    refine Fn_of tt_ok Tryz.func13 rfl (by decide) Tryz.ntmps13 rfl ?_
    repeat' ((conv => whnf); (first
     | (refine Fn.use (hF) rfl rfl ?_)
     | (refine Fn.use (hL) rfl rfl ?_)
     | (refine fin0 rfl ?_)))
    all_goals rfl
  rw [hf] at hF
  cases hb : mayB t && isN t f && isN t f
  · rw [hb] at hB
    refine Fn_of tt_ok Tryz.func13 rfl (by decide) Tryz.ntmps13 rfl ?_
    repeat' ((conv => whnf); (first
     | (refine Fn.use (hF) rfl rfl ?_)
     | (refine Fn.use (hB) rfl rfl ?_)
     | (refine Fn.use (hL) rfl rfl ?_)
     | (refine fin0 rfl ?_)))
    all_goals rfl
  rw [hb] at hB
  have ha : allOk t f = true := by unfold allOk; simp only [Bool.and_eq_true] at hb ⊢; exact ⟨hb.1.1, hb.2⟩
  have hm := allOk_m ha
  have h64 := may_len64 hm
  have h1 := run_Actives t f
  have e : (actsR t f).map actCs = (rootsR t).map fun r => actCs (r, actR t f r) := by unfold actsR; rw [if_pos ha, List.map_map]; rfl
  rw [e] at h1
  have hcnt := roots_count hm t.length (Nat.le_refl _) (by omega)
  have hfst := roots_first hm
  have hup := rootsF_up t t.length
  have hmem := fun r => rootsF_mem (t := t) (r := r) t.length
  have htl : (List.map Node.cs t).length = t.length := by simp
  have hrl : ((rootsR t).map fun r => actCs (r, actR t f r)).length = (rootsR t).length := by simp
  refine Fn_of tt_ok Tryz.func13 rfl (by decide) Tryz.ntmps13 rfl ?_
  repeat' ((conv => whnf); (first
   | (refine Fn.use (hF) rfl rfl ?_)
   | (refine Fn.use (hB) rfl rfl ?_)
   | (refine Fn.use (h1) rfl rfl ?_)))
  refine W_loop (fun μ s => ∃ (j : Nat), j ≤ t.length ∧ μ = t.length - j ∧
      s = ⟨[(0, .d (treeD t)), (1, .i f), (5, .d (.sl ((rootsR t).map fun r => actCs (r, actR t f r)))), (6, .i (shF t j)), (7, .i j)], 91, [], 0, []⟩) t.length ⟨_, ?_, 0, by omega, by omega, rfl⟩ ?_
  · exact Wk_env (by repeat (first | exact trivial | refine ⟨rfl, ?_⟩))
  rintro μ s1 ⟨j, hj, rfl, rfl⟩
  refine W_run tt_ok ?_
  by_cases hlt : j < t.length
  · have hn : isN t (j : Int) = true := by unfold isN; simp; omega
    have hsl := shF_len t j
    have hs1 : shF t (j + 1) = shF t j + (if (nd t j).kind = 3 then 1 else 0) := rfl
    generalize shF t j = c1 at *
    by_cases hk : (nd t (j : Int)).kind = 3
    all_goals
      first | rw [if_pos hk] at hs1 | rw [if_neg hk] at hs1
      repeat' ((conv => whnf); (first
       | (refine Br_true (beqT (by omega)) ?_)
       | (refine Br_false (beqF (by omega)) ?_)
       | (refine Br_true (decide_eq_true (by omega)) ?_)
       | (refine Len_in (fun hlen => ?_))
       | (refine Idx_nd hn rfl ?_)
       | (refine Back_in _ _ ⟨j + 1, by omega, rfl, rfl⟩ (by omega) ?_)
       | (refine ArK_in (wrap_i64 (by omega) (by omega)) ?_)))
      rw [hs1]
      exact Wk_env (by repeat (first | exact trivial | refine ⟨rfl, ?_⟩))
  have hjl : j = t.length := by omega
  subst hjl
  have hsl := shF_len t t.length
  have hcnt2 : (rootsR t).length = shF t t.length + 1 := hcnt
  generalize hc : shF t t.length = c at *
  generalize hRt : rootsR t = R at *
  have hi0 : (R.map fun r => actCs (r, actR t f r))[(0 : Int).toNat]? = some (actCs (0, actR t f 0)) := by
    show (R.map fun r => actCs (r, actR t f r))[0]? = _
    rw [List.getElem?_map, hfst]
    rfl
  repeat' ((conv => whnf); (first
   | (refine Br_false (bneF (by omega)) ?_)
   | (refine Br_false (decide_eq_false (by omega)) ?_)
   | (refine Len_in (fun hlen => ?_))
   | (refine Idx_in _ hi0 (by omega) rfl ?_)
   | (refine ArK_in (wrap_i64 (by omega) (by omega)) ?_)))
  refine W_loop (fun μ s => ∃ (j : Nat), j ≤ R.length ∧ μ = R.length - j ∧
      s = ⟨[(0, .d (treeD t)), (5, .d (.sl (R.map fun r => actCs (r, actR t f r)))), (8, .i j)], 91, [], 0, []⟩) R.length ⟨_, ?_, 0, by omega, by omega, rfl⟩ ?_
  · exact Wk_env (by repeat (first | exact trivial | refine ⟨rfl, ?_⟩))
  rintro μ s1 ⟨j, hj, rfl, rfl⟩
  refine W_run tt_ok ?_
  by_cases hlt : j < R.length
  · have hidx : (R.map fun r => actCs (r, actR t f r))[(j : Int).toNat]? = some (actCs (R[j], actR t f R[j])) := by simp [hlt]
    have hact := actR_top (t := t) (f := f) (r := R[j])
    have hback : ∀ i : Int, i = (j : Int) - 1 → 0 < j → ∃ q : Int, (R.map fun r => actCs (r, actR t f r))[i.toNat]? = some (actCs (q, actR t f q)) ∧ q < R[j] := by
      intro i hi h0
      have hi2 : i.toNat = j - 1 := by omega
      have hl : j - 1 < R.length := by omega
      refine ⟨R[j - 1], by rw [hi2]; simp [hl], ?_⟩
      have hp : R.Pairwise (· < ·) := by rw [← hRt]; exact hup
      exact List.pairwise_iff_getElem.1 hp (j - 1) j hl hlt (by omega)
    generalize R[j] = r at *
    by_cases h0 : j = 0
    · by_cases hp : 0 < actR t f r
      · obtain ⟨q1, q2⟩ := hact hp
        have hT := ref3_Top t _ q2
        rw [q1] at hT
        generalize actR t f r = a at *
        repeat' ((conv => whnf); (first
         | (refine Br_false (bneF (by omega)) ?_)
         | (refine Br_true (decide_eq_true (by omega)) ?_)
         | (refine Br_false (decide_eq_false (by omega)) ?_)
         | (refine Len_in (fun hlen => ?_))
         | (refine W_draw 0 tt_ok mixed (by kernel_rfl) ?_)
         | (refine Idx_in _ hidx (by omega) rfl ?_)
         | (refine CallF_in (hT) rfl rfl ?_)
         | (refine Back_in _ _ ⟨j + 1, by omega, rfl, rfl⟩ (by omega) (Wk_env (by repeat (first | exact trivial | refine ⟨rfl, ?_⟩))))
         | (refine ArK_in (wrap_i64 (by omega) (by omega)) ?_)))
      · generalize actR t f r = a at *
        repeat' ((conv => whnf); (first
         | (refine Br_true (decide_eq_true (by omega)) ?_)
         | (refine Br_false (decide_eq_false (by omega)) ?_)
         | (refine Len_in (fun hlen => ?_))
         | (refine W_draw 0 tt_ok mixed (by kernel_rfl) ?_)
         | (refine Idx_in _ hidx (by omega) rfl ?_)
         | (refine Back_in _ _ ⟨j + 1, by omega, rfl, rfl⟩ (by omega) (Wk_env (by repeat (first | exact trivial | refine ⟨rfl, ?_⟩))))
         | (refine ArK_in (wrap_i64 (by omega) (by omega)) ?_)))
    · obtain ⟨q, hq1, hq2⟩ := hback _ rfl (by omega)
      by_cases hp : 0 < actR t f r
      · obtain ⟨q1, q2⟩ := hact hp
        have hT := ref3_Top t _ q2
        rw [q1] at hT
        generalize actR t f r = a at *
        repeat' ((conv => whnf); (first
         | (refine Br_false (bneF (by omega)) ?_)
         | (refine Br_true (decide_eq_true (by omega)) ?_)
         | (refine Br_false (decide_eq_false (by omega)) ?_)
         | (refine Len_in (fun hlen => ?_))
         | (refine W_draw 0 tt_ok mixed (by kernel_rfl) ?_)
         | (refine Idx_in _ hidx (by omega) rfl ?_)
         | (refine Idx_in _ hq1 (by omega) rfl ?_)
         | (refine CallF_in (hT) rfl rfl ?_)
         | (refine Back_in _ _ ⟨j + 1, by omega, rfl, rfl⟩ (by omega) (Wk_env (by repeat (first | exact trivial | refine ⟨rfl, ?_⟩))))
         | (refine ArK_in (wrap_i64 (by omega) (by omega)) ?_)))
      · generalize actR t f r = a at *
        repeat' ((conv => whnf); (first
         | (refine Br_true (decide_eq_true (by omega)) ?_)
         | (refine Br_false (decide_eq_false (by omega)) ?_)
         | (refine Len_in (fun hlen => ?_))
         | (refine W_draw 0 tt_ok mixed (by kernel_rfl) ?_)
         | (refine Idx_in _ hidx (by omega) rfl ?_)
         | (refine Idx_in _ hq1 (by omega) rfl ?_)
         | (refine Back_in _ _ ⟨j + 1, by omega, rfl, rfl⟩ (by omega) (Wk_env (by repeat (first | exact trivial | refine ⟨rfl, ?_⟩))))
         | (refine ArK_in (wrap_i64 (by omega) (by omega)) ?_)))
  · repeat' ((conv => whnf); (first
   | (refine Br_false (decide_eq_false (by omega)) ?_)
   | (refine Len_in (fun hlen => ?_))
   | (refine Fn.use (hL) rfl rfl ?_)
   | (refine fin0 rfl ?_)))
    rfl
theorem law22_RunActives_args (hL : Fn Tryz.prog 34 [] (.b true)) (xs : List AV) (h : ArgsOk Tryz.prog [46, 3] xs) : Fn Tryz.prog 9 xs (.b true) := by
  obtain ⟨x, y, rfl, h1, h2⟩ := args_2 h
  obtain ⟨d, hd, rfl⟩ := arg_one (s := treeSh) h1 (by kernel_rfl) (fun _ => by kernel_rfl)
  obtain ⟨e, he, rfl⟩ := arg_one (s := i64) h2 (by kernel_rfl) (fun _ => by kernel_rfl)
  obtain ⟨t, rfl⟩ := has_tree hd
  obtain ⟨n, rfl⟩ := has_int he
  exact law22_RunActives hL t n
theorem law22_RunRoots_args (hL : Fn Tryz.prog 34 [] (.b true)) (xs : List AV) (h : ArgsOk Tryz.prog [46, 3] xs) : Fn Tryz.prog 13 xs (.b true) := by
  obtain ⟨x, y, rfl, h1, h2⟩ := args_2 h
  obtain ⟨d, hd, rfl⟩ := arg_one (s := treeSh) h1 (by kernel_rfl) (fun _ => by kernel_rfl)
  obtain ⟨e, he, rfl⟩ := arg_one (s := i64) h2 (by kernel_rfl) (fun _ => by kernel_rfl)
  obtain ⟨t, rfl⟩ := has_tree hd
  obtain ⟨n, rfl⟩ := has_int he
  exact law22_RunRoots hL t n
end Go.Eng
