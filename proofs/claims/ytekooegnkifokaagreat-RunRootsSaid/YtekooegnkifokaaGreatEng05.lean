/- What the seat's proofs lean on, part 5: the executor over abstract values, its soundness, and what the program's functions answer (Eng32, Eng28, Eng29, Eng33, Eng34, Eng35, Ord2, Eng36, Sp41, Ord3, Eng37, Ord4, Sp42, Sp43, Ord5, Ord6, Shd1). -/
import Derived.Test.YtekooegnkifokaaGreatEng04
import Derived.TacticsIn
import Derived.ProofKit
import Derived.OpenShut
import Derived.Carry
import Derived.OpenVars
import Derived.Lay
import Derived.LaidMore
import Derived.SevenTiedAt
import Derived.Stop.Joined
import Derived.HandedShaped
import Derived.Shelf.Vars
import Derived.MakeChecks
import Derived.Lib.LaidTab
set_option linter.all false
set_option linter.unusedVariables false
set_option linter.unusedSimpArgs false
set_option linter.unusedVariables false
set_option linter.unusedSimpArgs false
namespace Go.Eng
open Go
section
variable {P : Program}
def AsgOk (P : Program) (asg : Code) (t u : Tmp) : Prop := ∀ (l : Nat) (T : Array Value) (w : World) (K : Act → World → Prop) (Z : Exit → Act → World → Prop), K { tmps := T.setIfInBounds u (T.getD t undef), defers := [] } w →
  asg.wpIn (Fence.wide.inRound l) 0 P (Exit.then K Z) { tmps := T, defers := [] } w
theorem AsgOk_in {id : Nat} {t u : Tmp} {ty : TypeId} {pos : String} {af : Array Edge} : AsgOk P (.region id #[{ dst := some u, op := .assign (.tmp t), type := ty, pos := pos, after := af, guard := none }] false) t u := by
  intro l T w K Z h
  refine wpIn_region_lit (l := [{ dst := some u, op := .assign (.tmp t), type := ty, pos := pos, after := af, guard := none }]) (wpListIn_plain rfl fun K' hK => ?_)
  have h2 := hK _ _ (wpListIn_nil (F := Fence.wide.inRound l) (n := 0) (P := P) (ops := #[{ dst := some u, op := .assign (.tmp t), type := ty, pos := pos, after := af, guard := none }]) (Q := Exit.then K Z) h)
  refine ⟨fun f hf => by simp [Oper.about] at hf, ?_⟩
  have e : (Oper.semAt (Fence.wide.inRound l).round (Act.eval { tmps := T, defers := [] }) { dst := some u, op := .assign (.tmp t), type := ty, pos := pos, after := af, guard := none }).run P w = .ok (.value (T.getD t undef)) w := by
    rw [Oper.semAt_eq _ _ _ (by intro c; simp)]
    rfl
  rw [e]
  exact h2
theorem Rel.setT {p : PQ} {σ : List Nat} {ρ : Env} {n m : Nat} {H : Heap} {df : List DF} {T : Array Value} {ds : List Deferred} {w : World} (h : Rel p σ ⟨ρ, n, H, m, df⟩ { tmps := T, defers := ds } w) {t u : Tmp} {x : AV} (hu : u < n) (hx : get ρ t = x) :
    Rel p σ ⟨(u, x) :: ρ, n, H, m, df⟩ { tmps := T.setIfInBounds u (T.getD t undef), defers := ds } w := by
  refine ⟨by simpa using h.size, h.df, fun v => ?_, h.heap, h.m⟩
  have hs : T.size = n := h.size
  simp only [get]
  by_cases hv : u = v
  · subst hv
    rw [Nat.beq_refl]
    simp only [cond_true]
    have : (T.setIfInBounds u (T.getD t undef)).getD u undef = T.getD t undef := by simp [Array.getD_eq_getD_getElem?, hs, hu]
    rw [this, ← hx]
    exact h.env t
  · rw [beq_ne hv]
    simp only [cond_false]
    have : (T.setIfInBounds u (T.getD t undef)).getD v undef = T.getD v undef := by simp [Array.getD_eq_getD_getElem?, Array.getElem?_setIfInBounds_ne hv]
    rw [this]
    exact h.env v
def recOfA (asg : Code) (fn : FuncId) (tmps : Array Value) (ps : Array Tmp) (body : Code) (d : Nat) (st : LoopState) (pend : Option Code) : Loop :=
  { state := st, pending := pend, fn := fn, tmps := tmps, params := ps, assign := asg, body := body, defers := d }
def mkYA (asg : Code) (p0 : PQ) (ρ : Env) (tmps : Array Value) (mb : Nat) (σb : List Nat) (l : Nat) (fn : FuncId) (t : Tmp) (body : Code) (d : Nat) (xs : List AV) (J : Nat → Heap → Prop) (JZ : AEx → Heap → Prop) : Ysp where
  l := l
  xs := xs
  I k p w := ∃ pO σO H, J k H ∧ Mid p0 ρ tmps mb σb l (recOfA asg fn tmps #[t] body d .ready none) p w pO σO H
  Z p w := ∃ pO σO H e c, JZ e H ∧ isExit e c ∧ Mid p0 ρ tmps mb σb l (recOfA asg fn tmps #[t] body d .done (some c)) p w pO σO H
  stI := fun k p p' w w' ⟨pO, σO, H, h1, h2⟩ hf hr hs hsh => ⟨pO, σO, H, h1, h2.stab hf hr hs hsh⟩
  stZ := fun p p' w w' ⟨pO, σO, H, e, c, h1, h2, h3⟩ hf hr hs hsh => ⟨pO, σO, H, e, c, h1, h2, h3.stab hf hr hs hsh⟩
theorem mkYA_law {p0 : PQ} {ρ : Env} {tmps : Array Value} {mb : Nat} {σb : List Nat} {l : Nat} {fn : FuncId} {t u0 : Tmp} {asg : Code} {body : Code} {d : Nat} {xs : List AV} {J : Nat → Heap → Prop} {JZ : AEx → Heap → Prop}
    (ht : t < tmps.size) (hu0 : u0 < tmps.size) (hasg : AsgOk P asg t u0) (hxs : ∀ (k : Nat) (x : AV), xs[k]? = some x → plain x = true)
    (hround : ∀ (k : Nat) (x : AV) (H : Heap), xs[k]? = some x → J k H → mb ≤ H.length → noY H = true → W P (some l) body (RdBack J JZ k tmps.size mb) ⟨(u0, x) :: (t, x) :: ρ, tmps.size, H, mb, []⟩) :
    YLaw P (mkYA asg p0 ρ tmps mb σb l fn t body d xs J JZ) := by
  rintro k x vs p σ w ⟨pO, σO, H, hJ, hM⟩ hx hvs hlt hul hll
  obtain ⟨v, rfl, hv⟩ := one_val (plain_one (hxs k x hx)) hvs
  have hul : ¬ p.u l := hul
  have hll : l < w.heap.size := hll
  refine ⟨fn, tmps.setIfInBounds t v, asg, body, ?_, ?_⟩
  · show (Instr.yield l #[v]).run P w = .ok (.round l fn (tmps.setIfInBounds t v) asg body) w
    rw [run_yield hM.lrec (by simp [recOfA])]
    simp [recOfA]
  show RoundIn Fence.wide 0 P l fn (tmps.setIfInBounds t v) asg body w _
  refine roundIn_of_wpIn trivial (hasg l _ w _ _ ?_)
  refine ⟨_, run_beginRound hM.lrec rfl, ?_⟩
  let w2 := w.putObj l (.loop (recOfA asg fn tmps #[t] body d .busy none))
  show body.wpIn (Fr (some l)) 0 P _ _ w2
  have hsh2 : Shape w w2 := Shape.putLoop hM.lrec _
  have hlr : ¬ pO.r l := fun h => (hM.back l h).elim (fun h => hul (p.sub l (hM.p0r l h))) fun h => hul (p.fu l h)
  let liveO : Nat → Prop := fun b => ∃ (i : Nat) (q : Blk), H[i]? = some (some q) ∧ σO[i]? = some b
  have hlive : ∀ b, liveO b → p.f b ∧ ¬ pO.u b ∧ b < w.heap.size := fun b ⟨i, q, h1, h2⟩ => by
    obtain ⟨r', g1, g2, g3, _⟩ := hM.heap.blk i q h1
    rw [h2] at g1
    injection g1 with g1
    subst g1
    exact ⟨hM.live i b q h1 h2, g2, g3⟩
  have hll2 : ¬ liveO l := fun h => hul (p.fu l (hlive l h).1)
  have sz2 : w2.heap.size = w.heap.size := by simp [w2]
  have oth2 : ∀ b, b ≠ l → w2.heap[b]? = w.heap[b]? := fun b hb => World.putObj_heap_other hb
  let pR : PQ := ⟨pO.r, fun b => b < w.heap.size ∧ ¬ liveO b, fun _ => False, fun b hb => ⟨hM.heap.lt b (pO.sub b hb), fun h => (hlive b h).2.1 (pO.sub b hb)⟩, fun _ h => h.elim, fun _ h => h.elim⟩
  have hHR : HRel pR σO H w2 := hM.heap.same hM.noY (fun _ h => h) (fun b hb => oth2 b fun e => hlr (e ▸ hb)) hsh2 (fun b hb => by rw [sz2]; exact hb.1) fun i q r h1 h2 =>
    ⟨fun h => h.2 ⟨i, q, h1, h2⟩, oth2 r fun e => hll2 (e ▸ ⟨i, q, h1, h2⟩)⟩
  have σmono : ∀ (i r : Nat), σb[i]? = some r → σO[i]? = some r := fun i r hi => by
    rw [hM.nam i (by rw [← hM.bl]; exact (List.getElem?_eq_some_iff.1 hi).1)]
    exact hi
  have hRel0 : Rel pR σO ⟨(t, x) :: ρ, tmps.size, H, mb, []⟩ { tmps := tmps.setIfInBounds t v, defers := [] } w2 := by
    refine ⟨by simp, trivial, fun u => ?_, hHR, hM.len⟩
    simp only [get]
    by_cases hu : t = u
    · subst hu
      rw [Nat.beq_refl]
      simp only [cond_true]
      have : (tmps.setIfInBounds t v).getD t undef = v := by simp [Array.getD_eq_getD_getElem?, ht]
      rw [this]
      exact hv.ofPlain (hxs k x hx)
    · rw [beq_ne hu]
      simp only [cond_false]
      have : (tmps.setIfInBounds t v).getD u undef = tmps.getD u undef := by simp [Array.getD_eq_getD_getElem?, Array.getElem?_setIfInBounds_ne hu]
      rw [this]
      exact (hM.env u).mono' (p := pO) (p' := pR) (fun _ h => h) (fun b hb => oth2 b fun e => hlr (e ▸ hb)) hsh2 σmono
  have hRel := hRel0.setT (t := t) (x := x) hu0 (by simp [get])
  have hW := hround k x H hx hJ hM.len hM.noY
  rw [W_eq] at hW
  refine wpIn_mono (hW pR σO _ w2 hRel) ?_
  rintro e a' w' ⟨ae, p', σ', s', rfl, g2, g3, g4, g5, g6, g7⟩
  rw [RdBack_eq] at g7
  obtain ⟨H3, hwk, hY3, hl3, hJ3⟩ := g7
  rw [Wk_eq] at hwk
  obtain ⟨k1, k2, k3⟩ := hwk
  obtain ⟨p2, σ2, e1, m1, r1⟩ := k3 p' σ' a' w' g4
  have hex := g2.trans e1
  have hnam : ∀ i, i < mb → σ2[i]? = σO[i]? := fun i hi => (m1 i (by rw [g5]; exact hi)).trans (g3 i hi)
  have hpl : pR.u l := ⟨hll, hll2⟩
  have hrec : w'.heap[l]? = some (.loop (recOfA asg fn tmps #[t] body d .busy none)) := (g2.same l hpl (fun h => h)).trans (World.putObj_heap_same hll)
  have hll' : l < w'.heap.size := (Array.getElem?_eq_some_iff.1 hrec).1
  have h2l : ¬ p2.r l := fun h => (hex.back l h).elim hlr fun h => h hpl
  have new : ∀ b, ¬ pR.u b → p.f b ∨ w.heap.size ≤ b := fun b hb => by
    by_cases hlt' : b < w.heap.size
    · by_cases hlv : liveO b
      · exact .inl (hlive b hlv).1
      · exact absurd ⟨hlt', hlv⟩ hb
    · exact .inr (by omega)
  have fin : ∀ (st : LoopState) (pend : Option Code), Mid p0 ρ tmps mb σb l (recOfA asg fn tmps #[t] body d st pend) (grow p w (w'.putObj l (.loop (recOfA asg fn tmps #[t] body d st pend)))) (w'.putObj l (.loop (recOfA asg fn tmps #[t] body d st pend))) p2 σ2 H3 ∧
      (∀ c, c < w.heap.size → ¬ p.f c → c ≠ l → (w'.putObj l (.loop (recOfA asg fn tmps #[t] body d st pend))).heap[c]? = w.heap[c]?) ∧ Shape w (w'.putObj l (.loop (recOfA asg fn tmps #[t] body d st pend))) := fun st pend => by
    have hsh3 : Shape w' (w'.putObj l (.loop (recOfA asg fn tmps #[t] body d st pend))) := Shape.putLoop hrec _
    have oth3 : ∀ b, b ≠ l → (w'.putObj l (.loop (recOfA asg fn tmps #[t] body d st pend))).heap[b]? = w'.heap[b]? := fun b hb => World.putObj_heap_other hb
    have sz3 : (w'.putObj l (.loop (recOfA asg fn tmps #[t] body d st pend))).heap.size = w'.heap.size := by simp
    have rec3 : (w'.putObj l (.loop (recOfA asg fn tmps #[t] body d st pend))).heap[l]? = some (.loop (recOfA asg fn tmps #[t] body d st pend)) := World.putObj_heap_same hll'
    generalize w'.putObj l (.loop (recOfA asg fn tmps #[t] body d st pend)) = w3 at *
    have hshA : Shape w w3 := (hsh2.trans g2.shape).trans hsh3
    have grown : ∀ b, ¬ pR.u b → b < w'.heap.size → (grow p w w3).f b := fun b hb hbl => (new b hb).imp id fun h => ⟨h, by omega, fun hr => by have := hlt b (p.sub b hr); omega⟩
    have rsame : ∀ b, p2.r b → w3.heap[b]? = w'.heap[b]? := fun b hb => oth3 b fun e => h2l (e ▸ hb)
    have osame : ∀ b, pO.r b → w3.heap[b]? = w.heap[b]? := fun b hb => (oth3 b fun e => hlr (e ▸ hb)).trans ((g2.same b (pR.sub b hb) (fun h => h)).trans (oth2 b fun e => hlr (e ▸ hb)))
    have lv : ∀ (i : Nat) (q : Blk) (r : Nat), H3[i]? = some (some q) → σ2[i]? = some r → ¬ p2.u r ∧ r < w'.heap.size := fun i q r h1 h2 => by
      obtain ⟨r', z1, z2, z3, _⟩ := r1.heap.blk i q h1
      rw [h2] at z1
      injection z1 with z1
      subst z1
      exact ⟨z2, z3⟩
    refine ⟨⟨hM.bl, hl3, r1.heap.same hY3 (fun _ h => h) rsame hsh3 (fun b hb => by rw [sz3]; exact r1.heap.lt b hb) fun i q r h1 h2 => ⟨(lv i q r h1 h2).1, oth3 r fun e => (lv i q r h1 h2).1 (e ▸ hex.subu l hpl)⟩, fun i hi => (hnam i hi).trans (hM.nam i hi), hY3,
      fun b hb => hex.subr b (hM.subr b hb), fun b hb => ?_, fun i r q h1 h2 => grown r (fun h => (lv i q r h1 h2).1 (hex.subu r h)) (lv i q r h1 h2).2, hM.p0r, fun u => (hM.env u).mono' (p := pO) (p' := p2) (fun b hb => hex.subr b hb) osame hshA (fun _ _ h => h), rec3⟩, fun c hc hcf hcl => ?_, hshA⟩
    · rcases hex.back b hb with h | h
      · exact (hM.back b h).imp id .inl
      · exact .inr (grown b h (r1.heap.lt b (p2.sub b hb)))
    · exact (oth3 c hcl).trans ((g2.same c ⟨hc, fun h => hcf (hlive c h).1⟩ (fun h => h)).trans (oth2 c hcl))
  cases ae with
  | normal =>
    obtain ⟨f1, f2, f3⟩ := fin .ready none
    exact ⟨_, _, run_endRound none hrec, true, rfl, fun _ => ⟨p2, σ2, H3, hJ3, f1⟩, fun h => by simp at h, f2, f3⟩
  | exit i =>
    obtain ⟨f1, f2, f3⟩ := fin .done (some (.exit i))
    exact ⟨_, _, run_endRound (some (.exit i)) hrec, false, rfl, fun h => by simp at h, fun _ => ⟨p2, σ2, H3, .exit i, _, hJ3, rfl, f1⟩, f2, f3⟩
  | goto i =>
    obtain ⟨f1, f2, f3⟩ := fin .done (some (.goto i))
    exact ⟨_, _, run_endRound (some (.goto i)) hrec, false, rfl, fun h => by simp at h, fun _ => ⟨p2, σ2, H3, .goto i, _, hJ3, rfl, f1⟩, f2, f3⟩
  | ret =>
    obtain ⟨f1, f2, f3⟩ := fin .done (some .ret)
    exact ⟨_, _, run_endRound (some .ret) hrec, false, rfl, fun h => by simp at h, fun _ => ⟨p2, σ2, H3, .ret, _, hJ3, rfl, f1⟩, f2, f3⟩
theorem W_rangeA {gop : Operand} {f : FuncId} {fs cs fs0 cs0 : List AV} (gl : List Nat) {H H0 : Heap} {ρ : Env} {n m : Nat} {df : List DF} {t u0 : Tmp} {asg : Code} {body : Code} {Q : AEx → St → Prop} (xs : List AV) (J : Nat → Heap → Prop) (JZ : AEx → Heap → Prop)
    (hg : evalO (get ρ) gop = .clos (.func f) fs cs) (hlt : (gl.all fun x => Nat.blt x H.length) = true) (hnd : noDup gl = true) (hle : HLe gl gl.length H H0 gl) (hfs : fs = renL (gOf gl) fs0) (hcs : cs = renL (gOf gl) cs0)
    (hlf : lowL gl.length fs0 = true) (hlc : lowL gl.length cs0 = true) (ht : t < n) (hu0 : u0 < n) (hasg : AsgOk P asg t u0) (hY : noY H = true) (hxs : ∀ (k : Nat) (x : AV), xs[k]? = some x → plain x = true)
    (hcall : ∀ Y : Ysp, Y.xs = xs → YLaw P Y → Tri P f (fs0 ++ [.clos (.yield Y.l) [] []] ++ cs0) (H0 ++ [some (.yl Y 0)]) fun v H1 => H1[gl.length]? = some (some (.yl Y xs.length)) ∨ H1[gl.length]? = some (some (.yz Y)))
    (hJ0 : J 0 (hide gl H 0 ++ [some .dfr]))
    (hround : ∀ (l k : Nat) (x : AV) (H' : Heap), xs[k]? = some x → J k H' → H.length + 1 ≤ H'.length → noY H' = true → W P (some l) body (RdBack J JZ k n (H.length + 1)) ⟨(u0, x) :: (t, x) :: ρ, n, H', H.length + 1, []⟩)
    (hend : ∀ H', J xs.length H' → H.length + 1 ≤ H'.length → noY H' = true → Q .normal ⟨ρ, n, H', m, .mk H.length :: df⟩)
    (hZ : ∀ e H' c, isExit e c → JZ e H' → H.length + 1 ≤ H'.length → noY H' = true → Q e ⟨ρ, n, H', m, .mk H.length :: df⟩) :
    W P none (.rangeFunc gop #[t] asg body) Q ⟨ρ, n, H, m, df⟩ := by
  rw [W_eq]
  intro p σ a w hR
  have hsz : a.tmps.size = n := hR.size
  have hH : HRel p σ H w := hR.heap
  have hlt' : ∀ x ∈ gl, x < H.length := fun x hx => by simpa [Nat.blt_eq] using List.all_eq_true.1 hlt x hx
  refine wpIn_rangeFunc fun fn _ => ?_
  have hv := evalO_rel hR gop
  simp only [hg] at hv
  generalize hve : a.eval gop = v at hv
  cases hv with
  | clos _ _ _ fs' cs' h1 h2 h3 h4 =>
  let rec_ : Loop := recOfA asg fn a.tmps #[t] body w.heap.size .ready none
  let wd : World := pushW w (.deferred (some []))
  let w1 : World := pushW wd (.loop rec_)
  let l : Nat := w.heap.size + 1
  let σb := σ ++ [w.heap.size]
  have hszd : wd.heap.size = w.heap.size + 1 := pushW_size
  have hsz1 : w1.heap.size = w.heap.size + 2 := by simp [w1, pushW_size, hszd]
  have exd : Ext p w p wd := .push hH.lt _
  have hltd : ∀ b, p.u b → b < wd.heap.size := fun b hb => by have := hH.lt b hb; omega
  have ex1 : Ext p wd p w1 := .push hltd _
  have exA : Ext p w p w1 := exd.trans ex1
  have old : ∀ b, b < w.heap.size → w1.heap[b]? = w.heap[b]? := fun b hb => (pushW_old (by omega)).trans (pushW_old hb)
  have hlrec : w1.heap[l]? = some (.loop rec_) := by
    show w1.heap[w.heap.size + 1]? = _
    rw [← hszd]
    exact pushW_new
  have hHd : HRel p σb (H ++ [some .dfr]) wd := hH.push _ .dfr pushW_new
  have hlive : ∀ (i r : Nat) (k : Blk), (H ++ [some Blk.dfr])[i]? = some (some k) → σb[i]? = some r → ¬ p.u r ∧ r < wd.heap.size := fun i r k hk hr => by
    obtain ⟨r', z1, z2, z3, _⟩ := hHd.blk i k hk
    rw [hr] at z1
    injection z1 with z1
    subst z1
    exact ⟨z2, z3⟩
  have hYd : noY (H ++ [some .dfr]) = true := noY_of fun i k hk => by
    rcases Nat.lt_or_ge i H.length with hi | hi
    · rw [List.getElem?_append_left hi] at hk
      exact noY_get hY hk
    · rw [List.getElem?_append_right hi] at hk
      cases hj : i - H.length with
      | zero => rw [hj] at hk; simp at hk; subst hk; rfl
      | succ j => rw [hj] at hk; simp at hk
  have hH1 : HRel p σb (H ++ [some .dfr]) w1 := hHd.same hYd (fun _ h => h) (fun b hb => ex1.same b (p.sub b hb) fun hf => p.fr b hf hb) ex1.shape (fun b hb => by have := hltd b hb; omega) fun i k r hk hr =>
    ⟨(hlive i r k hk hr).1, pushW_old (hlive i r k hk hr).2⟩
  let Hb : Heap := hide gl H 0 ++ [some .dfr]
  obtain ⟨hhl, hhg⟩ := hide_get gl H 0
  have hbl : Hb.length = H.length + 1 := by simp [Hb, hhl]
  have hbg : ∀ (i : Nat) (k : Blk), Hb[i]? = some (some k) → i ∉ gl ∧ (H ++ [some Blk.dfr])[i]? = some (some k) := fun i k hk => by
    rcases Nat.lt_or_ge i H.length with hi | hi
    · rw [List.getElem?_append_left (by rw [hhl]; exact hi)] at hk
      obtain ⟨z1, z2⟩ := hhg i k hk
      exact ⟨by simpa using z1, by rw [List.getElem?_append_left hi]; exact z2⟩
    · rw [List.getElem?_append_right (by rw [hhl]; exact hi), hhl] at hk
      exact ⟨fun hm => by have := hlt' i hm; omega, by rw [List.getElem?_append_right hi]; exact hk⟩
  have hHb : HRel p σb Hb w1 := hH1.less (by rw [hbl]; simp) fun i k hk => (hbg i k hk).2
  let L : Nat → Prop := fun r => ∃ (i : Nat) (k : Blk), Hb[i]? = some (some k) ∧ σb[i]? = some r
  have hL : ∀ r, L r → ¬ p.u r ∧ r < wd.heap.size := fun r ⟨i, k, z1, z2⟩ => hlive i r k (hbg i k z1).2 z2
  let p0 : PQ := ⟨p.r, fun b => p.u b ∨ L b, L, fun b h => .inl (p.sub b h), fun b h => .inr h, fun b h hr => (hL b h).1 (p.sub b hr)⟩
  have hσl : σ.length = H.length := hH.len
  have σleft : ∀ (i r : Nat), σ[i]? = some r → σb[i]? = some r := mono_append _
  let Y := mkYA asg p ρ a.tmps (H.length + 1) σb l fn t body w.heap.size xs J JZ
  have hMid : Mid p ρ a.tmps (H.length + 1) σb l rec_ p0 w1 p σb Hb :=
    ⟨by simp [σb, hσl], Nat.le_of_eq hbl.symm, hHb, fun _ _ => rfl, noY_of fun i k hk => noY_get hYd (hbg i k hk).2, fun _ h => h, fun b h => .inl h, fun i r k hk hr => ⟨i, k, hk, hr⟩, fun _ h => h, fun u => (hR.env u).mono exA σleft, hlrec⟩
  have hlaw : YLaw P Y := mkYA_law (by rw [hsz]; exact ht) (by rw [hsz]; exact hu0) hasg hxs fun k x H' e1 e2 e3 e4 => by rw [hsz]; exact hround l k x H' e1 e2 e3 e4
  have hT := hcall Y rfl hlaw
  rw [Tri_eq] at hT
  obtain ⟨hent, hT⟩ := hT
  have hlen0 : H0.length = gl.length := (HLe_get H0 gl hle).1
  have hget0 := (HLe_get H0 gl hle).2
  have hsg := renS_get (σ := σ) (g := gl) rfl (by rw [hσl]; exact hlt')
  have hgi : ∀ (i j : Nat), gl[i]? = some j → (renS gl σ)[i]? = σ[j]? := fun i j h => by
    have hi := (List.getElem?_eq_some_iff.1 h).1
    rw [hsg i hi]
    simp [gOf, List.getD_eq_getElem?_getD, h]
  have hY0 : noY H0 = true := noY_of fun i k hk => by
    obtain ⟨j, z1, z2, _⟩ := hget0 i k hk
    have := noY_get hY z2
    cases k <;> first | rfl | simp [renB, isY] at this
  have hH0 : HRel p (renS gl σ) H0 wd := (hH.ren hlt' hnd hle).same hY0 (fun _ h => h) (fun b hb => exd.same b (p.sub b hb) fun hf => p.fr b hf hb) exd.shape hltd fun i k r hk hr => by
    obtain ⟨r', z1, z2, z3, _⟩ := (hH.ren hlt' hnd hle).blk i k hk
    rw [hr] at z1
    injection z1 with z1
    subst z1
    exact ⟨z2, pushW_old z3⟩
  have hH0' : HRel p0 (renS gl σ) H0 wd := hH0.same hY0 (fun _ h => h) (fun _ _ => rfl) (.refl wd) (fun b hb => hb.elim (hltd b) fun h => (hL b h).2) fun i k r hk hr => by
    obtain ⟨r', z1, z2, z3, _⟩ := hH0.blk i k hk
    rw [hr] at z1
    injection z1 with z1
    subst z1
    refine ⟨fun hu => hu.elim z2 fun ⟨j, q, y1, y2⟩ => ?_, rfl⟩
    obtain ⟨j0, e1, e2, _⟩ := hget0 i k hk
    rw [hgi i j0 e1] at hr
    obtain ⟨f1, f2⟩ := hbg j q y1
    have hj0 : j0 < H.length := (List.getElem?_eq_some_iff.1 e2).1
    have := hHd.inj j j0 r q _ f2 (by rw [List.getElem?_append_left hj0]; exact e2) y2 (σleft _ _ hr)
    subst this
    exact f1 (List.mem_iff_getElem?.2 ⟨i, e1⟩)
  have hHc : HRel p0 (renS gl σ ++ [wd.heap.size]) (H0 ++ [some (.yl Y 0)]) w1 := hH0'.push _ (.yl Y 0) ⟨hszd, p, σb, Hb, hJ0, hMid⟩
  let yv : Value := .func (.yield l) #[] #[]
  refine ⟨l, [{ target := .collected w.heap.size, args := #[] }], w1, { target := .fn (.func f) cs', args := fs' ++ #[yv] }, w1, f, fs' ++ #[yv] ++ cs', w1, run_enterLoop_outer fn a.tmps #[t] asg body, ?_, fun _ _ => trivial, ?_, fun h => by simp [Fr, Fence.wide] at h, ?_⟩
  · have hconst : a.eval (.const (.func (.yield l) #[] #[])) = yv := rfl
    simp [resolve, rangeCall, hve, Deferred.ofValue, hconst]
  · simp only [invoke]
    exact enter_run hent
  have hargs : (fs' ++ #[yv] ++ cs').size = (fs0 ++ [AV.clos (.yield Y.l) [] []] ++ cs0).length ∧
      ∀ (i : Nat) (x : AV) (v : Value), (fs0 ++ [AV.clos (.yield Y.l) [] []] ++ cs0)[i]? = some x → (fs' ++ #[yv] ++ cs')[i]? = some v → VRel p0 (renS gl σ ++ [wd.heap.size]) w1 x v := by
    have part : ∀ (xs xs0 : List AV) (vs : Array Value), xs = renL (gOf gl) xs0 → lowL gl.length xs0 = true → vs.size = xs.length → (∀ (i : Nat) (x : AV) (v : Value), xs[i]? = some x → vs[i]? = some v → VRel p σ w x v) →
        vs.size = xs0.length ∧ ∀ (i : Nat) (x : AV) (v : Value), xs0[i]? = some x → vs[i]? = some v → VRel p0 (renS gl σ ++ [wd.heap.size]) w1 x v := fun xs xs0 vs hx hl hs hr => by
      subst hx
      rw [renL_length] at hs
      refine ⟨hs, fun i x v hx hv => ?_⟩
      have z := hr i (Eng.ren (gOf gl) x) v (by rw [renL_get, hx]; rfl) hv
      exact (z.ren hsg x rfl (lowL_get hl hx)).mono' (p := p) (p' := p0) (fun _ h => h) (fun b hb => exA.same b (p.sub b hb) fun hf => p.fr b hf hb) exA.shape (mono_append _)
    obtain ⟨q1, q2⟩ := part fs fs0 fs' hfs hlf h1 h3
    obtain ⟨r1, r2⟩ := part cs cs0 cs' hcs hlc h2 h4
    obtain ⟨u1, u2⟩ := rel_append (p := p0) (σ := renS gl σ ++ [wd.heap.size]) (w := w1) (xs := fs0) (ys := [AV.clos (.yield Y.l) [] []]) (us := fs') (vs := #[yv]) q1 q2 rfl (fun i x v hx hv => by
      cases i with
      | zero =>
        simp at hx hv
        subst hx hv
        exact .clos (.yield l) [] [] #[] #[] rfl rfl (fun i x v h => by simp at h) (fun i x v h => by simp at h)
      | succ i => simp at hx)
    exact rel_append u1 u2 r1 r2
  show CallsIn (Fr none) 0 P f _ w1 _
  refine callsIn_of ((hT p0 _ w1 _ hHc hargs.1 hargs.2).mono ?_)
  rintro e w2 ⟨v, x, p1, σ1, H1, rfl, hex, hm1, hHR1, _, hq⟩
  have hl1 : σ1[gl.length]? = some l := hm1 _ _ (by
    rw [List.getElem?_append_right (by simp [renS])]
    simp [renS, hszd, l])
  have hul1 : ∀ (k : Blk), H1[gl.length]? = some (some k) → ¬ p1.u l ∧ BRel p1 σ1 w2 k l := fun k hk => by
    obtain ⟨r, z1, z2, _, z4⟩ := hHR1.blk _ k hk
    rw [hl1] at z1
    injection z1 with z1
    subst z1
    exact ⟨z2, z4⟩
  have fin : ∀ (st : LoopState) (pend : Option Code) (pO : PQ) (σO : List Nat) (H' : Heap) (o : Obj), ¬ p1.u l → Mid p ρ a.tmps (H.length + 1) σb l (recOfA asg fn a.tmps #[t] body w.heap.size st pend) p1 w2 pO σO H' → H.length + 1 ≤ H'.length ∧ noY H' = true ∧
      ∃ pf, Ext p w pf (w2.putObj l o) ∧ (∀ i, i < m → σO[i]? = σ[i]?) ∧ Rel pf σO ⟨ρ, n, H', m, .mk H.length :: df⟩ { a with defers := [{ target := .collected w.heap.size, args := #[] }] ++ a.defers } (w2.putObj l o) := fun st pend pO σO H' o hul hM => by
    have hsh4 : Shape w2 (w2.putObj l o) := Shape.putLoop hM.lrec o
    have oth4 : ∀ b, b ≠ l → (w2.putObj l o).heap[b]? = w2.heap[b]? := fun b hb => World.putObj_heap_other hb
    have sz4 : (w2.putObj l o).heap.size = w2.heap.size := by simp
    generalize w2.putObj l o = w4 at *
    have p1f : ∀ b, p1.f b → ¬ p.u b := fun b hb hu => (hex.backf b hb).elim (fun h => (hL b h).1 hu) fun h => h (.inl hu)
    have hlr : ¬ pO.r l := fun h => (hM.back l h).elim (fun h => by have := hH.lt l (p.sub l h); omega) fun h => hul (p1.fu l h)
    have lv : ∀ (i r : Nat) (k : Blk), H'[i]? = some (some k) → σO[i]? = some r → ¬ pO.u r := fun i r k hk hr => by
      obtain ⟨r', z1, z2, _⟩ := hM.heap.blk i k hk
      rw [hr] at z1
      injection z1 with z1
      subst z1
      exact z2
    let pf : PQ := ⟨pO.r, fun b => p.u b ∨ pO.r b, p.f, fun _ h => .inr h, fun b h => .inl (p.fu b h), fun b h hr => (hM.back b hr).elim (p.fr b h) fun h1 => p1f b h1 (p.fu b h)⟩
    have σfin : ∀ (i r : Nat), σb[i]? = some r → σO[i]? = some r := fun i r hi => by
      rw [hM.nam i (by rw [← hM.bl]; exact (List.getElem?_eq_some_iff.1 hi).1)]
      exact hi
    have rsame : ∀ b, pO.r b → w4.heap[b]? = w2.heap[b]? := fun b hb => oth4 b fun e => hlr (e ▸ hb)
    refine ⟨hM.len, hM.noY, pf, ⟨fun b hb => hM.subr b hb, fun b hb => .inl hb, fun b hb => (hM.back b hb).imp id (p1f b), fun _ h => h, fun _ h => .inl h, fun b hb hf => ?_, (exA.shape.trans hex.shape).trans hsh4⟩, fun i hi => ?_, ⟨hsz, ?_, fun u => ?_, ?_, ?_⟩⟩
    · have hbw := hH.lt b hb
      exact (oth4 b (by omega)).trans ((hex.same b (.inl hb) fun h => (hL b h).1 hb).trans (old b hbw))
    · have hi' : i < H.length := Nat.lt_of_lt_of_le hi hR.m
      rw [hM.nam i (by omega), List.getElem?_append_left (by rw [hσl]; exact hi')]
    · refine ⟨⟨w.heap.size, σfin _ _ ?_, rfl⟩, DRel.mono (fun i r h => σfin i r (σleft i r h)) _ _ hR.df⟩
      rw [← hσl]
      simp [σb]
    · exact (hM.env u).mono' (p := pO) (p' := pf) (fun _ h => h) rsame hsh4 σfin
    · refine hM.heap.same hM.noY (fun _ h => h) rsame hsh4 (fun b hb => ?_) fun i k r hk hr => ⟨fun h => h.elim (p1f r (hM.live i r k hk hr)) fun h => lv i r k hk hr (pO.sub r h), oth4 r fun e => hul (p1.fu l (e ▸ hM.live i r k hk hr))⟩
      rw [sz4]
      exact hb.elim (fun h => by have := hH.lt b h; have := (exA.shape.trans hex.shape).1; omega) fun h => hM.heap.lt b (pO.sub b h)
    · exact Nat.le_trans hR.m (Nat.le_trans (Nat.le_succ _) hM.len)
  rcases hq with hq | hq
  · obtain ⟨hul, hb⟩ := hul1 _ hq
    obtain ⟨_, pO, σO, H', hJ, hM⟩ := hb
    obtain ⟨f1, f2, pf, f3, f4, f5⟩ := fin _ _ pO σO H' (.loop { recOfA asg fn a.tmps #[t] body w.heap.size .ready none with state := .exhausted }) hul hM
    refine ⟨none, _, run_endLoop hM.lrec (by simp [recOfA]), ?_⟩
    exact ⟨.normal, pf, σO, _, rfl, f3, f4, f5, rfl, rfl, hend H' hJ f1 f2⟩
  · obtain ⟨hul, hb⟩ := hul1 _ hq
    obtain ⟨_, pO, σO, H', e, c, hJ, hc, hM⟩ := hb
    obtain ⟨f1, f2, pf, f3, f4, f5⟩ := fin _ _ pO σO H' (.loop { recOfA asg fn a.tmps #[t] body w.heap.size .done (some c) with state := .exhausted }) hul hM
    refine ⟨some c, _, run_endLoop hM.lrec (by simp [recOfA]), ?_⟩
    have post : Post p w σ ⟨ρ, n, H, m, df⟩ Q (exR e) { a with defers := [{ target := .collected w.heap.size, args := #[] }] ++ a.defers } (w2.putObj l (.loop { recOfA asg fn a.tmps #[t] body w.heap.size .done (some c) with state := .exhausted })) :=
      ⟨e, pf, σO, _, rfl, f3, f4, f5, rfl, rfl, hZ e H' c hc hJ f1 f2⟩
    cases e with
    | normal => exact hc.elim
    | exit i => obtain rfl := hc; exact wpIn_exit post
    | goto i => obtain rfl := hc; exact wpIn_goto post
    | ret => obtain rfl := hc; exact wpIn_ret post
end
end Go.Eng
set_option linter.unusedVariables false
set_option linter.unusedSimpArgs false
namespace Go.Eng
open Go Go.RowKit Go.ChangeShapes Go.WideShapes
inductive Sh where
  | int (k : IntKind) | bool | str | sl (row : List Sh)
inductive HasSh : Sh → D → Prop
  | int (k : IntKind) (n : Int) (h : (Lit.int k n).wf = true) : HasSh (.int k) (.int k n)
  | bool (b : Bool) : HasSh .bool (.bool b)
  | str (s : ByteArray) : HasSh .str (.str s)
  | sl (row : List Sh) (rows : List (List D)) (hl : ∀ r ∈ rows, r.length = row.length) (h : ∀ r ∈ rows, ∀ (j : Nat) (s : Sh) (d : D), row[j]? = some s → r[j]? = some d → HasSh s d) : HasSh (.sl row) (.sl rows)
def Row (shs : List Sh) (ds : List D) : Prop := ds.length = shs.length ∧ ∀ (j : Nat) (s : Sh) (d : D), shs[j]? = some s → ds[j]? = some d → HasSh s d
theorem Row.one {s : Sh} {d : D} (h : HasSh s d) : Row [s] [d] := ⟨rfl, fun j s' d' h1 h2 => by
  cases j with
  | zero => simp at h1 h2; subst h1 h2; exact h
  | succ j => simp at h1⟩
def places (P : Program) : List Field → List (List Sh) → Nat → Bool
  | [], [], _ => true
  | f :: fs, r :: rs, o => Nat.beq f.offset o && (Nat.beq (P.cellsOf f.type) r.length && places P fs rs (o + r.length))
  | _, _, _ => false
def flat (P : Program) : Nat → TypeId → Option (List Sh)
  | 0, _ => none
  | n + 1, t => match P.underlying t with
    | some (.int k) => some [.int k]
    | some .bool => some [.bool]
    | some .string => some [.str]
    | some (.slice e) => match flat P n e with
      | some r => if 0 < P.bytesOf e ∧ P.cellsOf e = r.length ∧ 0 < r.length then some [.sl r] else none
      | none => none
    | some (.struct fs) => match fs.toList.mapM fun f => flat P n f.type with
      | some rs => if places P fs.toList rs 0 = true ∧ P.cellsOf t = rs.flatten.length then some rs.flatten else none
      | none => none
    | _ => none
def pAll (w : World) : PQ := ⟨fun b => b < w.heap.size, fun b => b < w.heap.size, fun _ => False, fun _ h => h, fun _ h => h.elim, fun _ h => h.elim⟩
section
variable {H : Type} {enc : TypeId × Value → H} {P : Program} {w : World} {base : Nat} {spare : Nat → Bool} {held : Bool}
theorem ex_list {α : Type} (n : Nat) (Q : Nat → α → Prop) (h : ∀ i, i < n → ∃ x, Q i x) : ∃ l : List α, l.length = n ∧ ∀ i x, l[i]? = some x → Q i x := by
  induction n with
  | zero => exact ⟨[], rfl, fun i x hx => by simp at hx⟩
  | succ n ih =>
    obtain ⟨l, hl, hq⟩ := ih fun i hi => h i (by omega)
    obtain ⟨x, hx⟩ := h n (by omega)
    refine ⟨l ++ [x], by simp [hl], fun i y hy => ?_⟩
    by_cases hi : i < n
    · rw [List.getElem?_append_left (by omega)] at hy; exact hq i y hy
    · have : i = n := by
        have := (List.getElem?_eq_some_iff.1 hy).1
        simp at this; omega
      subst this
      rw [List.getElem?_append_right (by omega)] at hy
      simp [hl] at hy
      subst hy; exact hx
theorem weightsAll_mem {P : Program} {e : TypeId} : ∀ (l : List (DataW H)) (d : DataW H), d ∈ l → ∀ m ∈ d.weights P e, m ∈ DataW.weightsAll P e l := by
  intro l
  induction l with
  | nil => intro d h; simp at h
  | cons a r ih =>
    intro d h m hm
    simp only [DataW.weightsAll, List.mem_append]
    rcases List.mem_cons.1 h with rfl | h
    · exact .inl hm
    · exact .inr (ih d h m hm)
theorem reach_LB {m : Nat} (h : m ≤ reachBytes) : m ≤ LB := by
  unfold reachBytes at h; unfold LB; omega
theorem read_flat (n : Nat) : ∀ (t : TypeId) (shs : List Sh) (fuel : Nat) (cs : List Value) (x : DataW H × List MemPlace), flat P n t = some shs → DataW.trod enc P w base spare held fuel t cs = some x →
    (∀ m ∈ x.1.weights P t, m ≤ reachBytes) → ∃ ds : List D, Row shs ds ∧ cs.length = ds.length ∧ ∀ (j : Nat) (d : D) (v : Value), ds[j]? = some d → cs[j]? = some v → VRel (pAll w) [] w (.d d) v ∧ one v = true := by
  induction n with
  | zero => intro t shs fuel cs x h; simp [flat] at h
  | succ n ih =>
    intro t shs fuel cs x h ht hw
    unfold flat at h
    have single : ∀ (s : Sh) (d : D) (v : Value), shs = [s] → cs = [v] → HasSh s d → VRel (pAll w) [] w (.d d) v → one v = true → ∃ ds : List D, Row shs ds ∧ cs.length = ds.length ∧ ∀ (j : Nat) (d : D) (v : Value), ds[j]? = some d → cs[j]? = some v → VRel (pAll w) [] w (.d d) v ∧ one v = true := by
      rintro s d v rfl rfl h1 h2 h3
      refine ⟨[d], .one h1, rfl, fun j d' v' hd hv => ?_⟩
      cases j with
      | zero => simp at hd hv; subst hd hv; exact ⟨h2, h3⟩
      | succ j => simp at hd
    split at h
    · rename_i k hu
      obtain ⟨z, rfl, rfl, hwf⟩ := DataW.trod_int hu ht
      injection h with h
      exact single _ _ _ h.symm rfl (.int k z hwf) (.int k z) rfl
    · rename_i hu
      obtain ⟨z, rfl, rfl⟩ := DataW.trod_bool hu ht
      injection h with h
      exact single _ _ _ h.symm rfl (.bool z) (.bool z) rfl
    · rename_i hu
      obtain ⟨z, rfl, rfl, hsz⟩ := DataW.trod_string hu ht
      injection h with h
      refine single _ _ _ h.symm rfl (.str z) (.str z ?_) rfl
      have := hw z.size (by simp only [DataW.weights]; exact List.mem_singleton.2 (show z.data.size = z.data.toList.length from Array.length_toList.symm))
      exact reach_LB this
    · rename_i e hu
      split at h
      · rename_i r hr
        split at h
        · rename_i hc
          obtain ⟨hc1, hc2, hc3⟩ := hc
          injection h with h
          rcases DataW.trod_slice hu ht with ⟨rfl, rfl⟩ | ⟨a, len, cap, elems, rest, n', hfu, rfl, rfl, hb, hlc, hcm, hel, hget, _, _⟩
          · exact single _ _ _ h.symm rfl (.sl r [] (fun _ h => by simp at h) (fun _ h => by simp at h)) (.sl [] none 0 0 0 (fun _ _ => undef) rfl (Nat.zero_le _) (Nat.le_refl _) (fun i row h => by simp at h) (fun h => absurd rfl h) (fun i row j x h => by simp at h)) rfl
          · have hel2 : ∀ i, i < len → ∃ y csi, elems[i]? = some y ∧ w.cells? base (a.add (i * P.cellsOf e)) (P.cellsOf e) = some csi ∧ DataW.trod enc P w base spare held n' e csi = some y := by
              intro i hi
              have h1 := hget i hi
              have hy : elems[i]? = some (elems[i]'(by omega)) := List.getElem?_eq_getElem (by omega)
              rw [hy, Option.bind_eq_some_iff] at h1
              obtain ⟨csi, h2, h3⟩ := h1
              exact ⟨_, csi, hy, h2, h3⟩
            obtain ⟨rows, hrl, hrq⟩ := ex_list len (fun i (ds : List D) => Row r ds ∧ ∀ csi, w.cells? base (a.add (i * P.cellsOf e)) (P.cellsOf e) = some csi → csi.length = ds.length ∧ ∀ (j : Nat) (d : D) (v : Value), ds[j]? = some d → csi[j]? = some v → VRel (pAll w) [] w (.d d) v ∧ one v = true) (fun i hi => by
              obtain ⟨y, csi, h1, h2, h3⟩ := hel2 i hi
              obtain ⟨ds, g1, g2, g3⟩ := ih e r n' csi y hr h3 (fun m hm => hw m (by
                simp only [DataW.weights, hu, List.mem_cons, List.mem_append]
                exact .inr (.inl (weightsAll_mem _ y.1 (List.mem_map.2 ⟨y, List.mem_of_getElem? h1, rfl⟩) m hm))))
              exact ⟨ds, g1, fun csi' h' => by rw [h2] at h'; injection h' with h'; subst h'; exact ⟨g2, g3⟩⟩)
            have hlenB : len ≤ LB := by
              have h1 := hw ((elems.length + rest.length) * P.bytesOf e) (by simp [DataW.weights, hu])
              have h2 : elems.length * 1 ≤ (elems.length + rest.length) * P.bytesOf e := Nat.mul_le_mul (by omega) hc1
              exact reach_LB (by omega)
            have hcell : ∀ i j, i < len → j < r.length → ∃ v, w.cell? ((a.add (i * P.cellsOf e)).add j) = some v ∧ ∀ csi, w.cells? base (a.add (i * P.cellsOf e)) (P.cellsOf e) = some csi → csi[j]? = some v := by
              intro i j hi hj
              obtain ⟨y, csi, h1, h2, h3⟩ := hel2 i hi
              obtain ⟨_, k1, k2⟩ := World.cells?_some h2
              refine ⟨csi[j]'(by omega), ?_, fun csi' h' => ?_⟩
              · have := k2 j (by omega)
                rw [this, List.getElem?_eq_getElem (by omega)]
              · rw [h2] at h'; injection h' with h'; subst h'; exact List.getElem?_eq_getElem _
            refine single _ _ _ h.symm rfl (.sl r rows (fun q hq => ?_) (fun q hq => ?_)) ?_ rfl
            · obtain ⟨i, hi⟩ := List.mem_iff_getElem?.1 hq
              exact (hrq i q hi).1.1
            · obtain ⟨i, hi⟩ := List.mem_iff_getElem?.1 hq
              exact (hrq i q hi).1.2
            · by_cases h0 : len = 0
              · have : rows = [] := List.length_eq_zero_iff.1 (by omega)
                subst this
                exact .sl [] _ len cap r.length (fun _ _ => undef) (by omega) hlenB hlc (fun i row h => by simp at h) (fun h => absurd h0 h) (fun i row j x h => by simp at h)
              · have hspot : a.spot = none := by
                  obtain ⟨v, hv, _⟩ := hcell 0 0 (by omega) hc3
                  unfold World.cell? at hv
                  split at hv
                  · split at hv
                    · simp at hv
                    · rename_i hs
                      cases hsp : a.spot with
                      | none => rfl
                      | some z =>
                        exfalso; apply hs
                        unfold Addr.add
                        split <;> split <;> simp_all
                  · simp at hv
                have hadd : ∀ i j : Nat, (a.add (i * P.cellsOf e)).add j = ⟨a.block, a.off + i * r.length + j, none⟩ := by
                  intro i j
                  obtain ⟨ab, ao, sp⟩ := a
                  simp only at hspot
                  subst hspot
                  rw [addr_add, addr_add, hc2]
                have hbl : a.block < w.heap.size := by
                  obtain ⟨v, hv, _⟩ := hcell 0 0 (by omega) hc3
                  rw [hadd] at hv
                  unfold World.cell? at hv
                  split at hv
                  · rename_i hh; exact (Array.getElem?_eq_some_iff.1 hh).1
                  · simp at hv
                refine .sl rows (some a) len cap r.length (fun i j => (w.cell? ⟨a.block, a.off + i * r.length + j, none⟩).getD undef) hrl hlenB hlc (fun i row hi => (hrq i row hi).1.1) (fun _ => ⟨a.block, a.off, by
                  obtain ⟨ab, ao, sp⟩ := a
                  simp only at hspot
                  subst hspot; rfl, hbl, fun i j hi hj => ?_⟩) (fun i row j x hi hx => ?_)
                · obtain ⟨v, hv, _⟩ := hcell i j hi hj
                  rw [hadd] at hv
                  rw [hv]; rfl
                · have hil : i < len := by have := (List.getElem?_eq_some_iff.1 hi).1; omega
                  obtain ⟨g1, g2⟩ := hrq i row hi
                  have hj : j < r.length := by have := (List.getElem?_eq_some_iff.1 hx).1; rw [g1.1] at this; exact this
                  obtain ⟨v, hv, hv2⟩ := hcell i j hil hj
                  obtain ⟨y, csi, h1, h2, h3⟩ := hel2 i hil
                  rw [hadd] at hv
                  rw [hv]
                  exact ((g2 csi h2).2 j x v hx (hv2 csi h2)).1
        · simp at h
      · simp at h
    · rename_i fs hu
      split at h
      · rename_i rs hrs
        split at h
        · rename_i hc
          obtain ⟨hpl, hcells⟩ := hc
          injection h with h
          subst h
          obtain ⟨xs, n', hfu, rfl, hcl, hxl, hget⟩ := DataW.trod_struct hu ht
          simp only [DataW.weights, hu] at hw
          have key : ∀ (fs' : List Field) (rs' : List (List Sh)) (xs' : List (DataW H × List MemPlace)) (o : Nat), places P fs' rs' o = true → (fs'.mapM fun f => flat P n f.type) = some rs' → xs'.length = fs'.length →
              (∀ (i : Nat) (f : Field), fs'[i]? = some f → DataW.trod enc P w base spare held n' f.type ((cs.drop f.offset).take (P.cellsOf f.type)) = xs'[i]?) →
              (∀ m ∈ DataW.weightsEach P (fs'.map (·.type)) (xs'.map (·.1)), m ≤ reachBytes) →
              ∃ ds : List D, Row rs'.flatten ds ∧ ∀ (j : Nat) (d : D) (v : Value), ds[j]? = some d → cs[o + j]? = some v → VRel (pAll w) [] w (.d d) v ∧ one v = true := by
            intro fs'
            induction fs' with
            | nil =>
              intro rs' xs' o hp hm hx hg hw
              simp at hm
              subst hm
              exact ⟨[], ⟨rfl, fun j s d h => by simp at h⟩, fun j d v h => by simp at h⟩
            | cons f fs' ihf =>
              intro rs' xs' o hp hm hx hg hw
              cases xs' with
              | nil => simp at hx
              | cons x0 xs' =>
                cases rs' with
                | nil => simp [places] at hp
                | cons r0 rs' =>
                  simp only [places, Bool.and_eq_true] at hp
                  obtain ⟨p1, p2, p3⟩ := hp
                  have p1 := Nat.eq_of_beq_eq_true p1
                  have p2 := Nat.eq_of_beq_eq_true p2
                  simp only [List.mapM_cons, Option.bind_eq_bind, Option.bind_eq_some_iff, Option.pure_def, Option.some.injEq] at hm
                  obtain ⟨r1, m1, rs1, m2, m3⟩ := hm
                  injection m3 with m3 m4
                  subst m3 m4
                  have h0 := hg 0 f rfl
                  simp only [List.getElem?_cons_zero] at h0
                  simp only [List.map_cons, DataW.weightsEach, List.mem_append] at hw
                  obtain ⟨d0, a1, a2, a3⟩ := ih f.type r1 n' _ x0 m1 h0 (fun m hm => hw m (.inl hm))
                  obtain ⟨d1, b1, b2⟩ := ihf rs1 xs' (o + r1.length) p3 m2 (by simpa using hx) (fun i f' hf' => by have := hg (i + 1) f' (by simpa using hf'); simpa using this) (fun m hm => hw m (.inr hm))
                  have hd0 : d0.length = r1.length := a1.1
                  refine ⟨d0 ++ d1, ⟨by simp [a1.1, b1.1], fun j s d hs hd => ?_⟩, fun j d v hd hv => ?_⟩
                  · simp only [List.flatten_cons] at hs
                    by_cases hj : j < r1.length
                    · rw [List.getElem?_append_left hj] at hs
                      rw [List.getElem?_append_left (by omega)] at hd
                      exact a1.2 j s d hs hd
                    · rw [List.getElem?_append_right (by omega)] at hs
                      rw [List.getElem?_append_right (by omega), hd0] at hd
                      exact b1.2 _ s d hs hd
                  · by_cases hj : j < r1.length
                    · rw [List.getElem?_append_left (by omega)] at hd
                      refine a3 j d v hd ?_
                      rw [List.getElem?_take, if_pos (by omega), List.getElem?_drop, p1]
                      exact hv
                    · rw [List.getElem?_append_right (by omega), hd0] at hd
                      refine b2 _ d v hd ?_
                      rw [show o + r1.length + (j - r1.length) = o + j by omega]
                      exact hv
          obtain ⟨ds, k1, k2⟩ := key fs.toList rs xs 0 hpl hrs (by simpa using hxl) (fun i f hf => hget i f (by simpa using hf)) hw
          refine ⟨ds, k1, by rw [hcl, hcells, k1.1], fun j d v hd hv => k2 j d v hd (by rw [Nat.zero_add]; exact hv)⟩
        · simp at h
      · simp at h
    · simp at h
end
end Go.Eng
set_option linter.unusedVariables false
set_option linter.unusedSimpArgs false
namespace Go.Eng
open Go Go.RowKit Go.ChangeShapes Go.WideShapes
def hd1 : List D → AV
  | d :: _ => .d d
  | [] => .any
def topAV (P : Program) (t : TypeId) (ds : List D) : AV :=
  match P.underlying t with
  | some (.struct _) => .agg (ds.map .d)
  | _ => hd1 ds
def ArgOk (P : Program) (t : TypeId) (x : AV) : Prop := ∃ shs ds, flat P 8 t = some shs ∧ Row shs ds ∧ x = topAV P t ds
def ArgsOk (P : Program) : List TypeId → List AV → Prop
  | [], [] => True
  | t :: ts, x :: xs => ArgOk P t x ∧ ArgsOk P ts xs
  | _, _ => False
section
variable {H : Type} {enc : TypeId × Value → H} {P : Program} {w : World} {base b0 : Nat} {spare : Nat → Bool} {held : Bool}
theorem open_arg {t : TypeId} {v : Value} {d : DataW H} {ps : List MemPlace} (hf : (flat P 8 t).isSome = true) (hval : Value.okWide P w .any b0 t v) (h : DataW.Trod enc P w base spare held t v d ps)
    (hw : ∀ m ∈ d.weights P t, m ≤ reachBytes) : ∃ x, ArgOk P t x ∧ VRel (pAll w) [] w x v := by
  obtain ⟨shs, hshs⟩ := Option.isSome_iff_exists.1 hf
  obtain ⟨fuel, h⟩ := h
  obtain ⟨ds, h1, h2, h3⟩ := read_flat 8 t shs fuel _ _ hshs h hw
  refine ⟨topAV P t ds, ⟨shs, ds, hshs, h1, rfl⟩, ?_⟩
  have hf2 := hshs
  unfold flat at hf2
  unfold topAV
  have lone : ∀ s : Sh, shs = [s] → (∀ cs, v ≠ .agg cs) → VRel (pAll w) [] w (hd1 ds) v := by
    rintro s rfl hna
    have hcells : v.cells.toList = [v] := by cases v <;> first | rfl | exact absurd rfl (hna _)
    rw [hcells] at h2 h3
    match ds, h1.1, h3 with
    | [d0], _, h3 => exact (h3 0 d0 v rfl rfl).1
  unfold Value.okWide at hval
  split at hf2
  · rename_i k hu
    injection hf2 with hf2
    rw [hu] at hval ⊢
    exact lone _ hf2.symm (fun cs e => by subst e; simp [Cell.okWide, Cell.ok, hu] at hval)
  · rename_i hu
    injection hf2 with hf2
    rw [hu] at hval ⊢
    exact lone _ hf2.symm (fun cs e => by subst e; simp [Cell.okWide, Cell.ok, hu] at hval)
  · rename_i hu
    injection hf2 with hf2
    rw [hu] at hval ⊢
    exact lone _ hf2.symm (fun cs e => by subst e; simp [Cell.okWide, Cell.ok, hu] at hval)
  · rename_i e hu
    rw [hu] at hval ⊢
    split at hf2
    · split at hf2
      · injection hf2 with hf2
        exact lone _ hf2.symm (fun cs e => by subst e; simp [Cell.okWide, Cell.ok, hu] at hval)
      · simp at hf2
    · simp at hf2
  · rename_i fs hu
    rw [hu] at hval ⊢
    simp only at hval ⊢
    obtain ⟨cs, rfl, hsz, _⟩ := hval
    refine .agg _ cs (by simpa [Value.cells] using h2) (fun i v hv => ?_) (fun i x v hx hv => ?_)
    · have hi := (Array.getElem?_eq_some_iff.1 hv).1
      have hlt : i < ds.length := by rw [← h2]; simpa [Value.cells] using hi
      exact (h3 i ds[i] v (List.getElem?_eq_getElem hlt) (by simpa [Value.cells] using hv)).2
    · rw [List.getElem?_map] at hx
      cases hd : ds[i]? with
      | none => rw [hd] at hx; simp at hx
      | some d0 =>
        rw [hd] at hx
        simp at hx
        subst hx
        exact (h3 i d0 v hd (by simpa [Value.cells] using hv)).1
  · simp at hf2
theorem open_args : ∀ (ts : List TypeId) (vs : List Value) (ds : List (DataW H)) (ps : List MemPlace), (ts.all fun t => (flat P 8 t).isSome) = true → (∀ (j : Nat) (t : TypeId) (v : Value), ts[j]? = some t → vs[j]? = some v → Value.okWide P w .any b0 t v) →
    DataW.TrodAll enc P w base spare held ts vs ds ps → (∀ m ∈ DataW.weightsEach P ts ds, m ≤ reachBytes) →
    ∃ xs : List AV, ArgsOk P ts xs ∧ vs.length = xs.length ∧ ∀ (i : Nat) (x : AV) (v : Value), xs[i]? = some x → vs[i]? = some v → VRel (pAll w) [] w x v := by
  intro ts
  induction ts with
  | nil =>
    intro vs ds ps _ _ h _
    cases vs with
    | nil => exact ⟨[], trivial, rfl, fun i x v hx => by simp at hx⟩
    | cons v vs => cases ds <;> exact h.elim
  | cons t ts ih =>
    intro vs ds ps hf hval h hw
    cases vs with
    | nil => cases ds <;> exact h.elim
    | cons v vs =>
      cases ds with
      | nil => exact h.elim
      | cons d ds =>
        obtain ⟨p, q, h1, h2, _⟩ := h
        simp only [List.all_cons, Bool.and_eq_true] at hf
        simp only [DataW.weightsEach, List.mem_append] at hw
        obtain ⟨x, x1, x2⟩ := open_arg hf.1 (hval 0 t v rfl rfl) h1 (fun m hm => hw m (.inl hm))
        obtain ⟨xs, y1, y2, y3⟩ := ih vs ds q hf.2 (fun j t v h1 h2 => hval (j + 1) t v (by simpa using h1) (by simpa using h2)) h2 (fun m hm => hw m (.inr hm))
        refine ⟨x :: xs, ⟨x1, y1⟩, by simp [y2], fun i z u hz hu => ?_⟩
        cases i with
        | zero => simp at hz hu; subst hz hu; exact x2
        | succ i => exact y3 i z u (by simpa using hz) (by simpa using hu)
theorem trodAll_stays (hl : laidOutB P = true) {W W' : World} (hb : Below W.heap.size W W') : ∀ (ts : List TypeId) (vs : List Value) (ds : List (DataW H)) (ps : List MemPlace), (ts.all fun t => P.readableRec t && decide (t < P.types.size)) = true →
    DataW.TrodAll enc P W 0 (fun _ => true) true ts vs ds ps → (∀ x ∈ ps, x.block < W.heap.size) → DataW.TrodAll enc P W' 0 (fun b => decide (b < W.heap.size)) true ts vs ds ps := by
  intro ts
  induction ts with
  | nil =>
    intro vs ds ps _ h _
    cases vs with
    | nil => cases ds with
      | nil => exact h
      | cons d ds => exact h.elim
    | cons v vs => cases ds <;> exact h.elim
  | cons t ts ih =>
    intro vs ds ps ht h hlt
    cases vs with
    | nil => cases ds <;> exact h.elim
    | cons v vs =>
      cases ds with
      | nil => exact h.elim
      | cons d ds =>
        obtain ⟨p, q, h1, h2, rfl⟩ := h
        simp only [List.all_cons, Bool.and_eq_true, decide_eq_true_eq] at ht
        exact ⟨p, q, Below.trod hl ht.1.1 ht.1.2 h1 hb (fun x hx => hlt x (by simp [hx])), ih vs ds q ht.2 h2 (fun x hx => hlt x (by simp [hx])), rfl⟩
theorem weightsEach_left (us : List TypeId) (gs : List (DataW H)) : ∀ (ts : List TypeId) (ds : List (DataW H)), ts.length = ds.length → ∀ m ∈ DataW.weightsEach P ts ds, m ∈ DataW.weightsEach P (ts ++ us) (ds ++ gs) := by
  intro ts
  induction ts with
  | nil => intro ds hl m hm; cases ds <;> simp [DataW.weightsEach] at hm
  | cons t ts ih =>
    intro ds hl m hm
    cases ds with
    | nil => simp at hl
    | cons d ds =>
      simp only [List.cons_append, DataW.weightsEach, List.mem_append] at hm ⊢
      rcases hm with hm | hm
      · exact .inl hm
      · exact .inr (ih ds (by simpa using hl) m hm)
theorem Fn_calls {f : FuncId} {xs : List AV} (h : Fn P f xs (.d (.bool true))) {vs : Array Value} {W : World} (hs : vs.size = xs.length) (hv : ∀ (i : Nat) (x : AV) (v : Value), xs[i]? = some x → vs[i]? = some v → VRel (pAll W) [] W x v) (hG : GlobW W) :
    Calls P f vs W fun e W' => e = .returned (.bool true) ∧ Below W.heap.size W W' := by
  unfold Fn at h
  rw [Tri_eq] at h
  have hH : HRel (pAll W) [] [] W := ⟨rfl, fun b hb => hb, fun i k hk => by simp at hk, fun i j r k l hk => by simp at hk, fun w' hw _ => GlobW_st hG hw⟩
  refine (h.2 (pAll W) [] W vs hH hs hv).mono ?_
  rintro e W' ⟨v, x, p', σ', H', rfl, he, _, _, hx, rfl, _⟩
  cases hx
  obtain ⟨s1, s2, s3, s4, s5⟩ := he.shape
  exact ⟨rfl, s3, s4, s5, s1, fun k hk => he.same k hk (fun h => h)⟩
theorem trodAll_len : ∀ (ts : List TypeId) (vs : List Value) (ds : List (DataW H)) (ps : List MemPlace), DataW.TrodAll enc P w base spare held ts vs ds ps → ts.length = ds.length ∧ vs.length = ds.length := by
  intro ts
  induction ts with
  | nil =>
    intro vs ds ps h
    cases vs with
    | nil => cases ds with
      | nil => exact ⟨rfl, rfl⟩
      | cons d ds => exact h.elim
    | cons v vs => cases ds <;> exact h.elim
  | cons t ts ih =>
    intro vs ds ps h
    cases vs with
    | nil => cases ds <;> exact h.elim
    | cons v vs =>
      cases ds with
      | nil => exact h.elim
      | cons d ds =>
        obtain ⟨p, q, _, h2, _⟩ := h
        obtain ⟨a, b⟩ := ih vs ds q h2
        exact ⟨by simp [a], by simp [b]⟩
theorem law_contract {fn : Func} {f : FuncId} {s : ChangeSpec} (hl : laidOutB P = true) (hrd : (fn.params.toList.all fun t => P.readableRec t && decide (t < P.types.size)) = true) (hfl : (fn.params.toList.all fun t => (flat P 8 t).isSome) = true)
    {tb : TypeId} (hres : fn.resultTypes = #[tb]) (hb : P.underlying tb = some .bool) (hvars : s.vars = [])
    (hs : ∀ ds : List (DataW H), ds.length = fn.params.toList.length → s.fn H ds = { results := [.lit (.bool true)], args := ds })
    (law : ∀ xs : List AV, ArgsOk P fn.params.toList xs → Fn P f xs (.d (.bool true))) {W : World} {base : Nat} {args : Array Value} {ds gs : List (DataW H)} {before : List MemPlace} {us : List TypeId}
    (hval : ∀ (j : Nat) t v, fn.params[j]? = some t → args[j]? = some v → Value.okWide P W .any base t v)
    (hG : GlobW W) (hW : DataW.Whole enc P fn.params.toList s.vars false W args.toList ds gs before)
    (hw : (DataW.weightsEach P (fn.params.toList ++ us) (ds ++ gs)).all (· ≤ reachBytes) = true) :
    Calls P f args W fun e W' => ∃ v, e = .returned v ∧ s.post enc P fn false true false false W args v W' := by
  have hW' := hW
  obtain ⟨p, q, hA, hV, rfl, hfz, _⟩ := hW
  rw [hvars] at hV
  obtain ⟨rfl, rfl⟩ : gs = [] ∧ q = [] := by
    cases gs with
    | nil => exact ⟨rfl, hV⟩
    | cons g r => exact absurd hV (by intro h; cases h)
  obtain ⟨l1, l2⟩ := trodAll_len _ _ _ _ hA
  simp only [List.append_nil] at hw hW' hfz
  have hww : ∀ m ∈ DataW.weightsEach P fn.params.toList ds, m ≤ reachBytes := fun m hm => by
    have h1 := weightsEach_left (P := P) us ([] : List (DataW H)) fn.params.toList ds l1 m hm
    rw [List.append_nil] at h1
    simpa using List.all_eq_true.1 hw m h1
  obtain ⟨xs, x1, x2, x3⟩ := open_args fn.params.toList args.toList ds p hfl (fun j t v h1 h2 => hval j t v (by simpa using h1) (by simpa using h2)) hA hww
  refine (Fn_calls (law xs x1) (vs := args) (W := W) (by simpa using x2) (fun i x v hx hv => x3 i x v hx (by simpa using hv)) hG).mono ?_
  rintro e W' ⟨rfl, hbw⟩
  have hlt : ∀ x ∈ p, x.block < W.heap.size := fun x hx => hW'.lt x hx
  have hsp := hs ds (by rw [l1])
  refine ⟨_, rfl, ds, [], p, [], p, [], hW', ?_, ?_, ?_, hbw.frame _, fun h => by cases h⟩
  · rw [List.append_nil, hsp, hres]
    exact trodAll_mk1 (shut_bool hb true)
  · rw [List.append_nil, hsp]
    exact trodAll_stays hl hbw _ _ _ _ hrd hA hlt
  · rw [List.append_nil, hsp, hvars]
    rfl
end
end Go.Eng
set_option linter.unusedVariables false
namespace Go.Eng
open Go
variable {H : Type} {enc : TypeId × Value → H}
theorem returnsInHanded_andS {a : Assume} {C : Checked} {os : Os} {f : FuncId} {fn : Func} {s : ChangeSpec} {conds : List PathCond} {apart fresh handsOn again : Bool} {X : World → Array Value → Prop}
    (hX : ∀ (w w' : World) (args : Array Value), w.heap = w'.heap → X w args → X w' args)
    (own : ownKnob C.prog.godebug = none) (started : os.Started) (noInit : C.prog.inits.idxOf? f = none) (hfn : C.prog.funcs[f]? = some fn)
    (witness : ∃ (w : World) (tape : Tape) (i : Input), w.os = os ∧ (w.forCall tape i).Shaped C.prog ∧ i.vars = [] ∧ Input.okWide C.prog (w.forCall tape i) .any w.heap.size f i ∧
      ((s.pre enc C.prog fn conds apart (w.forCall tape i).memory i.args ∧ X (w.forCall tape i).memory i.args) ∧ sizedMet enc C.prog fn (OpenSpec.ofChange s) apart (w.forCall tape i).memory i.args) ∧ a.holds C.prog (lone (Frame.enter C.prog f i.args .normal) [] (w.forCall tape i)))
    (contract : ∀ (W : World) (base : Nat) (args : Array Value) (ds gs : List (DataW H)) (before : List MemPlace),
      (∀ (j : Nat) t v, fn.params[j]? = some t → args[j]? = some v → Value.okWide C.prog W .any base t v) →
      DataW.Whole enc C.prog fn.params.toList s.vars apart W args.toList ds gs before →
      (DataW.weightsEach C.prog (fn.params.toList ++ s.plain.varTypes C.prog) (ds ++ gs)).all (· ≤ reachBytes) = true → X W args → W.ShapedOpen C.prog →
      Calls C.prog f args W fun e W' => ∃ v, e = .returned v ∧ s.post enc C.prog fn apart fresh handsOn again W args v W') :
    ReturnsInHanded a C os f .any (fun w args => (s.pre enc C.prog fn conds apart w args ∧ X w args) ∧ sizedMet enc C.prog fn (OpenSpec.ofChange s) apart w args) (s.post enc C.prog fn apart fresh handsOn again) := by
  refine returnsInHanded_of_calls own started noInit witness ?_
  intro w tape i _ hsh _ hok hpre hholds
  obtain ⟨_, _, _, fn', hfn', _, _, _, _, hval⟩ := hok
  have e : fn' = fn := Option.some.inj (hfn'.symm.trans hfn)
  subst e
  obtain ⟨⟨⟨ds, gs, before, hw, hc⟩, hx⟩, hz⟩ := hpre
  have hw' := DataW.Whole.of_heap (w' := w.forCall tape i) (by rfl) hw
  refine (contract (w.forCall tape i) w.heap.size i.args ds gs before hval hw' (hz.weights hw) (hX _ _ _ (by rfl) hx) hsh).mono fun e W' ⟨v, he, hp⟩ => ?_
  subst he
  exact ChangeSpec.post_blind hp
end Go.Eng
set_option linter.unusedVariables false
set_option linter.unusedSimpArgs false
namespace Go.Eng
open Go
def FVs (g F : List Nat) (H : Heap) : List AV → List AV → Prop
  | [], [] => True
  | x :: xs, y :: ys => FV g F H x y ∧ FVs g F H xs ys
  | _, _ => False
theorem FVs_get {g F : List Nat} {H : Heap} : ∀ {xs ys : List AV}, FVs g F H xs ys → xs.length = ys.length ∧ ∀ (i : Nat) (x y : AV), xs[i]? = some x → ys[i]? = some y → FV g F H x y := by
  intro xs
  induction xs with
  | nil =>
    intro ys h
    cases ys with
    | nil => exact ⟨rfl, fun i x y h => by simp at h⟩
    | cons => exact h.elim
  | cons a t ih =>
    intro ys h
    cases ys with
    | nil => exact h.elim
    | cons b u =>
      obtain ⟨h1, h2⟩ := h
      obtain ⟨g1, g2⟩ := ih h2
      refine ⟨by simp [g1], fun i x y hx hy => ?_⟩
      cases i with
      | zero => simp at hx hy; subst hx hy; exact h1
      | succ i => exact g2 i x y (by simpa using hx) (by simpa using hy)
theorem FV_aggs {g F : List Nat} {H : Heap} {xs ys : List AV} (h : FVs g F H xs ys) : FV g F H (.agg xs) (.agg ys) := .agg xs ys (FVs_get h).1 (FVs_get h).2
theorem FV_tups {g F : List Nat} {H : Heap} {xs ys : List AV} (h : FVs g F H xs ys) : FV g F H (.tup xs) (.tup ys) := .tup xs ys (FVs_get h).1 (FVs_get h).2
theorem FB_rows {g F : List Nat} {H : Heap} {xs ys : List AV} (h : FVs g F H xs ys) : FB g F H (.row xs) (.row ys) := .row xs ys (Nat.le_of_eq (FVs_get h).1.symm) (FVs_get h).2
theorem FV_accF {g F : List Nat} {H : Heap} {b sz : Nat} (rows : List (List D)) (hF : b ∈ F) (hb : H[b]? = some (AccB rows)) (hs : ∀ r ∈ rows, r.length = sz) : FV g F H (AccV b sz rows) (.d (.sl rows)) := by
  by_cases hr : rows = []
  · subst hr; rw [AccV_nil]; exact .nsl
  · rw [AccV_cons hr]
    rw [AccB_cons hr] at hb
    have hfl : rows.flatten.length = rows.length * sz := flatten_len rows hs
    refine .frz b 0 _ _ _ (rows.flatten.map .d) rows hF (by unfold rowOf; rw [hb]) rfl hs (by rw [List.length_map, hfl]; omega) fun i x y _ hx hy => ?_
    rw [Nat.zero_add, List.getElem?_map, hy] at hx
    simp at hx
    subst hx
    exact .same _ rfl
end Go.Eng
set_option linter.unusedVariables false
set_option linter.unusedSimpArgs false
namespace Go.Eng
open Go Go.RowKit
end Go.Eng
set_option maxRecDepth 100000
set_option linter.unusedVariables false
set_option linter.unusedSimpArgs false
namespace Go.Eng
open Go Go.Proofs
def cap2 (cs0 : List AV) : Prop := cs0 = [.ptr 0 0, .ptr 1 0] ∨ cs0 = [.ptr 1 0, .ptr 0 0]
def seqH2 (x y : D) (v : AV) : Heap := [none, none, some (.row [v]), some .dfr]
theorem plain_ints {l : List Int} : ∀ (k : Nat) (x : AV), (l.map AV.i)[k]? = some x → plain x = true := by
  intro k x hx
  rw [List.getElem?_map] at hx
  cases h : l[k]? with
  | none => rw [h] at hx; simp at hx
  | some c => rw [h] at hx; simp at hx; subst hx; rfl
theorem appendSeq_int (f : FuncId) (cs0 : List AV) (x y : D) (l : List Int) (hcs : cap2 cs0) (hs : Seq2 f cs0 x y (l.map AV.i)) (hl : l.length ≤ 10000) :
    Tri Tryz.prog 313 [.nsl, .clos (.func f) [] cs0] [some (.row [.d x]), some (.row [.d y])] fun v H => v = .d (ints l) ∧ H = [none, none] := by
  refine Tri_of (m := 2) tt_ok Tryz.func313 rfl (by decide) Tryz.ntmps313 (by rfl) rfl ?_
  have hcs1 : cs0 = renL (gOf [0, 1]) cs0 := by rcases hcs with rfl | rfl <;> rfl
  have hcs2 : lowL 2 cs0 = true := by rcases hcs with rfl | rfl <;> rfl
  conv => whnf
  refine W_rangeA [0, 1] (fs0 := []) (cs0 := cs0) (H0 := [some (.row [.d x]), some (.row [.d y])]) (l.map AV.i)
    (fun k H => (k = 0 ∧ H = seqH2 x y .nsl) ∨ (0 < k ∧ H = seqH2 x y (AccV 4 1 ((l.take k).map intCs)) ++ [AccB ((l.take k).map intCs)]))
    (fun _ _ => False) rfl rfl rfl
    (by repeat (first | exact trivial | refine ⟨⟨rfl, rfl⟩, ?_⟩)) rfl hcs1 rfl hcs2 (by decide) (by decide) AsgOk_in rfl plain_ints ?_ (.inl ⟨rfl, rfl⟩) ?_ ?_ ?_
  · intro Y hx hY
    exact hs Y hx hY
  · rintro lp k z H' hx hH hlen hY
    obtain ⟨c, hc, rfl⟩ : ∃ c, l[k]? = some c ∧ z = .i c := by
      rw [List.getElem?_map] at hx
      cases h : l[k]? with
      | none => rw [h] at hx; simp at hx
      | some c => rw [h] at hx; simp at hx; exact ⟨c, rfl, hx.symm⟩
    have hlt : k < l.length := (List.getElem?_eq_some_iff.1 hc).1
    have hce : l[k] = c := (List.getElem?_eq_some_iff.1 hc).2
    have htk : (l.take (k + 1)).map intCs = (l.take k).map intCs ++ [intCs c] := by rw [List.take_succ_eq_append_getElem hlt, hce]; simp
    have hrl : ((l.take k).map intCs).length = k := by simp; omega
    refine W_padH (H2 := seqH2 x y (AccV 4 1 ((l.take k).map intCs)) ++ [AccB ((l.take k).map intCs)]) ?_ ?_
    · rcases hH with ⟨rfl, rfl⟩ | ⟨_, rfl⟩
      · exact .inr (by rw [List.take_zero, List.map_nil, AccV_nil, AccB_nil])
      · exact .inl rfl
    have hr1 : ∀ r ∈ (l.take k).map intCs, r.length = 1 := cs1
    generalize hrw : (l.take k).map intCs = rows at *
    refine W_run tt_ok ?_
    have ha := Acc_app (b := 4) (sz := 1) (rows := rows) (new := [intCs c]) (by simp)
    repeat' ((conv => whnf); (first
     | (refine force_in ?_)))
    refine Ch_r ?_
    conv => whnf
    refine App_acc rows [intCs c] rfl rfl rfl rfl (by simp) hr1 (by intro r hr; simp at hr; subst hr; rfl) (by rw [hrl]; simp only [List.length_cons, List.length_nil]; omega) (Nat.le_of_ble_eq_true rfl) ?_
    skip
    conv => whnf
    refine Rd_next (seqH2 x y (.msl 4 0 (rows.length + 1) (rows.length + 1) 1) ++ [some (.row ((rows ++ [intCs c]).flatten.map .d))]) (Wk_ren [0, 1, 2, 3, 5] rfl rfl (by refine ⟨⟨rfl, rfl⟩, ⟨rfl, rfl⟩, ⟨by rw [renB_row]; rfl, lowB_row _ _⟩, trivial⟩) (by repeat (first | exact trivial | refine ⟨⟨rfl, rfl⟩, ?_⟩)) (by show 4 ≤ 5; decide) (by show ∀ i, i < 4 → gOf [0, 1, 2, 3, 5] i = i; decide)) rfl (by simp [seqH2]) (.inr ⟨by omega, ?_⟩)
    rw [htk, ha.1, ha.2]
    rfl
  · rintro H' hH hlen hY
    rw [List.length_map] at hH
    rw [List.take_length] at hH
    rcases hH with ⟨h0, rfl⟩ | ⟨h0, rfl⟩
    · have hnl : l = [] := List.eq_nil_of_length_eq_zero h0
      subst hnl
      repeat' ((conv => whnf); (first
       | (refine finW (v' := .d (ints [])) (H' := [none, none]) (Fin_fz [0, 1] [] rfl rfl rfl trivial .nsl (by decide) (by decide)) ⟨rfl, rfl⟩)))
    · have hne : l.map intCs ≠ [] := by intro e; have := congrArg List.length e; rw [List.length_map] at this; simp at this; subst this; simp at h0
      rw [AccV_cons hne, AccB_cons hne]
      repeat' ((conv => whnf); (first
       | (refine finW (v' := .d (ints l)) (H' := [none, none]) (Fin_fz [0, 1] [4] rfl rfl rfl trivial (FV_tab _ rfl rfl rfl cs1) (by decide) (by decide)) ⟨rfl, rfl⟩)))
  · intro e H' c _ h
    exact h.elim
end Go.Eng
set_option linter.unusedVariables false
set_option linter.unusedSimpArgs false
namespace Go.Eng
open Go
section
variable {P : Program} {b : Frame} {a : Act} {k : List Item} {cs : List Frame} {w : World} {n : Nat}
theorem stepR_scope {c : Code} : step P (lone (b.atR a (.code (.scope c) :: k)) cs w) = .next (lone (b.atR a (.code c :: .inScope c :: k)) cs w) :=
  step_lone_go (by simp [stepG, stepG.exec, Frame.atR])
theorem stepR_inScope {c : Code} : step P (lone (b.atR a (.inScope c :: k)) cs w) = .next (lone (b.atR a k) cs w) :=
  step_lone_go (by simp [stepG, stepG.exec, Frame.atR])
def jumpX (l : Nat) (J : Act → World → Prop) (Q : Exit → Act → World → Prop) : Exit → Act → World → Prop
  | .goto l', a, w => l' = l ∧ J a w
  | .normal, a, w => Q .normal a w
  | .exit i, a, w => Q (.exit i) a w
  | .ret, a, w => Q .ret a w
  | .panic c, a, w => Q (.panic c) a w
  | .outgrown, a, w => Q .outgrown a w
theorem wpIn_scope_ix {F : Fence} {c rest : Code} {Q : Exit → Act → World → Prop} (l : Nat) (R : Nat → Act → World → Prop) (hf : findLabel c l = some rest)
    (first : c.wpIn F n P (jumpX l (fun a' w' => ∃ j, R j a' w') Q) a w)
    (pass : ∀ j a w, R j a w → rest.wpIn F n P (jumpX l (fun a' w' => ∃ j', R j' a' w' ∧ j' < j) Q) a w) : (Code.scope c).wpIn F n P Q a w := by
  intro b k cs hro hb hr
  have hg : gotoIn l (.inScope c :: k) = some (.code rest :: .inScope c :: k) := by simp [gotoIn, hf]
  have key : ∀ (j : Nat) a w, R j a w →
      ∃ e a' w', Q e a' w' ∧ ArrivesIn (Machine.fenced P F) P (lone (b.atR a (.code rest :: .inScope c :: k)) cs w) b k cs e a' w' := by
    intro j
    induction j using Nat.strongRecOn with
    | _ j ih =>
      intro a w hI
      obtain ⟨e, a₁, w₁, hq, harr⟩ := pass j a w hI b (.inScope c :: k) cs hro hb hr
      cases e with
      | normal => exact ⟨.normal, a₁, w₁, hq, StepsIn.trans harr (.one (fenced_calm hb hr rfl) stepR_inScope)⟩
      | goto l' =>
        obtain ⟨rfl, j', hI', hlt⟩ := hq
        obtain ⟨e₂, a₂, w₂, hq₂, harr₂⟩ := ih j' hlt a₁ w₁ hI'
        exact ⟨e₂, a₂, w₂, hq₂, .of_steps (harr.1 _ hg) harr₂⟩
      | exit id => exact ⟨_, a₁, w₁, hq, ⟨fun k' hk => harr.1 k' (by simp [exitTo, hk]), fun hr hk => harr.2 hr (by simp [exitTo, hk])⟩⟩
      | ret => exact ⟨_, a₁, w₁, hq, harr⟩
      | panic ch => exact ⟨_, a₁, w₁, hq, harr⟩
      | outgrown => exact ⟨_, a₁, w₁, hq, harr⟩
  obtain ⟨e, a₁, w₁, hq, harr⟩ := first b (.inScope c :: k) cs hro hb hr
  have h0 := stepR_scope (P := P) (b := b) (a := a) (k := k) (cs := cs) (w := w) (c := c)
  cases e with
  | normal => exact ⟨.normal, a₁, w₁, hq, StepsIn.trans (.one (fenced_calm hb hr rfl) h0) (StepsIn.trans harr (.one (fenced_calm hb hr rfl) stepR_inScope))⟩
  | goto l' =>
    obtain ⟨rfl, j', hI'⟩ := hq
    obtain ⟨e₂, a₂, w₂, hq₂, harr₂⟩ := key j' a₁ w₁ hI'
    exact ⟨e₂, a₂, w₂, hq₂, .of_steps (StepsIn.trans (.one (fenced_calm hb hr rfl) h0) (harr.1 _ hg)) harr₂⟩
  | exit id => exact ⟨_, a₁, w₁, hq, .of_steps (.one (fenced_calm hb hr rfl) h0) ⟨fun k' hk => harr.1 k' (by simp [exitTo, hk]), fun hr hk => harr.2 hr (by simp [exitTo, hk])⟩⟩
  | ret => exact ⟨_, a₁, w₁, hq, .of_steps (.one (fenced_calm hb hr rfl) h0) harr⟩
  | panic ch => exact ⟨_, a₁, w₁, hq, .of_steps (.one (fenced_calm hb hr rfl) h0) harr⟩
  | outgrown => exact ⟨_, a₁, w₁, hq, .of_steps (.one (fenced_calm hb hr rfl) h0) harr⟩
end
section
variable {P : Program} {ro : Option Nat} {s : St}
def jumpQ (l : Nat) (J : St → Prop) (Q : AEx → St → Prop) (e : AEx) (s' : St) : Prop :=
  match e with
  | .goto l' => match Nat.beq l' l with
    | true => J s'
    | false => False
  | .normal => Q .normal s'
  | .exit i => Q (.exit i) s'
  | .ret => Q .ret s'
structure Jump (I : Nat → St → Prop) (s : St) : Prop where
  out : ∃ s3 k', Wk s s3 ∧ I k' s3
theorem Jump_in {I : Nat → St → Prop} {s : St} (s3 : St) (k' : Nat) (h1 : I k' s3) (h3 : Wk s s3) : Jump I s := ⟨s3, k', h3, h1⟩
theorem W_scope {c rest : Code} {Q : AEx → St → Prop} (l : Nat) (I : Nat → St → Prop) (hf : findLabel c l = some rest) (first : W P ro c (jumpQ l (fun s2 => Jump I s2) Q) s)
    (pass : ∀ k s1, I k s1 → W P ro rest (jumpQ l (fun s2 => Back I k s2) Q) s1) : W P ro (.scope c) Q s := by
  rw [W_eq]
  intro p σ a w hR
  rw [W_eq] at first
  have step : ∀ (s0 : St) (p1 : PQ) (σ1 : List Nat) (w1 : World) (J : St → Prop) (R : Act → World → Prop) (e : Exit) (a' : Act) (w' : World), s0.m = s.m → s0.n = s.n → Ext p w p1 w1 → (∀ i, i < s.m → σ1[i]? = σ[i]?) →
      (∀ s2, J s2 → s2.m = s.m → s2.n = s.n → ∀ p2 σ2, Ext p w p2 w' → (∀ i, i < s.m → σ2[i]? = σ[i]?) → Rel p2 σ2 s2 a' w' → R a' w') →
      Post p1 w1 σ1 s0 (jumpQ l J Q) e a' w' → jumpX l R (Post p w σ s Q) e a' w' := by
    rintro s0 p1 σ1 w1 J R e a' w' hm hn he hσ hJ ⟨ae, p', σ', s', rfl, g2, g3, g4, g5, g6, g7⟩
    have e1 : Ext p w p' w' := he.trans g2
    have e2 : ∀ i, i < s.m → σ'[i]? = σ[i]? := fun i hi => (g3 i (by rw [hm]; exact hi)).trans (hσ i hi)
    cases ae with
    | normal => exact ⟨.normal, p', σ', s', rfl, e1, e2, g4, g5.trans hm, g6.trans hn, g7⟩
    | exit i => exact ⟨.exit i, p', σ', s', rfl, e1, e2, g4, g5.trans hm, g6.trans hn, g7⟩
    | ret => exact ⟨.ret, p', σ', s', rfl, e1, e2, g4, g5.trans hm, g6.trans hn, g7⟩
    | goto l' =>
      have g7' : (match Nat.beq l' l with | true => J s' | false => False) := g7
      split at g7'
      · rename_i hb
        exact ⟨Nat.eq_of_beq_eq_true hb, hJ s' g7' (g5.trans hm) (g6.trans hn) p' σ' e1 e2 g4⟩
      · exact g7'.elim
  refine wpIn_scope_ix l (fun k a1 w1 => ∃ s1 p1 σ1, I k s1 ∧ s1.m = s.m ∧ s1.n = s.n ∧ Ext p w p1 w1 ∧ (∀ i, i < s.m → σ1[i]? = σ[i]?) ∧ Rel p1 σ1 s1 a1 w1) hf ?_ ?_
  · refine wpIn_mono (first p σ a w hR) fun e a' w' h => step s p σ w _ _ e a' w' rfl rfl (.refl p w) (fun _ _ => rfl) ?_ h
    rintro s2 ⟨s3, k', hk, hI⟩ hm hn p2 σ2 e1 e2 hR2
    rw [Wk_eq] at hk
    obtain ⟨k1, k2, k3⟩ := hk
    obtain ⟨p3, σ3, f1, m1, r1⟩ := k3 p2 σ2 a' w' hR2
    exact ⟨k', s3, p3, σ3, hI, k1.trans hm, k2.trans hn, e1.trans f1, fun i hi => (m1 i (by rw [hm]; exact hi)).trans (e2 i hi), r1⟩
  · rintro k a1 w1 ⟨s1, p1, σ1, hI, hm, hn, he, hσ, hR1⟩
    have hp := pass k s1 hI
    rw [W_eq] at hp
    refine wpIn_mono (hp p1 σ1 a1 w1 hR1) fun e a' w' h => step s1 p1 σ1 w1 _ _ e a' w' hm hn he hσ ?_ h
    rintro s2 hb hm hn p2 σ2 e1 e2 hR2
    rw [Back_eq] at hb
    obtain ⟨s3, k', hk, hI', hlt⟩ := hb
    rw [Wk_eq] at hk
    obtain ⟨k1, k2, k3⟩ := hk
    obtain ⟨p3, σ3, f1, m1, r1⟩ := k3 p2 σ2 a' w' hR2
    exact ⟨k', ⟨s3, p3, σ3, hI', k1.trans hm, k2.trans hn, e1.trans f1, fun i hi => (m1 i (by rw [hm]; exact hi)).trans (e2 i hi), r1⟩, hlt⟩
end
end Go.Eng
namespace Go.Eng
theorem hi_sh {t : Tree} {n : Int} (hm : mayB t = true) (hn : isN t n = true) (hk : (nd t n).kind = 3) : hi (nd t n) = (nd t n).host ∧ isN t (nd t n).host = true ∧ (nd t n).parent = -1 := by
  obtain ⟨_, h2, h3, _⟩ := (may_ok hm hn).sh hk
  have := nd_pos h3
  refine ⟨?_, h3, h2⟩
  unfold hi; rw [if_pos (by omega)]
theorem hi_ns {t : Tree} {n : Int} (hm : mayB t = true) (hn : isN t n = true) (hk : (nd t n).kind ≠ 3) : hi (nd t n) = (nd t n).parent ∧ (nd t n).host = -1 := by
  have h1 := (may_ok hm hn).nh hk
  refine ⟨?_, h1⟩
  have := may_par hm hn
  unfold hi
  rcases this with h | h
  · rw [h, h1]; rfl
  · have := nd_pos h; rw [if_neg (by omega)]
theorem parUp_stable {t : Tree} (hm : mayB t = true) : ∀ (f g : Nat) (n : Int), okN t n → endsF t f n = true → endsF t g n = true → parUp t f n = parUp t g n := by
  intro f
  induction f with
  | zero => intro g n _ h; simp [endsF] at h
  | succ f ih =>
    intro g n hn h1 h2
    obtain ⟨g, rfl⟩ := ends_neg h2
    simp only [parUp]
    by_cases hne : n = -1
    · rw [if_pos hne, if_pos hne]
    · have hn' := hn.resolve_left hne
      rw [if_neg hne, if_neg hne, ih g _ (may_par hm hn') (ends_par hm h1 hn') (ends_par hm h2 hn')]
theorem parUp_one {t : Tree} {f : Nat} {n : Int} (hn : n ≠ -1) (hp : (nd t n).parent = -1) (hf : 0 < f) : parUp t (f + 1) n = [n] := by
  obtain ⟨f, rfl⟩ := Nat.exists_eq_succ_of_ne_zero (by omega : f ≠ 0)
  simp [parUp, hn, hp]
theorem climb_split {t : Tree} (hm : mayB t = true) : ∀ (f : Nat) (n : Int), isN t n = true → endsF t f n = true →
    ∃ f', f' < f ∧ endsF t f' (nd t ((parUp t f n).getLast?.getD (-1))).host = true ∧ climb t f n = parUp t f n ++ climb t f' (nd t ((parUp t f n).getLast?.getD (-1))).host := by
  intro f
  induction f with
  | zero => intro n _ h; simp [endsF] at h
  | succ f ih =>
    intro n hn h
    have h0 := nd_pos hn
    have hne : n ≠ -1 := by omega
    have hu := ends_up h hne
    obtain ⟨f0, hf0⟩ := ends_neg hu
    by_cases hk : (nd t n).kind = 3
    · obtain ⟨g1, g2, g3⟩ := hi_sh hm hn hk
      have hp := parUp_one (t := t) (f := f) hne g3 (by omega)
      refine ⟨f, by omega, ?_, ?_⟩
      · rw [hp]; unfold upN at hu; rw [if_pos hk] at hu; simpa using hu
      · rw [hp]; simp only [climb, if_neg hne, g1]; simp
    · obtain ⟨g1, g2⟩ := hi_ns hm hn hk
      unfold upN at hu
      rw [if_neg hk] at hu
      rcases may_par hm hn with h3 | h3
      · have hp := parUp_one (t := t) (f := f) hne h3 (by omega)
        refine ⟨f, by omega, ?_, ?_⟩
        · rw [hp]; simp only [List.getLast?_singleton, Option.getD_some, g2]; subst hf0; exact ends_none t f0
        · rw [hp]; simp only [climb, if_neg hne, g1, h3, List.getLast?_singleton, Option.getD_some, g2]; simp
      · obtain ⟨f', k1, k2, k3⟩ := ih _ h3 hu
        subst hf0
        have hpn := parUp_ne (t := t) (f := f0) (n := (nd t n).parent) (by have := nd_pos h3; omega)
        have e : (parUp t (f0 + 1 + 1) n).getLast?.getD (-1) = (parUp t (f0 + 1) (nd t n).parent).getLast?.getD (-1) := by
          rw [show parUp t (f0 + 1 + 1) n = n :: parUp t (f0 + 1) (nd t n).parent by simp [parUp, hne]]
          rw [List.getLast?_cons, List.getLast?_eq_some_getLast hpn]
          simp
        refine ⟨f', by omega, by rw [e]; exact k2, ?_⟩
        rw [e]
        rw [show parUp t (f0 + 1 + 1) n = n :: parUp t (f0 + 1) (nd t n).parent by simp [parUp, hne]]
        rw [show climb t (f0 + 1 + 1) n = n :: climb t (f0 + 1) (hi (nd t n)) by simp [climb, hne], g1, k3]
        rfl
theorem climb_turn {t : Tree} {n : Int} {f : Nat} (ha : allOk t n = true) (h : endsF t f n = true) :
    ∃ f', f' < f ∧ endsF t f' (hostR t n) = true ∧ climb t f n = upR t n ++ climb t f' (hostR t n) := by
  have ha' := ha
  unfold allOk at ha'
  simp only [Bool.and_eq_true] at ha'
  obtain ⟨hm, hn⟩ := ha'
  obtain ⟨f', h1, h2, h3⟩ := climb_split hm f n hn h
  have e : parUp t f n = upR t n := by unfold upR; rw [if_pos ha]; exact parUp_stable hm _ _ _ (.inr hn) h (may_ends hm hn)
  rw [e] at h2 h3
  have e2 : (nd t ((upR t n).getLast?.getD (-1))).host = hostR t n := by unfold hostR topR; rw [if_pos ha]
  rw [e2] at h2 h3
  exact ⟨f', h1, h2, h3⟩
theorem hostR_ok {t : Tree} {n : Int} (ha : allOk t n = true) : hostR t n = -1 ∨ allOk t (hostR t n) = true := by
  have ha' := ha
  unfold allOk at ha'
  simp only [Bool.and_eq_true] at ha'
  have hT := topR_isN ha
  unfold hostR
  rw [if_pos ha]
  by_cases hk : (nd t (topR t n)).kind = 3
  · obtain ⟨_, _, h3, _⟩ := (may_ok ha'.1 hT).sh hk
    right; unfold allOk; rw [ha'.1, h3]; rfl
  · left; exact (may_ok ha'.1 hT).nh hk
theorem climb_none (t : Tree) (f : Nat) : climb t f (-1) = [] := by cases f <;> simp [climb]
theorem upR_ne {t : Tree} {n : Int} (ha : allOk t n = true) : upR t n ≠ [] := by
  unfold upR
  rw [if_pos ha]
  unfold allOk at ha
  simp only [Bool.and_eq_true] at ha
  have := nd_pos ha.2
  exact parUp_ne (by omega)
theorem parUp_len (t : Tree) : ∀ (f : Nat) (n : Int), (parUp t f n).length ≤ f := by
  intro f
  induction f with
  | zero => intro n; simp [parUp]
  | succ f ih => intro n; simp only [parUp]; split <;> simp; have := ih (nd t n).parent; omega
theorem upR_len (t : Tree) (n : Int) : (upR t n).length ≤ 65 := by
  unfold upR
  split
  · rename_i h
    unfold allOk at h
    simp only [Bool.and_eq_true] at h
    have := parUp_len t (t.length + 1) n
    have := may_len64 h.1
    omega
  · simp
end Go.Eng
set_option maxRecDepth 100000
set_option linter.unusedVariables false
set_option linter.unusedSimpArgs false
namespace Go.Eng
open Go Go.Proofs
theorem collect_int (f : FuncId) (cs0 : List AV) (x y : D) (l : List Int) (hcs : cap2 cs0) (hs : Seq2 f cs0 x y (l.map AV.i)) (hl : l.length ≤ 10000) :
    Tri Tryz.prog 256 [.clos (.func f) [] cs0] [some (.row [.d x]), some (.row [.d y])] fun v H => v = .d (ints l) ∧ H = [none, none] := by
  refine Tri_of (m := 2) tt_ok Tryz.func256 rfl (by decide) Tryz.ntmps256 (by rfl) rfl ?_
  have h := appendSeq_int f cs0 x y l hcs hs hl
  rcases hcs with rfl | rfl
  · repeat' ((conv => whnf); (first
   | (refine Tri.use h ?_)
   | (refine finQ ⟨rfl, rfl⟩)))
  · repeat' ((conv => whnf); (first
   | (refine Tri.use h ?_)
   | (refine finQ ⟨rfl, rfl⟩)))
theorem order_Up (t : Tree) (n : Int) : Fn Tryz.prog 206 [.d (treeD t), .i n] (.d (ints (upR t n))) := by
  refine Fn_of tt_ok Tryz.func206 rfl (by decide) Tryz.ntmps206 rfl ?_
  have hall : allL t [n] = allOk t n := by simp [allL, allOk]
  have h1 := order_all t [n]
  rw [hall] at h1
  cases ha : allOk t n
  · rw [ha] at h1
    have e : upR t n = [] := by unfold upR; rw [ha]; rfl
    rw [e]
    repeat' ((conv => whnf); (first
     | (refine Ch_r ?_)
     | (refine Fn.use (h1) rfl rfl ?_)
     | (refine finD (F := []) .nsl)))
  · rw [ha] at h1
    have ha' := ha
    unfold allOk at ha'
    simp only [Bool.and_eq_true] at ha'
    have e : upR t n = parUp t (t.length + 1) n := by unfold upR; rw [if_pos ha]
    have hlen := upR_len t n
    rw [e] at hlen ⊢
    have hc := collect_int 209 [.ptr 1 0, .ptr 0 0] (treeD t) (.int .i64 n) _ (.inr rfl) (order_up1 t n ha'.1 ha'.2) (by omega)
    repeat' ((conv => whnf); (first
     | (refine Ch_r ?_)
     | (refine Fn.use (h1) rfl rfl ?_)
     | (refine Tri.call (order_up t n) [] rfl rfl trivial rfl rfl rfl rfl (r := .clos (.func 209) [] [.ptr 1 0, .ptr 0 0]) (H' := [some (.row [.d (treeD t)]), some (.row [.i n])]) rfl rfl ?_)
     | (refine Tri.use hc ?_)
     | (refine fin0 rfl ?_)))
    rfl
end Go.Eng
set_option linter.unusedVariables false
set_option linter.unusedSimpArgs false
namespace Go.Eng
open Go
section
variable {P : Program}
def asgQ (P : Program) (l : Nat) (body : Code) (Q : AEx → St → Prop) (e : AEx) (s : St) : Prop :=
  match e with
  | .normal => NeedK (noY s.H = true) (W P (some l) body Q s)
  | _ => False
theorem asgQ_in {l : Nat} {body : Code} {Q : AEx → St → Prop} {e : AEx} {s : St} (h : asgQ P l body Q e s) : e = .normal ∧ noY s.H = true ∧ W P (some l) body Q s := by
  cases e with
  | normal => obtain ⟨h1, h2⟩ := h; exact ⟨rfl, h1, h2⟩
  | exit i => exact h.elim
  | goto l => exact h.elim
  | ret => exact h.elim
theorem mkYB_law {p0 : PQ} {ρ : Env} {tmps : Array Value} {mb : Nat} {σb : List Nat} {l : Nat} {fn : FuncId} {t : Tmp} {asg : Code} {body : Code} {d : Nat} {xs : List AV} {J : Nat → Heap → Prop} {JZ : AEx → Heap → Prop}
    (ht : t < tmps.size) (hxs : ∀ (k : Nat) (x : AV), xs[k]? = some x → plain x = true)
    (hround : ∀ (k : Nat) (x : AV) (H : Heap), xs[k]? = some x → J k H → mb ≤ H.length → noY H = true → W P (some l) asg (asgQ P l body (RdBack J JZ k tmps.size mb)) ⟨(t, x) :: ρ, tmps.size, H, mb, []⟩) :
    YLaw P (mkYA asg p0 ρ tmps mb σb l fn t body d xs J JZ) := by
  rintro k x vs p σ w ⟨pO, σO, H, hJ, hM⟩ hx hvs hlt hul hll
  obtain ⟨v, rfl, hv⟩ := one_val (plain_one (hxs k x hx)) hvs
  have hul : ¬ p.u l := hul
  have hll : l < w.heap.size := hll
  refine ⟨fn, tmps.setIfInBounds t v, asg, body, ?_, ?_⟩
  · show (Instr.yield l #[v]).run P w = .ok (.round l fn (tmps.setIfInBounds t v) asg body) w
    rw [run_yield hM.lrec (by simp [recOfA])]
    simp [recOfA]
  show RoundIn Fence.wide 0 P l fn (tmps.setIfInBounds t v) asg body w _
  let w2 := w.putObj l (.loop (recOfA asg fn tmps #[t] body d .busy none))
  have hsh2 : Shape w w2 := Shape.putLoop hM.lrec _
  have hlr : ¬ pO.r l := fun h => (hM.back l h).elim (fun h => hul (p.sub l (hM.p0r l h))) fun h => hul (p.fu l h)
  let liveO : Nat → Prop := fun b => ∃ (i : Nat) (q : Blk), H[i]? = some (some q) ∧ σO[i]? = some b
  have hlive : ∀ b, liveO b → p.f b ∧ ¬ pO.u b ∧ b < w.heap.size := fun b ⟨i, q, h1, h2⟩ => by
    obtain ⟨r', g1, g2, g3, _⟩ := hM.heap.blk i q h1
    rw [h2] at g1
    injection g1 with g1
    subst g1
    exact ⟨hM.live i b q h1 h2, g2, g3⟩
  have hll2 : ¬ liveO l := fun h => hul (p.fu l (hlive l h).1)
  have sz2 : w2.heap.size = w.heap.size := by simp [w2]
  have oth2 : ∀ b, b ≠ l → w2.heap[b]? = w.heap[b]? := fun b hb => World.putObj_heap_other hb
  let pR : PQ := ⟨pO.r, fun b => b < w.heap.size ∧ ¬ liveO b, fun _ => False, fun b hb => ⟨hM.heap.lt b (pO.sub b hb), fun h => (hlive b h).2.1 (pO.sub b hb)⟩, fun _ h => h.elim, fun _ h => h.elim⟩
  have hHR : HRel pR σO H w := hM.heap.same hM.noY (fun _ h => h) (fun _ _ => rfl) (.refl w) (fun b hb => hb.1) fun i q r h1 h2 =>
    ⟨fun h => h.2 ⟨i, q, h1, h2⟩, rfl⟩
  have σmono : ∀ (i r : Nat), σb[i]? = some r → σO[i]? = some r := fun i r hi => by
    rw [hM.nam i (by rw [← hM.bl]; exact (List.getElem?_eq_some_iff.1 hi).1)]
    exact hi
  have hRel0 : Rel pR σO ⟨(t, x) :: ρ, tmps.size, H, mb, []⟩ { tmps := tmps.setIfInBounds t v, defers := [] } w := by
    refine ⟨by simp, trivial, fun u => ?_, hHR, hM.len⟩
    simp only [get]
    by_cases hu : t = u
    · subst hu
      rw [Nat.beq_refl]
      simp only [cond_true]
      have : (tmps.setIfInBounds t v).getD t undef = v := by simp [Array.getD_eq_getD_getElem?, ht]
      rw [this]
      exact hv.ofPlain (hxs k x hx)
    · rw [beq_ne hu]
      simp only [cond_false]
      have : (tmps.setIfInBounds t v).getD u undef = tmps.getD u undef := by simp [Array.getD_eq_getD_getElem?, Array.getElem?_setIfInBounds_ne hu]
      rw [this]
      exact (hM.env u).mono' (p := pO) (p' := pR) (fun _ h => h) (fun _ _ => rfl) (.refl w) σmono
  have hpl : pR.u l := ⟨hll, hll2⟩
  have hA := hround k x H hx hJ hM.len hM.noY
  rw [W_eq] at hA
  refine roundIn_of_wpIn trivial (wpIn_mono (F := Fr (some l)) (hA pR σO _ w hRel0) ?_)
  rintro e1 a1 w1 ⟨ae1, p1, σ1, s1, rfl, q2, q3, q4, q5, q6, q7⟩
  obtain ⟨rfl, hY1, hW⟩ := asgQ_in q7
  have hrec1 : w1.heap[l]? = some (.loop (recOfA asg fn tmps #[t] body d .ready none)) := (q2.same l hpl (fun h => h)).trans hM.lrec
  refine ⟨_, run_beginRound hrec1 rfl, ?_⟩
  have hll1 : l < w1.heap.size := (Array.getElem?_eq_some_iff.1 hrec1).1
  let w2b := w1.putObj l (.loop (recOfA asg fn tmps #[t] body d .busy none))
  show body.wpIn (Fr (some l)) 0 P _ _ w2b
  have hsh2b : Shape w1 w2b := Shape.putLoop hrec1 _
  have oth2b : ∀ b, b ≠ l → w2b.heap[b]? = w1.heap[b]? := fun b hb => World.putObj_heap_other hb
  have h1l : ¬ p1.r l := fun h => (q2.back l h).elim hlr fun h => h hpl
  have h1ul : p1.u l := q2.subu l hpl
  have exB : Ext pR w2 p1 w2b := by
    refine ⟨q2.subr, q2.subu, q2.back, q2.subf, q2.backf, fun b hb hf => ?_, ?_⟩
    · by_cases hbl : b = l
      · subst hbl
        rw [show w2b.heap[b]? = some (.loop (recOfA asg fn tmps #[t] body d .busy none)) from World.putObj_heap_same hll1, show w2.heap[b]? = some (.loop (recOfA asg fn tmps #[t] body d .busy none)) from World.putObj_heap_same hll]
      · rw [oth2b b hbl, oth2 b hbl]; exact q2.same b hb hf
    · refine ⟨by rw [sz2]; exact Nat.le_trans q2.shape.1 hsh2b.1, fun r c e fr h => ?_, hsh2b.2.2.1.trans (q2.shape.2.2.1.trans hsh2.2.2.1.symm), hsh2b.2.2.2.1.trans (q2.shape.2.2.2.1.trans hsh2.2.2.2.1.symm), hsh2b.2.2.2.2.trans (q2.shape.2.2.2.2.trans hsh2.2.2.2.2.symm)⟩
      have hrl : r ≠ l := fun e => by
        subst e
        rw [show w2.heap[r]? = some (.loop (recOfA asg fn tmps #[t] body d .busy none)) from World.putObj_heap_same hll] at h
        simp at h
      rw [oth2 r hrl] at h
      obtain ⟨c1, fr1, z1, z2⟩ := q2.shape.2.1 r c e fr h
      exact ⟨c1, fr1, by rw [oth2b r hrl]; exact z1, z2⟩
  have hRel : Rel p1 σ1 s1 a1 w2b := by
    refine ⟨q4.size, q4.df, fun u => (q4.env u).same (fun b hb => oth2b b fun e => h1l (e ▸ hb)) hsh2b, q4.heap.same hY1 (fun _ h => h) (fun b hb => oth2b b fun e => h1l (e ▸ hb)) hsh2b (fun b hb => Nat.lt_of_lt_of_le (q4.heap.lt b hb) hsh2b.1) fun i q r h1 h2 => ?_, q4.m⟩
    obtain ⟨r', z1, z2, _⟩ := q4.heap.blk i q h1
    rw [h2] at z1
    injection z1 with z1
    subst z1
    exact ⟨z2, oth2b r fun e => z2 (e ▸ h1ul)⟩
  rw [W_eq] at hW
  refine wpIn_mono (hW p1 σ1 _ w2b hRel) ?_
  rintro e a' w' ⟨ae, p', σ', s', rfl, g2z, g3z, g4, g5z, g6z, g7⟩
  have g2 : Ext pR w2 p' w' := exB.trans g2z
  have g5 : s'.m = mb := g5z.trans q5
  have g3 : ∀ i, i < mb → σ'[i]? = σO[i]? := fun i hi => (g3z i (by rw [q5]; exact hi)).trans (q3 i hi)
  rw [RdBack_eq] at g7
  obtain ⟨H3, hwk, hY3, hl3, hJ3⟩ := g7
  rw [Wk_eq] at hwk
  obtain ⟨k1, k2, k3⟩ := hwk
  obtain ⟨p2, σ2, e1, m1, r1⟩ := k3 p' σ' a' w' g4
  have hex := g2.trans e1
  have hnam : ∀ i, i < mb → σ2[i]? = σO[i]? := fun i hi => (m1 i (by rw [g5]; exact hi)).trans (g3 i hi)
  have hrec : w'.heap[l]? = some (.loop (recOfA asg fn tmps #[t] body d .busy none)) := (g2.same l hpl (fun h => h)).trans (World.putObj_heap_same hll)
  have hll' : l < w'.heap.size := (Array.getElem?_eq_some_iff.1 hrec).1
  have h2l : ¬ p2.r l := fun h => (hex.back l h).elim hlr fun h => h hpl
  have new : ∀ b, ¬ pR.u b → p.f b ∨ w.heap.size ≤ b := fun b hb => by
    by_cases hlt' : b < w.heap.size
    · by_cases hlv : liveO b
      · exact .inl (hlive b hlv).1
      · exact absurd ⟨hlt', hlv⟩ hb
    · exact .inr (by omega)
  have fin : ∀ (st : LoopState) (pend : Option Code), Mid p0 ρ tmps mb σb l (recOfA asg fn tmps #[t] body d st pend) (grow p w (w'.putObj l (.loop (recOfA asg fn tmps #[t] body d st pend)))) (w'.putObj l (.loop (recOfA asg fn tmps #[t] body d st pend))) p2 σ2 H3 ∧
      (∀ c, c < w.heap.size → ¬ p.f c → c ≠ l → (w'.putObj l (.loop (recOfA asg fn tmps #[t] body d st pend))).heap[c]? = w.heap[c]?) ∧ Shape w (w'.putObj l (.loop (recOfA asg fn tmps #[t] body d st pend))) := fun st pend => by
    have hsh3 : Shape w' (w'.putObj l (.loop (recOfA asg fn tmps #[t] body d st pend))) := Shape.putLoop hrec _
    have oth3 : ∀ b, b ≠ l → (w'.putObj l (.loop (recOfA asg fn tmps #[t] body d st pend))).heap[b]? = w'.heap[b]? := fun b hb => World.putObj_heap_other hb
    have sz3 : (w'.putObj l (.loop (recOfA asg fn tmps #[t] body d st pend))).heap.size = w'.heap.size := by simp
    have rec3 : (w'.putObj l (.loop (recOfA asg fn tmps #[t] body d st pend))).heap[l]? = some (.loop (recOfA asg fn tmps #[t] body d st pend)) := World.putObj_heap_same hll'
    generalize w'.putObj l (.loop (recOfA asg fn tmps #[t] body d st pend)) = w3 at *
    have hshA : Shape w w3 := (hsh2.trans g2.shape).trans hsh3
    have grown : ∀ b, ¬ pR.u b → b < w'.heap.size → (grow p w w3).f b := fun b hb hbl => (new b hb).imp id fun h => ⟨h, by omega, fun hr => by have := hlt b (p.sub b hr); omega⟩
    have rsame : ∀ b, p2.r b → w3.heap[b]? = w'.heap[b]? := fun b hb => oth3 b fun e => h2l (e ▸ hb)
    have osame : ∀ b, pO.r b → w3.heap[b]? = w.heap[b]? := fun b hb => (oth3 b fun e => hlr (e ▸ hb)).trans ((g2.same b (pR.sub b hb) (fun h => h)).trans (oth2 b fun e => hlr (e ▸ hb)))
    have lv : ∀ (i : Nat) (q : Blk) (r : Nat), H3[i]? = some (some q) → σ2[i]? = some r → ¬ p2.u r ∧ r < w'.heap.size := fun i q r h1 h2 => by
      obtain ⟨r', z1, z2, z3, _⟩ := r1.heap.blk i q h1
      rw [h2] at z1
      injection z1 with z1
      subst z1
      exact ⟨z2, z3⟩
    refine ⟨⟨hM.bl, hl3, r1.heap.same hY3 (fun _ h => h) rsame hsh3 (fun b hb => by rw [sz3]; exact r1.heap.lt b hb) fun i q r h1 h2 => ⟨(lv i q r h1 h2).1, oth3 r fun e => (lv i q r h1 h2).1 (e ▸ hex.subu l hpl)⟩, fun i hi => (hnam i hi).trans (hM.nam i hi), hY3,
      fun b hb => hex.subr b (hM.subr b hb), fun b hb => ?_, fun i r q h1 h2 => grown r (fun h => (lv i q r h1 h2).1 (hex.subu r h)) (lv i q r h1 h2).2, hM.p0r, fun u => (hM.env u).mono' (p := pO) (p' := p2) (fun b hb => hex.subr b hb) osame hshA (fun _ _ h => h), rec3⟩, fun c hc hcf hcl => ?_, hshA⟩
    · rcases hex.back b hb with h | h
      · exact (hM.back b h).imp id .inl
      · exact .inr (grown b h (r1.heap.lt b (p2.sub b hb)))
    · exact (oth3 c hcl).trans ((g2.same c ⟨hc, fun h => hcf (hlive c h).1⟩ (fun h => h)).trans (oth2 c hcl))
  cases ae with
  | normal =>
    obtain ⟨f1, f2, f3⟩ := fin .ready none
    exact ⟨_, _, run_endRound none hrec, true, rfl, fun _ => ⟨p2, σ2, H3, hJ3, f1⟩, fun h => by simp at h, f2, f3⟩
  | exit i =>
    obtain ⟨f1, f2, f3⟩ := fin .done (some (.exit i))
    exact ⟨_, _, run_endRound (some (.exit i)) hrec, false, rfl, fun h => by simp at h, fun _ => ⟨p2, σ2, H3, .exit i, _, hJ3, rfl, f1⟩, f2, f3⟩
  | goto i =>
    obtain ⟨f1, f2, f3⟩ := fin .done (some (.goto i))
    exact ⟨_, _, run_endRound (some (.goto i)) hrec, false, rfl, fun h => by simp at h, fun _ => ⟨p2, σ2, H3, .goto i, _, hJ3, rfl, f1⟩, f2, f3⟩
  | ret =>
    obtain ⟨f1, f2, f3⟩ := fin .done (some .ret)
    exact ⟨_, _, run_endRound (some .ret) hrec, false, rfl, fun h => by simp at h, fun _ => ⟨p2, σ2, H3, .ret, _, hJ3, rfl, f1⟩, f2, f3⟩
theorem W_rangeS {gop : Operand} {f : FuncId} {fs cs fs0 cs0 : List AV} (gl : List Nat) {H H0 : Heap} {ρ : Env} {n m : Nat} {df : List DF} {t : Tmp} {asg : Code} {body : Code} {Q : AEx → St → Prop} (xs : List AV) (J : Nat → Heap → Prop) (JZ : AEx → Heap → Prop)
    (hg : evalO (get ρ) gop = .clos (.func f) fs cs) (hlt : (gl.all fun x => Nat.blt x H.length) = true) (hnd : noDup gl = true) (hle : HLe gl gl.length H H0 gl) (hfs : fs = renL (gOf gl) fs0) (hcs : cs = renL (gOf gl) cs0)
    (hlf : lowL gl.length fs0 = true) (hlc : lowL gl.length cs0 = true) (ht : t < n) (hY : noY H = true) (hxs : ∀ (k : Nat) (x : AV), xs[k]? = some x → plain x = true)
    (hcall : ∀ Y : Ysp, Y.xs = xs → YLaw P Y → Tri P f (fs0 ++ [.clos (.yield Y.l) [] []] ++ cs0) (H0 ++ [some (.yl Y 0)]) fun v H1 => H1[gl.length]? = some (some (.yl Y xs.length)) ∨ H1[gl.length]? = some (some (.yz Y)))
    (hJ0 : J 0 (hide gl H 0 ++ [some .dfr]))
    (hround : ∀ (l k : Nat) (x : AV) (H' : Heap), xs[k]? = some x → J k H' → H.length + 1 ≤ H'.length → noY H' = true → W P (some l) asg (asgQ P l body (RdBack J JZ k n (H.length + 1))) ⟨(t, x) :: ρ, n, H', H.length + 1, []⟩)
    (hend : ∀ H', J xs.length H' → H.length + 1 ≤ H'.length → noY H' = true → Q .normal ⟨ρ, n, H', m, .mk H.length :: df⟩)
    (hZ : ∀ e H' c, isExit e c → JZ e H' → H.length + 1 ≤ H'.length → noY H' = true → Q e ⟨ρ, n, H', m, .mk H.length :: df⟩) :
    W P none (.rangeFunc gop #[t] asg body) Q ⟨ρ, n, H, m, df⟩ := by
  rw [W_eq]
  intro p σ a w hR
  have hsz : a.tmps.size = n := hR.size
  have hH : HRel p σ H w := hR.heap
  have hlt' : ∀ x ∈ gl, x < H.length := fun x hx => by simpa [Nat.blt_eq] using List.all_eq_true.1 hlt x hx
  refine wpIn_rangeFunc fun fn _ => ?_
  have hv := evalO_rel hR gop
  simp only [hg] at hv
  generalize hve : a.eval gop = v at hv
  cases hv with
  | clos _ _ _ fs' cs' h1 h2 h3 h4 =>
  let rec_ : Loop := recOfA asg fn a.tmps #[t] body w.heap.size .ready none
  let wd : World := pushW w (.deferred (some []))
  let w1 : World := pushW wd (.loop rec_)
  let l : Nat := w.heap.size + 1
  let σb := σ ++ [w.heap.size]
  have hszd : wd.heap.size = w.heap.size + 1 := pushW_size
  have hsz1 : w1.heap.size = w.heap.size + 2 := by simp [w1, pushW_size, hszd]
  have exd : Ext p w p wd := .push hH.lt _
  have hltd : ∀ b, p.u b → b < wd.heap.size := fun b hb => by have := hH.lt b hb; omega
  have ex1 : Ext p wd p w1 := .push hltd _
  have exA : Ext p w p w1 := exd.trans ex1
  have old : ∀ b, b < w.heap.size → w1.heap[b]? = w.heap[b]? := fun b hb => (pushW_old (by omega)).trans (pushW_old hb)
  have hlrec : w1.heap[l]? = some (.loop rec_) := by
    show w1.heap[w.heap.size + 1]? = _
    rw [← hszd]
    exact pushW_new
  have hHd : HRel p σb (H ++ [some .dfr]) wd := hH.push _ .dfr pushW_new
  have hlive : ∀ (i r : Nat) (k : Blk), (H ++ [some Blk.dfr])[i]? = some (some k) → σb[i]? = some r → ¬ p.u r ∧ r < wd.heap.size := fun i r k hk hr => by
    obtain ⟨r', z1, z2, z3, _⟩ := hHd.blk i k hk
    rw [hr] at z1
    injection z1 with z1
    subst z1
    exact ⟨z2, z3⟩
  have hYd : noY (H ++ [some .dfr]) = true := noY_of fun i k hk => by
    rcases Nat.lt_or_ge i H.length with hi | hi
    · rw [List.getElem?_append_left hi] at hk
      exact noY_get hY hk
    · rw [List.getElem?_append_right hi] at hk
      cases hj : i - H.length with
      | zero => rw [hj] at hk; simp at hk; subst hk; rfl
      | succ j => rw [hj] at hk; simp at hk
  have hH1 : HRel p σb (H ++ [some .dfr]) w1 := hHd.same hYd (fun _ h => h) (fun b hb => ex1.same b (p.sub b hb) fun hf => p.fr b hf hb) ex1.shape (fun b hb => by have := hltd b hb; omega) fun i k r hk hr =>
    ⟨(hlive i r k hk hr).1, pushW_old (hlive i r k hk hr).2⟩
  let Hb : Heap := hide gl H 0 ++ [some .dfr]
  obtain ⟨hhl, hhg⟩ := hide_get gl H 0
  have hbl : Hb.length = H.length + 1 := by simp [Hb, hhl]
  have hbg : ∀ (i : Nat) (k : Blk), Hb[i]? = some (some k) → i ∉ gl ∧ (H ++ [some Blk.dfr])[i]? = some (some k) := fun i k hk => by
    rcases Nat.lt_or_ge i H.length with hi | hi
    · rw [List.getElem?_append_left (by rw [hhl]; exact hi)] at hk
      obtain ⟨z1, z2⟩ := hhg i k hk
      exact ⟨by simpa using z1, by rw [List.getElem?_append_left hi]; exact z2⟩
    · rw [List.getElem?_append_right (by rw [hhl]; exact hi), hhl] at hk
      exact ⟨fun hm => by have := hlt' i hm; omega, by rw [List.getElem?_append_right hi]; exact hk⟩
  have hHb : HRel p σb Hb w1 := hH1.less (by rw [hbl]; simp) fun i k hk => (hbg i k hk).2
  let L : Nat → Prop := fun r => ∃ (i : Nat) (k : Blk), Hb[i]? = some (some k) ∧ σb[i]? = some r
  have hL : ∀ r, L r → ¬ p.u r ∧ r < wd.heap.size := fun r ⟨i, k, z1, z2⟩ => hlive i r k (hbg i k z1).2 z2
  let p0 : PQ := ⟨p.r, fun b => p.u b ∨ L b, L, fun b h => .inl (p.sub b h), fun b h => .inr h, fun b h hr => (hL b h).1 (p.sub b hr)⟩
  have hσl : σ.length = H.length := hH.len
  have σleft : ∀ (i r : Nat), σ[i]? = some r → σb[i]? = some r := mono_append _
  let Y := mkYA asg p ρ a.tmps (H.length + 1) σb l fn t body w.heap.size xs J JZ
  have hMid : Mid p ρ a.tmps (H.length + 1) σb l rec_ p0 w1 p σb Hb :=
    ⟨by simp [σb, hσl], Nat.le_of_eq hbl.symm, hHb, fun _ _ => rfl, noY_of fun i k hk => noY_get hYd (hbg i k hk).2, fun _ h => h, fun b h => .inl h, fun i r k hk hr => ⟨i, k, hk, hr⟩, fun _ h => h, fun u => (hR.env u).mono exA σleft, hlrec⟩
  have hlaw : YLaw P Y := mkYB_law (by rw [hsz]; exact ht) hxs fun k x H' e1 e2 e3 e4 => by rw [hsz]; exact hround l k x H' e1 e2 e3 e4
  have hT := hcall Y rfl hlaw
  rw [Tri_eq] at hT
  obtain ⟨hent, hT⟩ := hT
  have hlen0 : H0.length = gl.length := (HLe_get H0 gl hle).1
  have hget0 := (HLe_get H0 gl hle).2
  have hsg := renS_get (σ := σ) (g := gl) rfl (by rw [hσl]; exact hlt')
  have hgi : ∀ (i j : Nat), gl[i]? = some j → (renS gl σ)[i]? = σ[j]? := fun i j h => by
    have hi := (List.getElem?_eq_some_iff.1 h).1
    rw [hsg i hi]
    simp [gOf, List.getD_eq_getElem?_getD, h]
  have hY0 : noY H0 = true := noY_of fun i k hk => by
    obtain ⟨j, z1, z2, _⟩ := hget0 i k hk
    have := noY_get hY z2
    cases k <;> first | rfl | simp [renB, isY] at this
  have hH0 : HRel p (renS gl σ) H0 wd := (hH.ren hlt' hnd hle).same hY0 (fun _ h => h) (fun b hb => exd.same b (p.sub b hb) fun hf => p.fr b hf hb) exd.shape hltd fun i k r hk hr => by
    obtain ⟨r', z1, z2, z3, _⟩ := (hH.ren hlt' hnd hle).blk i k hk
    rw [hr] at z1
    injection z1 with z1
    subst z1
    exact ⟨z2, pushW_old z3⟩
  have hH0' : HRel p0 (renS gl σ) H0 wd := hH0.same hY0 (fun _ h => h) (fun _ _ => rfl) (.refl wd) (fun b hb => hb.elim (hltd b) fun h => (hL b h).2) fun i k r hk hr => by
    obtain ⟨r', z1, z2, z3, _⟩ := hH0.blk i k hk
    rw [hr] at z1
    injection z1 with z1
    subst z1
    refine ⟨fun hu => hu.elim z2 fun ⟨j, q, y1, y2⟩ => ?_, rfl⟩
    obtain ⟨j0, e1, e2, _⟩ := hget0 i k hk
    rw [hgi i j0 e1] at hr
    obtain ⟨f1, f2⟩ := hbg j q y1
    have hj0 : j0 < H.length := (List.getElem?_eq_some_iff.1 e2).1
    have := hHd.inj j j0 r q _ f2 (by rw [List.getElem?_append_left hj0]; exact e2) y2 (σleft _ _ hr)
    subst this
    exact f1 (List.mem_iff_getElem?.2 ⟨i, e1⟩)
  have hHc : HRel p0 (renS gl σ ++ [wd.heap.size]) (H0 ++ [some (.yl Y 0)]) w1 := hH0'.push _ (.yl Y 0) ⟨hszd, p, σb, Hb, hJ0, hMid⟩
  let yv : Value := .func (.yield l) #[] #[]
  refine ⟨l, [{ target := .collected w.heap.size, args := #[] }], w1, { target := .fn (.func f) cs', args := fs' ++ #[yv] }, w1, f, fs' ++ #[yv] ++ cs', w1, run_enterLoop_outer fn a.tmps #[t] asg body, ?_, fun _ _ => trivial, ?_, fun h => by simp [Fr, Fence.wide] at h, ?_⟩
  · have hconst : a.eval (.const (.func (.yield l) #[] #[])) = yv := rfl
    simp [resolve, rangeCall, hve, Deferred.ofValue, hconst]
  · simp only [invoke]
    exact enter_run hent
  have hargs : (fs' ++ #[yv] ++ cs').size = (fs0 ++ [AV.clos (.yield Y.l) [] []] ++ cs0).length ∧
      ∀ (i : Nat) (x : AV) (v : Value), (fs0 ++ [AV.clos (.yield Y.l) [] []] ++ cs0)[i]? = some x → (fs' ++ #[yv] ++ cs')[i]? = some v → VRel p0 (renS gl σ ++ [wd.heap.size]) w1 x v := by
    have part : ∀ (xs xs0 : List AV) (vs : Array Value), xs = renL (gOf gl) xs0 → lowL gl.length xs0 = true → vs.size = xs.length → (∀ (i : Nat) (x : AV) (v : Value), xs[i]? = some x → vs[i]? = some v → VRel p σ w x v) →
        vs.size = xs0.length ∧ ∀ (i : Nat) (x : AV) (v : Value), xs0[i]? = some x → vs[i]? = some v → VRel p0 (renS gl σ ++ [wd.heap.size]) w1 x v := fun xs xs0 vs hx hl hs hr => by
      subst hx
      rw [renL_length] at hs
      refine ⟨hs, fun i x v hx hv => ?_⟩
      have z := hr i (Eng.ren (gOf gl) x) v (by rw [renL_get, hx]; rfl) hv
      exact (z.ren hsg x rfl (lowL_get hl hx)).mono' (p := p) (p' := p0) (fun _ h => h) (fun b hb => exA.same b (p.sub b hb) fun hf => p.fr b hf hb) exA.shape (mono_append _)
    obtain ⟨q1, q2⟩ := part fs fs0 fs' hfs hlf h1 h3
    obtain ⟨r1, r2⟩ := part cs cs0 cs' hcs hlc h2 h4
    obtain ⟨u1, u2⟩ := rel_append (p := p0) (σ := renS gl σ ++ [wd.heap.size]) (w := w1) (xs := fs0) (ys := [AV.clos (.yield Y.l) [] []]) (us := fs') (vs := #[yv]) q1 q2 rfl (fun i x v hx hv => by
      cases i with
      | zero =>
        simp at hx hv
        subst hx hv
        exact .clos (.yield l) [] [] #[] #[] rfl rfl (fun i x v h => by simp at h) (fun i x v h => by simp at h)
      | succ i => simp at hx)
    exact rel_append u1 u2 r1 r2
  show CallsIn (Fr none) 0 P f _ w1 _
  refine callsIn_of ((hT p0 _ w1 _ hHc hargs.1 hargs.2).mono ?_)
  rintro e w2 ⟨v, x, p1, σ1, H1, rfl, hex, hm1, hHR1, _, hq⟩
  have hl1 : σ1[gl.length]? = some l := hm1 _ _ (by
    rw [List.getElem?_append_right (by simp [renS])]
    simp [renS, hszd, l])
  have hul1 : ∀ (k : Blk), H1[gl.length]? = some (some k) → ¬ p1.u l ∧ BRel p1 σ1 w2 k l := fun k hk => by
    obtain ⟨r, z1, z2, _, z4⟩ := hHR1.blk _ k hk
    rw [hl1] at z1
    injection z1 with z1
    subst z1
    exact ⟨z2, z4⟩
  have fin : ∀ (st : LoopState) (pend : Option Code) (pO : PQ) (σO : List Nat) (H' : Heap) (o : Obj), ¬ p1.u l → Mid p ρ a.tmps (H.length + 1) σb l (recOfA asg fn a.tmps #[t] body w.heap.size st pend) p1 w2 pO σO H' → H.length + 1 ≤ H'.length ∧ noY H' = true ∧
      ∃ pf, Ext p w pf (w2.putObj l o) ∧ (∀ i, i < m → σO[i]? = σ[i]?) ∧ Rel pf σO ⟨ρ, n, H', m, .mk H.length :: df⟩ { a with defers := [{ target := .collected w.heap.size, args := #[] }] ++ a.defers } (w2.putObj l o) := fun st pend pO σO H' o hul hM => by
    have hsh4 : Shape w2 (w2.putObj l o) := Shape.putLoop hM.lrec o
    have oth4 : ∀ b, b ≠ l → (w2.putObj l o).heap[b]? = w2.heap[b]? := fun b hb => World.putObj_heap_other hb
    have sz4 : (w2.putObj l o).heap.size = w2.heap.size := by simp
    generalize w2.putObj l o = w4 at *
    have p1f : ∀ b, p1.f b → ¬ p.u b := fun b hb hu => (hex.backf b hb).elim (fun h => (hL b h).1 hu) fun h => h (.inl hu)
    have hlr : ¬ pO.r l := fun h => (hM.back l h).elim (fun h => by have := hH.lt l (p.sub l h); omega) fun h => hul (p1.fu l h)
    have lv : ∀ (i r : Nat) (k : Blk), H'[i]? = some (some k) → σO[i]? = some r → ¬ pO.u r := fun i r k hk hr => by
      obtain ⟨r', z1, z2, _⟩ := hM.heap.blk i k hk
      rw [hr] at z1
      injection z1 with z1
      subst z1
      exact z2
    let pf : PQ := ⟨pO.r, fun b => p.u b ∨ pO.r b, p.f, fun _ h => .inr h, fun b h => .inl (p.fu b h), fun b h hr => (hM.back b hr).elim (p.fr b h) fun h1 => p1f b h1 (p.fu b h)⟩
    have σfin : ∀ (i r : Nat), σb[i]? = some r → σO[i]? = some r := fun i r hi => by
      rw [hM.nam i (by rw [← hM.bl]; exact (List.getElem?_eq_some_iff.1 hi).1)]
      exact hi
    have rsame : ∀ b, pO.r b → w4.heap[b]? = w2.heap[b]? := fun b hb => oth4 b fun e => hlr (e ▸ hb)
    refine ⟨hM.len, hM.noY, pf, ⟨fun b hb => hM.subr b hb, fun b hb => .inl hb, fun b hb => (hM.back b hb).imp id (p1f b), fun _ h => h, fun _ h => .inl h, fun b hb hf => ?_, (exA.shape.trans hex.shape).trans hsh4⟩, fun i hi => ?_, ⟨hsz, ?_, fun u => ?_, ?_, ?_⟩⟩
    · have hbw := hH.lt b hb
      exact (oth4 b (by omega)).trans ((hex.same b (.inl hb) fun h => (hL b h).1 hb).trans (old b hbw))
    · have hi' : i < H.length := Nat.lt_of_lt_of_le hi hR.m
      rw [hM.nam i (by omega), List.getElem?_append_left (by rw [hσl]; exact hi')]
    · refine ⟨⟨w.heap.size, σfin _ _ ?_, rfl⟩, DRel.mono (fun i r h => σfin i r (σleft i r h)) _ _ hR.df⟩
      rw [← hσl]
      simp [σb]
    · exact (hM.env u).mono' (p := pO) (p' := pf) (fun _ h => h) rsame hsh4 σfin
    · refine hM.heap.same hM.noY (fun _ h => h) rsame hsh4 (fun b hb => ?_) fun i k r hk hr => ⟨fun h => h.elim (p1f r (hM.live i r k hk hr)) fun h => lv i r k hk hr (pO.sub r h), oth4 r fun e => hul (p1.fu l (e ▸ hM.live i r k hk hr))⟩
      rw [sz4]
      exact hb.elim (fun h => by have := hH.lt b h; have := (exA.shape.trans hex.shape).1; omega) fun h => hM.heap.lt b (pO.sub b h)
    · exact Nat.le_trans hR.m (Nat.le_trans (Nat.le_succ _) hM.len)
  rcases hq with hq | hq
  · obtain ⟨hul, hb⟩ := hul1 _ hq
    obtain ⟨_, pO, σO, H', hJ, hM⟩ := hb
    obtain ⟨f1, f2, pf, f3, f4, f5⟩ := fin _ _ pO σO H' (.loop { recOfA asg fn a.tmps #[t] body w.heap.size .ready none with state := .exhausted }) hul hM
    refine ⟨none, _, run_endLoop hM.lrec (by simp [recOfA]), ?_⟩
    exact ⟨.normal, pf, σO, _, rfl, f3, f4, f5, rfl, rfl, hend H' hJ f1 f2⟩
  · obtain ⟨hul, hb⟩ := hul1 _ hq
    obtain ⟨_, pO, σO, H', e, c, hJ, hc, hM⟩ := hb
    obtain ⟨f1, f2, pf, f3, f4, f5⟩ := fin _ _ pO σO H' (.loop { recOfA asg fn a.tmps #[t] body w.heap.size .done (some c) with state := .exhausted }) hul hM
    refine ⟨some c, _, run_endLoop hM.lrec (by simp [recOfA]), ?_⟩
    have post : Post p w σ ⟨ρ, n, H, m, df⟩ Q (exR e) { a with defers := [{ target := .collected w.heap.size, args := #[] }] ++ a.defers } (w2.putObj l (.loop { recOfA asg fn a.tmps #[t] body w.heap.size .done (some c) with state := .exhausted })) :=
      ⟨e, pf, σO, _, rfl, f3, f4, f5, rfl, rfl, hZ e H' c hc hJ f1 f2⟩
    cases e with
    | normal => exact hc.elim
    | exit i => obtain rfl := hc; exact wpIn_exit post
    | goto i => obtain rfl := hc; exact wpIn_goto post
    | ret => obtain rfl := hc; exact wpIn_ret post
end
end Go.Eng
set_option maxRecDepth 100000
set_option linter.unusedVariables false
set_option linter.unusedSimpArgs false
namespace Go.Eng
open Go Go.Proofs
def topH (c : Int) : Heap := [some (.row [.i c]), none, none, some .dfr]
theorem order_Top (t : Tree) (n : Int) : Fn Tryz.prog 87 [.d (treeD t), .i n] (.i (topR t n)) := by
  refine Fn_of tt_ok Tryz.func87 rfl (by decide) Tryz.ntmps87 rfl ?_
  have hall : allL t [n] = allOk t n := by simp [allL, allOk]
  have h1 := order_all t [n]
  rw [hall] at h1
  cases ha : allOk t n
  · rw [ha] at h1
    rw [topR_none ha]
    repeat' ((conv => whnf); (first
     | (refine Ch_r ?_)
     | (refine Fn.use (h1) rfl rfl ?_)
     | (refine fin0 rfl ?_)))
    rfl
  · rw [ha] at h1
    have ha' := ha
    unfold allOk at ha'
    simp only [Bool.and_eq_true] at ha'
    have e : upR t n = parUp t (t.length + 1) n := by unfold upR; rw [if_pos ha]
    have hne := upR_ne ha
    have hs := order_up1 t n ha'.1 ha'.2
    rw [← e] at hs
    repeat' ((conv => whnf); (first
     | (refine Ch_r ?_)
     | (refine Fn.use (h1) rfl rfl ?_)
     | (refine Tri.call (order_up t n) [] rfl rfl trivial rfl rfl rfl rfl (r := .clos (.func 209) [] [.ptr 2 0, .ptr 1 0]) (H' := [some (.row [.i (-1)]), some (.row [.d (treeD t)]), some (.row [.i n])]) rfl rfl ?_)))
    refine W_rangeS [1, 2] (fs0 := []) (cs0 := [.ptr 1 0, .ptr 0 0]) (H0 := [some (.row [.d (treeD t)]), some (.row [.i n])]) ((upR t n).map AV.i)
      (fun k H => H = topH (((upR t n).take k).getLast?.getD (-1))) (fun _ _ => False) rfl rfl rfl
      (by repeat (first | exact trivial | refine ⟨⟨rfl, rfl⟩, ?_⟩)) rfl rfl rfl rfl (by decide) rfl plain_ints ?_ rfl ?_ ?_ ?_
    · intro Y hx hY
      exact hs Y hx hY
    · rintro l k x H' hx rfl hl hY
      obtain ⟨c, hc, rfl⟩ : ∃ c, (upR t n)[k]? = some c ∧ x = .i c := by
        rw [List.getElem?_map] at hx
        cases h : (upR t n)[k]? with
        | none => rw [h] at hx; simp at hx
        | some c => rw [h] at hx; simp at hx; exact ⟨c, rfl, hx.symm⟩
      have hlt : k < (upR t n).length := (List.getElem?_eq_some_iff.1 hc).1
      have hce : (upR t n)[k] = c := (List.getElem?_eq_some_iff.1 hc).2
      have htk : ((upR t n).take (k + 1)).getLast?.getD (-1) = c := by rw [List.take_succ_eq_append_getElem hlt, hce]; simp
      refine W_run tt_ok ?_
      repeat' ((conv => whnf); (first
       | (refine Need_in rfl ?_)))
      refine W_run tt_ok ?_
      repeat' ((conv => whnf); (first
       | (refine Rd_next (topH c) (Wk_env (by repeat (first | exact trivial | refine ⟨rfl, ?_⟩))) rfl (by simp [topH]) (by rw [htk]))))
    · rintro H' rfl hl hY
      rw [List.length_map, List.take_length]
      repeat' ((conv => whnf); (first
       | (refine fin0 rfl ?_)))
      rfl
    · intro e H' c _ h
      exact h.elim
end Go.Eng
namespace Go.Eng
theorem ends_hi {t : Tree} {f : Nat} {n : Int} (hm : mayB t = true) (hn : isN t n = true) (h : endsF t (f + 1) n = true) : endsF t f (hi (nd t n)) = true ∧ okN t (hi (nd t n)) := by
  have h0 := nd_pos hn
  have h1 := ends_up h (by omega)
  unfold upN at h1
  by_cases hk : (nd t n).kind = 3
  · obtain ⟨g1, g2, _⟩ := hi_sh hm hn hk
    rw [if_pos hk] at h1
    rw [g1]; exact ⟨h1, .inr g2⟩
  · obtain ⟨g1, _⟩ := hi_ns hm hn hk
    rw [if_neg hk] at h1
    rw [g1]; exact ⟨h1, may_par hm hn⟩
theorem climb_stable {t : Tree} (hm : mayB t = true) : ∀ (f g : Nat) (n : Int), okN t n → endsF t f n = true → endsF t g n = true → climb t f n = climb t g n := by
  intro f
  induction f with
  | zero => intro g n _ h; simp [endsF] at h
  | succ f ih =>
    intro g n hn h1 h2
    obtain ⟨g, rfl⟩ := ends_neg h2
    simp only [climb]
    by_cases hne : n = -1
    · rw [if_pos hne, if_pos hne]
    · have hn' := hn.resolve_left hne
      obtain ⟨a1, a2⟩ := ends_hi hm hn' h1
      rw [if_neg hne, if_neg hne, ih g _ a2 a1 (ends_hi hm hn' h2).1]
theorem climb_short {t : Tree} (hm : mayB t = true) : ∀ (f : Nat) (n : Int), okN t n → endsF t f n = true → (climb t f n).length + 1 ≤ f := by
  intro f
  induction f with
  | zero => intro n _ h; simp [endsF] at h
  | succ f ih =>
    intro n hn h
    simp only [climb]
    by_cases hne : n = -1
    · rw [if_pos hne]; simp
    · have hn' := hn.resolve_left hne
      obtain ⟨a1, a2⟩ := ends_hi hm hn' h
      rw [if_neg hne]
      have := ih _ a2 a1
      simp; omega
def dep (t : Tree) (n : Int) : Nat := (climb t (t.length + 1) n).length
theorem dep_le {t : Tree} {n : Int} (hm : mayB t = true) (hn : isN t n = true) : dep t n ≤ t.length := by
  have := climb_short hm _ n (.inr hn) (may_ends hm hn)
  unfold dep; omega
theorem dep_kid {t : Tree} {n k : Int} (hm : mayB t = true) (hn : isN t n = true) (hk : k ∈ (nd t n).kids) : dep t k = dep t n + 1 := by
  obtain ⟨h1, h2, h3, _⟩ := (may_ok hm hn).kids k hk
  have hns : (nd t k).kind ≠ 3 := by omega
  obtain ⟨g1, _⟩ := hi_ns hm h1 hns
  have h0 := nd_pos h1
  obtain ⟨a1, a2⟩ := ends_hi hm h1 (may_ends hm h1)
  rw [g1, h2] at a1
  unfold dep
  rw [show climb t (t.length + 1) k = k :: climb t t.length (hi (nd t k)) by simp [climb, show k ≠ -1 by omega], g1, h2, climb_stable hm _ _ n (.inr hn) a1 (may_ends hm hn)]
  rfl
theorem seqO_some {g : Int → Option (List Int)} : ∀ {l : List Int}, (∀ k ∈ l, ∃ a, g k = some a) → ∃ a, seqO g l = some a := by
  intro l
  induction l with
  | nil => intro _; exact ⟨[], rfl⟩
  | cons k r ih =>
    intro h
    obtain ⟨a, ha⟩ := h k (by simp)
    obtain ⟨b, hb⟩ := ih fun x hx => h x (by simp [hx])
    exact ⟨a ++ b, by simp [seqO, ha, hb]⟩
theorem preO_some {t : Tree} (hm : mayB t = true) : ∀ (f : Nat) (n : Int), isN t n = true → t.length + 1 ≤ dep t n + f → ∃ l, preO t f n = some l := by
  intro f
  induction f with
  | zero => intro n hn h; have := dep_le hm hn; omega
  | succ f ih =>
    intro n hn h
    obtain ⟨l, hl⟩ := seqO_some (g := preO t f) (l := (nd t n).kids) fun k hk => ih k ((may_ok hm hn).kids k hk).1 (by rw [dep_kid hm hn hk]; omega)
    exact ⟨n :: l, by simp [preO, hl]⟩
def preR (t : Tree) (n : Int) : List Int := (preO t (t.length + 1) n).getD []
theorem preR_eq {t : Tree} {n : Int} (hm : mayB t = true) (hn : isN t n = true) : preO t (t.length + 1) n = some (preR t n) := by
  obtain ⟨l, hl⟩ := preO_some hm (t.length + 1) n hn (by omega)
  unfold preR; rw [hl]; rfl
def listR (t : Tree) (n : Int) : List Int := if allOk t n then preR t n else []
theorem seqO_isN {t : Tree} {g : Int → Option (List Int)} : ∀ {l : List Int} {a : List Int}, seqO g l = some a → (∀ k ∈ l, ∀ b, g k = some b → ∀ x ∈ b, isN t x = true) → ∀ x ∈ a, isN t x = true := by
  intro l
  induction l with
  | nil => intro a h _ x hx; simp [seqO] at h; subst h; simp at hx
  | cons k r ih =>
    intro a h hg x hx
    simp only [seqO] at h
    cases hk : g k with
    | none => rw [hk] at h; simp at h
    | some b =>
      rw [hk] at h
      cases hr : seqO g r with
      | none => rw [hr] at h; simp at h
      | some c =>
        rw [hr] at h
        simp at h
        subst h
        rcases List.mem_append.1 hx with hx | hx
        · exact hg k (by simp) b hk x hx
        · exact ih hr (fun y hy => hg y (by simp [hy])) x hx
theorem preO_isN {t : Tree} (hm : mayB t = true) : ∀ (f : Nat) (n : Int) (l : List Int), isN t n = true → preO t f n = some l → ∀ x ∈ l, isN t x = true := by
  intro f
  induction f with
  | zero => intro n l _ h; simp [preO] at h
  | succ f ih =>
    intro n l hn h x hx
    simp only [preO] at h
    cases hs : seqO (preO t f) (nd t n).kids with
    | none => rw [hs] at h; simp at h
    | some a =>
      rw [hs] at h
      simp at h
      subst h
      rcases List.mem_cons.1 hx with rfl | hx
      · exact hn
      · exact seqO_isN hs (fun k hk b hb => ih k b ((may_ok hm hn).kids k hk).1 hb) x hx
theorem preR_isN {t : Tree} {n : Int} (hm : mayB t = true) (hn : isN t n = true) : ∀ x ∈ preR t n, isN t x = true := preO_isN hm _ n _ hn (preR_eq hm hn)
theorem listR_isN {t : Tree} {n : Int} : ∀ x ∈ listR t n, isN t x = true := by
  intro x hx
  unfold listR at hx
  split at hx
  · rename_i h
    unfold allOk at h
    simp only [Bool.and_eq_true] at h
    exact preR_isN h.1 h.2 x hx
  · simp at hx
theorem noYx_set {b : Blk} : ∀ (H : Heap) (i j a : Nat), a = j + i → noYx [a] H j = true → noYx [a] (H.set i (some b)) j = true := by
  intro H
  induction H with
  | nil => intro i j a _ h; exact h
  | cons x t ih =>
    intro i j a ha h
    cases i with
    | zero =>
      have ht : noYx [a] t (j + 1) = true := by
        cases x with
        | none => exact h
        | some k => simp only [noYx, Bool.and_eq_true] at h; exact h.2
      simp only [List.set_cons_zero, noYx, Bool.and_eq_true]
      refine ⟨?_, ht⟩
      rw [ha]; simp
    | succ i =>
      cases x with
      | none => simp only [List.set_cons_succ, noYx] at h ⊢; exact ih i (j + 1) a (by omega) h
      | some k =>
        simp only [List.set_cons_succ, noYx, Bool.and_eq_true] at h ⊢
        exact ⟨h.1, ih i (j + 1) a (by omega) h.2⟩
end Go.Eng
namespace Go.Eng
theorem nodup_len : ∀ (N : Nat) (l : List Nat), l.Nodup → (∀ x ∈ l, x < N) → l.length ≤ N := by
  intro N
  induction N with
  | zero =>
    intro l _ h
    cases l with
    | nil => simp
    | cons a r => have := h a (by simp); omega
  | succ N ih =>
    intro l hn h
    have h1 := ih (l.filter fun x => x != N) (hn.sublist List.filter_sublist) (fun x hx => by
      have := List.mem_filter.1 hx
      have h2 := h x this.1
      have h3 : x ≠ N := by simpa using this.2
      omega)
    have h2 : l.count N ≤ 1 := List.nodup_iff_count.1 hn N
    have h3 := List.length_eq_countP_add_countP (fun x => x == N) (l := l)
    have h4 : (l.filter fun x => x != N).length = List.countP (fun a => decide ¬(a == N) = true) l := by
      rw [List.countP_eq_length_filter]
      congr 1
      apply List.filter_congr
      intro x _
      by_cases hx : x = N <;> simp [hx]
    have h5 : List.countP (fun x => x == N) l = l.count N := rfl
    omega
theorem nodup_isN {t : Tree} {l : List Int} (h : l.Nodup) (hn : ∀ x ∈ l, isN t x = true) : l.length ≤ t.length := by
  have h1 := nodup_len t.length (l.map Int.toNat) (by
    refine List.pairwise_map.2 (h.imp_of_mem fun {a b} ha hb hab => ?_)
    have := nd_pos (hn a ha); have := nd_pos (hn b hb)
    omega) (fun x hx => by
    obtain ⟨y, hy, rfl⟩ := List.mem_map.1 hx
    exact (nd_get (hn y hy)).1)
  simpa using h1
theorem climb_head {t : Tree} {f : Nat} {n : Int} (hn : n ≠ -1) : climb t (f + 1) n = n :: climb t f (hi (nd t n)) := by simp [climb, hn]
theorem climb_mem {t : Tree} (hm : mayB t = true) : ∀ (f : Nat) (n x : Int), isN t n = true → endsF t f n = true → x ∈ climb t f n → isN t x = true ∧ dep t x ≤ dep t n ∧ (dep t x = dep t n → x = n) := by
  intro f
  induction f with
  | zero => intro n x _ h; simp [endsF] at h
  | succ f ih =>
    intro n x hn he hx
    have h0 := nd_pos hn
    rw [climb_head (by omega)] at hx
    obtain ⟨a1, a2⟩ := ends_hi hm hn he
    have hdn : dep t n = (climb t f (hi (nd t n))).length + 1 := by
      unfold dep; rw [climb_stable hm _ (f + 1) n (.inr hn) (may_ends hm hn) he, climb_head (by omega)]; rfl
    rcases List.mem_cons.1 hx with rfl | hx
    · exact ⟨hn, Nat.le_refl _, fun _ => rfl⟩
    · rcases a2 with a2 | a2
      · rw [a2, climb_none] at hx; simp at hx
      · obtain ⟨b1, b2, b3⟩ := ih _ x a2 a1 hx
        have hdh : dep t (hi (nd t n)) = (climb t f (hi (nd t n))).length := by
          unfold dep; rw [climb_stable hm _ f _ (.inr a2) (may_ends hm a2) a1]
        exact ⟨b1, by omega, fun h => by omega⟩
theorem climb_same {t : Tree} (hm : mayB t = true) : ∀ (f : Nat) (n x y : Int), isN t n = true → endsF t f n = true → x ∈ climb t f n → y ∈ climb t f n → dep t x = dep t y → x = y := by
  intro f
  induction f with
  | zero => intro n x y _ h; simp [endsF] at h
  | succ f ih =>
    intro n x y hn he hx hy hd
    have h0 := nd_pos hn
    have mx := climb_mem hm _ n x hn he hx
    have my := climb_mem hm _ n y hn he hy
    obtain ⟨a1, a2⟩ := ends_hi hm hn he
    rw [climb_head (by omega)] at hx hy
    rcases List.mem_cons.1 hx with rfl | hx
    · exact (my.2.2 hd.symm).symm
    · rcases List.mem_cons.1 hy with rfl | hy
      · exact mx.2.2 hd
      · rcases a2 with a2 | a2
        · rw [a2, climb_none] at hx; simp at hx
        · exact ih _ x y a2 a1 hx hy hd
theorem seqO_mem {g : Int → Option (List Int)} : ∀ {l a : List Int}, seqO g l = some a → ∀ x ∈ a, ∃ k ∈ l, ∃ b, g k = some b ∧ x ∈ b := by
  intro l
  induction l with
  | nil => intro a h x hx; simp [seqO] at h; subst h; simp at hx
  | cons k r ih =>
    intro a h x hx
    simp only [seqO] at h
    cases hk : g k with
    | none => rw [hk] at h; simp at h
    | some b =>
      rw [hk] at h
      cases hr : seqO g r with
      | none => rw [hr] at h; simp at h
      | some c =>
        rw [hr] at h
        simp at h
        subst h
        rcases List.mem_append.1 hx with hx | hx
        · exact ⟨k, by simp, b, hk, hx⟩
        · obtain ⟨k', h1, h2⟩ := ih hr x hx
          exact ⟨k', by simp [h1], h2⟩
theorem preO_up {t : Tree} (hm : mayB t = true) : ∀ (f : Nat) (n : Int) (l : List Int), isN t n = true → preO t f n = some l → ∀ x ∈ l, isN t x = true ∧ n ∈ climb t (t.length + 1) x := by
  intro f
  induction f with
  | zero => intro n l _ h; simp [preO] at h
  | succ f ih =>
    intro n l hn h x hx
    simp only [preO] at h
    cases hs : seqO (preO t f) (nd t n).kids with
    | none => rw [hs] at h; simp at h
    | some a =>
      rw [hs] at h
      simp at h
      subst h
      have h0 := nd_pos hn
      rcases List.mem_cons.1 hx with rfl | hx
      · exact ⟨hn, by rw [climb_head (by omega)]; simp⟩
      · obtain ⟨k, hk, b, hb, hxb⟩ := seqO_mem hs x hx
        obtain ⟨k1, k2, k3, _⟩ := (may_ok hm hn).kids k hk
        obtain ⟨g1, g2⟩ := ih k b k1 hb x hxb
        refine ⟨g1, ?_⟩
        have key : ∀ (f : Nat) (x : Int), isN t x = true → endsF t f x = true → k ∈ climb t f x → n ∈ climb t f x := by
          intro f
          induction f with
          | zero => intro x _ h; simp [endsF] at h
          | succ f ih2 =>
            intro x hx he hkx
            have hx0 := nd_pos hx
            obtain ⟨a1, a2⟩ := ends_hi hm hx he
            rw [climb_head (by omega)] at hkx ⊢
            rcases List.mem_cons.1 hkx with rfl | hkx
            · obtain ⟨c1, _⟩ := hi_ns hm k1 (by omega : (nd t k).kind ≠ 3)
              rw [c1, k2] at a1 ⊢
              obtain ⟨f', rfl⟩ := ends_neg a1
              rw [climb_head (by omega)]
              simp
            · rcases a2 with a2 | a2
              · rw [a2, climb_none] at hkx; simp at hkx
              · exact List.mem_cons_of_mem _ (ih2 _ a2 a1 hkx)
        exact key _ x g1 (may_ends hm g1) g2
theorem preO_nodup {t : Tree} (hm : mayB t = true) : ∀ (f : Nat) (n : Int) (l : List Int), isN t n = true → preO t f n = some l → l.Nodup := by
  intro f
  induction f with
  | zero => intro n l _ h; simp [preO] at h
  | succ f ih =>
    intro n l hn h
    simp only [preO] at h
    cases hs : seqO (preO t f) (nd t n).kids with
    | none => rw [hs] at h; simp at h
    | some a =>
      rw [hs] at h
      simp at h
      subst h
      have hdk : ∀ k ∈ (nd t n).kids, dep t k = dep t n + 1 := fun k hk => dep_kid hm hn hk
      have hkn : (nd t n).kids.Nodup := List.nodup_iff_count.2 fun k => by
        by_cases hk : k ∈ (nd t n).kids
        · exact Nat.le_of_eq ((may_ok hm hn).kids k hk).2.2.2
        · rw [List.count_eq_zero.2 hk]; omega
      have hkN : ∀ k ∈ (nd t n).kids, isN t k = true := fun k hk => ((may_ok hm hn).kids k hk).1
      generalize (nd t n).kids = ks at *
      have main : ∀ (ks a : List Int), seqO (preO t f) ks = some a → ks.Nodup → (∀ k ∈ ks, dep t k = dep t n + 1) → (∀ k ∈ ks, isN t k = true) → a.Nodup := by
        intro ks
        induction ks with
        | nil => intro a h _ _ _; simp [seqO] at h; subst h; exact List.nodup_nil
        | cons k r ihr =>
          intro a h hnd hd hN
          simp only [seqO] at h
          cases hk : preO t f k with
          | none => rw [hk] at h; simp at h
          | some b =>
            rw [hk] at h
            cases hr : seqO (preO t f) r with
            | none => rw [hr] at h; simp at h
            | some c =>
              rw [hr] at h
              simp at h
              subst h
              obtain ⟨n1, n2⟩ := List.nodup_cons.1 hnd
              refine List.nodup_append.2 ⟨ih k b (hN k (by simp)) hk, ihr c hr n2 (fun x hx => hd x (by simp [hx])) (fun x hx => hN x (by simp [hx])), fun x hx y hy hxy => ?_⟩
              subst hxy
              obtain ⟨k', q1, b', q2, q3⟩ := seqO_mem hr x hy
              obtain ⟨u1, u2⟩ := preO_up hm f k b (hN k (by simp)) hk x hx
              obtain ⟨_, u3⟩ := preO_up hm f k' b' (hN k' (by simp [q1])) q2 x q3
              have := climb_same hm _ x k k' u1 (may_ends hm u1) u2 u3 (by rw [hd k (by simp), hd k' (by simp [q1])])
              subst this
              exact n1 q1
      refine List.nodup_cons.2 ⟨fun hmem => ?_, main ks a hs hkn hdk hkN⟩
      obtain ⟨k, q1, b, q2, q3⟩ := seqO_mem hs n hmem
      obtain ⟨u1, u2⟩ := preO_up hm f k b (hkN k q1) q2 n q3
      have := (climb_mem hm _ n k hn (may_ends hm hn) u2).2.1
      have := hdk k q1
      omega
theorem listR_nodup (t : Tree) (n : Int) : (listR t n).Nodup := by
  unfold listR
  split
  · rename_i h
    unfold allOk at h
    simp only [Bool.and_eq_true] at h
    exact preO_nodup h.1 _ n _ h.2 (preR_eq h.1 h.2)
  · exact List.nodup_nil
theorem listR_len (t : Tree) (n : Int) : (listR t n).length ≤ t.length := nodup_isN (listR_nodup t n) listR_isN
end Go.Eng
set_option maxRecDepth 100000
set_option linter.unusedVariables false
set_option linter.unusedSimpArgs false
namespace Go.Eng
open Go Go.Proofs
def YQ (H : Heap) (i : Nat) (Y : Ysp) (k m : Nat) (v : AV) (H' : Heap) : Prop := (v = .b true ∧ H' = H.set i (some (.yl Y (k + m)))) ∨ (v = .b false ∧ H' = H.set i (some (.yz Y)))
theorem set_at {H : Heap} {i : Nat} {x y : Blk} (h : H[i]? = some (some x)) : (H.set i (some y))[i]? = some (some y) := by
  rw [List.getElem?_set_self (List.getElem?_eq_some_iff.1 h).1]
theorem set_two {H : Heap} {i : Nat} {x y : Option Blk} : (H.set i x).set i y = H.set i y := List.set_set ..
theorem noYx_set0 {H : Heap} {i : Nat} {b : Blk} (h : noYx [i] H 0 = true) : noYx [i] (H.set i (some b)) 0 = true := noYx_set H i 0 i (by omega) h
set_option maxHeartbeats 2000000 in
theorem order_down (t : Tree) (hm : mayB t = true) : ∀ (f : Nat) (n : Int) (l : List Int), isN t n = true → preO t f n = some l → ∀ (H : Heap) (i : Nat) (Y : Ysp) (k : Nat) (rest : List AV), H[i]? = some (some (.yl Y k)) → noYx [i] H 0 = true → YLaw Tryz.prog Y → Y.xs.drop k = l.map AV.i ++ rest →
    Tri Tryz.prog 390 [.d (treeD t), .i n, .clos (.yield Y.l) [] []] H (YQ H i Y k l.length) := by
  intro f
  induction f with
  | zero => intro n l _ h; simp [preO] at h
  | succ f ih =>
    intro n l hn h H i Y k rest hH hno hY hx
    simp only [preO] at h
    cases hs : seqO (preO t f) (nd t n).kids with
    | none => rw [hs] at h; simp at h
    | some a =>
    rw [hs] at h
    simp at h
    subst h
    have hxk : Y.xs[k]? = some (.i n) := by
      have := congrArg (·[0]?) hx
      simpa using this
    have hx2 : Y.xs.drop (k + 1) = a.map AV.i ++ rest := by
      have := congrArg List.tail hx
      rw [List.tail_drop] at this
      simpa using this
    have hkN : ∀ x ∈ (nd t n).kids, isN t x = true := fun x hx => ((may_ok hm hn).kids x hx).1
    have hsplit : ∀ (ks : List Int) (a : List Int), seqO (preO t f) ks = some a → ∀ (j : Nat), j < ks.length → ∃ pre b post, a = pre ++ b ++ post ∧ seqO (preO t f) (ks.take j) = some pre ∧ preO t f (ks.getD j 0) = some b ∧ seqO (preO t f) (ks.take (j + 1)) = some (pre ++ b) := by
      intro ks
      induction ks with
      | nil => intro a _ j hj; simp at hj
      | cons x r ihr =>
        intro a h j hj
        simp only [seqO] at h
        cases hk : preO t f x with
        | none => rw [hk] at h; simp at h
        | some b =>
          rw [hk] at h
          cases hr : seqO (preO t f) r with
          | none => rw [hr] at h; simp at h
          | some c =>
            rw [hr] at h
            simp at h
            subst h
            cases j with
            | zero => exact ⟨[], b, c, by simp, rfl, by simpa using hk, by simp [seqO, hk]⟩
            | succ j =>
              obtain ⟨pre, b', post, g1, g2, g3, g4⟩ := ihr c hr j (by simpa using hj)
              exact ⟨b ++ pre, b', post, by rw [g1]; simp, by simp [seqO, hk, g2], by simpa using g3, by simp [seqO, hk, g4]⟩
    have hsp := hsplit _ _ hs
    have hfull : ∀ (j : Nat), ¬ j < (nd t n).kids.length → seqO (preO t f) ((nd t n).kids.take j) = some a := fun j hj => by rw [List.take_of_length_le (by omega)]; exact hs
    clear hsplit
    refine Tri_of (m := H.length) tt_ok Tryz.func390 rfl (by decide) Tryz.ntmps390 (by rfl) rfl ?_
    refine Yield_in i Y k (.i n) hH rfl hY hno rfl hxk ?_ ?_
    rotate_left
    · repeat' ((conv => whnf); (first
     | (refine finQ (.inr ⟨rfl, rfl⟩))))
    repeat' ((conv => whnf); (first
     | (refine Len_in (fun hlen => ?_))
     | (refine Idx_nd hn rfl ?_)))
    refine W_loop (fun μ s => ∃ (j : Nat) (pre : List Int), j ≤ (nd t n).kids.length ∧ μ = (nd t n).kids.length - j ∧ seqO (preO t f) ((nd t n).kids.take j) = some pre ∧
        s = ⟨[(0, .d (treeD t)), (2, .clos (.yield Y.l) [] []), (17, .d (ints (nd t n).kids)), (18, .i (List.map intCs (nd t n).kids).length), (19, .i j)], 29, H.set i (some (.yl Y (k + 1 + pre.length))), H.length, []⟩) (nd t n).kids.length
      ⟨_, ?_, 0, [], by omega, by omega, rfl, rfl⟩ ?_
    · exact Wk_env (by repeat (first | exact trivial | refine ⟨rfl, ?_⟩))
    rintro μ s1 ⟨j, pre, hj, rfl, hp, rfl⟩
    refine W_run tt_ok ?_
    have hkl : (List.map intCs (nd t n).kids).length = (nd t n).kids.length := by simp
    refine Br_dec (fun h => ?_) (fun h => ?_)
    · rw [hkl] at h
      have hlt : j < (nd t n).kids.length := by omega
      obtain ⟨pre', b, post, g1, g2, g3, g4⟩ := hsp j hlt
      rw [hp] at g2
      injection g2 with g2
      subst g2
      have hget : (nd t n).kids.getD j 0 = (nd t n).kids[j] := by simp [hlt]
      rw [hget] at g3
      refine Idx_in (intCs (nd t n).kids[j]) (by simp [hlt]) (by omega) rfl ?_
      have hx3 : Y.xs.drop (k + 1 + pre.length) = b.map AV.i ++ (post.map AV.i ++ rest) := by
        rw [← List.drop_drop, hx2, g1]
        simp
      have hc := ih (nd t n).kids[j] b (hkN _ (List.getElem_mem hlt)) g3 (H.set i (some (.yl Y (k + 1 + pre.length)))) i Y (k + 1 + pre.length) _ (set_at hH) (noYx_set0 hno) hY hx3
      skip
      refine Tri.mono hc ?_
      rintro v H' (⟨rfl, rfl⟩ | ⟨rfl, rfl⟩)
      · rw [set_two]
        repeat' ((conv => whnf); (first
         | (refine Back_in _ _ ⟨j + 1, pre ++ b, by omega, rfl, g4, rfl⟩ (by omega) ?_)
         | (refine ArK_in (wrap_i64 (by omega) (by omega)) ?_)))
        rw [List.length_append, ← Nat.add_assoc]
        exact Wk_env (by repeat (first | exact trivial | refine ⟨rfl, ?_⟩))
      · rw [set_two]
        repeat' ((conv => whnf); (first
         | (refine finQ (.inr ⟨rfl, rfl⟩))))
    · rw [hkl] at h
      rw [hfull j (by omega)] at hp
      injection hp with hp
      subst hp
      repeat' ((conv => whnf); (first
       | (refine finQ (.inl ⟨rfl, ?_⟩))))
      rw [List.length_cons, Nat.add_comm a.length 1, ← Nat.add_assoc]
end Go.Eng
set_option maxRecDepth 100000
set_option linter.unusedVariables false
set_option linter.unusedSimpArgs false
namespace Go.Eng
open Go Go.Proofs
theorem order_list1 (t : Tree) (n : Int) (hm : mayB t = true) (hn : isN t n = true) : Seq2 389 [.ptr 0 0, .ptr 1 0] (treeD t) (.int .i64 n) ((preR t n).map AV.i) := by
  intro Y hx hY
  refine Tri_of (m := 3) tt_ok Tryz.func389 rfl (by decide) Tryz.ntmps389 (by rfl) rfl ?_
  have hd := order_down t hm _ n _ hn (preR_eq hm hn) [some (.row [.d (treeD t)]), some (.row [.i n]), some (.yl Y 0)] 2 Y 0 [] rfl rfl hY (by rw [hx]; simp)
  skip
  refine Tri.mono hd ?_
  rintro v H' (⟨rfl, rfl⟩ | ⟨rfl, rfl⟩)
  · repeat' ((conv => whnf); (first
   | (refine finQ (.inl ?_))))
    rw [List.length_map, Nat.zero_add]
    rfl
  · repeat' ((conv => whnf); (first
   | (refine finQ (.inr rfl))))
theorem order_list (t : Tree) (n : Int) : Tri Tryz.prog 365 [.d (treeD t), .i n] [] fun v H => v = .clos (.func 389) [] [.ptr 0 0, .ptr 1 0] ∧ H = [some (.row [.d (treeD t)]), some (.row [.i n])] := by
  refine Tri_of (m := 0) tt_ok Tryz.func365 rfl (by decide) Tryz.ntmps365 (by rfl) rfl ?_
  repeat' ((conv => whnf); (first
   | (refine finR ?_)))
  rfl
theorem order_List (t : Tree) (n : Int) : Fn Tryz.prog 331 [.d (treeD t), .i n] (.d (ints (listR t n))) := by
  refine Fn_of tt_ok Tryz.func331 rfl (by decide) Tryz.ntmps331 rfl ?_
  have hall : allL t [n] = allOk t n := by simp [allL, allOk]
  have h1 := order_all t [n]
  rw [hall] at h1
  cases ha : allOk t n
  · rw [ha] at h1
    have e : listR t n = [] := by unfold listR; rw [ha]; rfl
    rw [e]
    repeat' ((conv => whnf); (first
     | (refine Ch_r ?_)
     | (refine Fn.use (h1) rfl rfl ?_)
     | (refine finD (F := []) .nsl)))
  · rw [ha] at h1
    have ha' := ha
    unfold allOk at ha'
    simp only [Bool.and_eq_true] at ha'
    have hlen := listR_len t n
    have h64 := may_len64 ha'.1
    have e : listR t n = preR t n := by unfold listR; rw [if_pos ha]
    rw [e] at hlen ⊢
    have hc := collect_int 389 [.ptr 0 0, .ptr 1 0] (treeD t) (.int .i64 n) _ (.inl rfl) (order_list1 t n ha'.1 ha'.2) (by omega)
    repeat' ((conv => whnf); (first
     | (refine Ch_r ?_)
     | (refine Fn.use (h1) rfl rfl ?_)
     | (refine Tri.call (order_list t n) [] rfl rfl trivial rfl rfl rfl rfl (r := .clos (.func 389) [] [.ptr 0 0, .ptr 1 0]) (H' := [some (.row [.d (treeD t)]), some (.row [.i n])]) rfl rfl ?_)
     | (refine Tri.use hc ?_)
     | (refine fin0 rfl ?_)))
    rfl
end Go.Eng
set_option maxRecDepth 100000
set_option linter.unusedVariables false
set_option linter.unusedSimpArgs false
namespace Go.Eng
open Go Go.Proofs
theorem shade_Host (t : Tree) (n : Int) : Fn Tryz.prog 152 [.d (treeD t), .i n] (.i (hostR t n)) := by
  refine Fn_of tt_ok Tryz.func152 rfl (by decide) Tryz.ntmps152 rfl ?_
  cases ha : allOk t n
  · have e1 := topR_none ha
    have e2 : hostR t n = -1 := by unfold hostR; rw [ha]; rfl
    rw [e2]
    repeat' ((conv => whnf); (first
     | (refine Br_true (beqT (by omega)) ?_)
     | (refine Fn.use (order_Top t n) rfl rfl ?_)
     | (refine fin0 rfl ?_)))
    all_goals (first | rfl | simp_all)
  · have h1 := topR_isN ha
    have h2 := nd_pos h1
    have e2 : hostR t n = (nd t (topR t n)).host := by unfold hostR; rw [if_pos ha]
    rw [e2]
    repeat' ((conv => whnf); (first
     | (refine Br_false (beqF (by omega)) ?_)
     | (refine Fn.use (order_Top t n) rfl rfl ?_)
     | (refine Idx_nd h1 rfl ?_)
     | (refine fin0 rfl ?_)))
    rfl
theorem shade_is (t : Tree) (n : Int) : Fn Tryz.prog 150 [.d (treeD t), .i n] (.b (allOk t n)) := by
  refine Fn_of tt_ok Tryz.func150 rfl (by decide) Tryz.ntmps150 rfl ?_
  cases ha : allOk t n
  · have e1 := topR_none ha
    repeat' ((conv => whnf); (first
     | (refine Fn.use (order_Top t n) rfl rfl ?_)
     | (refine fin0 rfl ?_)))
    all_goals simp_all
  · have h1 := topR_isN ha
    have h2 := nd_pos h1
    repeat' ((conv => whnf); (first
     | (refine Fn.use (order_Top t n) rfl rfl ?_)
     | (refine fin0 rfl ?_)))
    all_goals (simp_all; try omega)
theorem ints_len {l : List Int} : (l.map intCs).length = l.length := by simp
theorem ints_ne {l : List Int} (h : l ≠ []) : l.map intCs ≠ [] := by simpa using h
theorem shade_Up (t : Tree) (n : Int) : Fn Tryz.prog 151 [.d (treeD t), .i n] (.d (ints (shUpR t n))) := by
  refine Fn_of tt_ok Tryz.func151 rfl (by decide) Tryz.ntmps151 rfl ?_
  cases ha : allOk t n
  · have e1 : upR t n = [] := by unfold upR; rw [ha]; rfl
    have e2 : hostR t n = -1 := by unfold hostR; rw [ha]; rfl
    have e3 : shUpR t n = [] := by unfold shUpR; rw [ha]; rfl
    have hu := order_Up t n
    have hh := shade_Host t n
    rw [e1] at hu
    rw [e2] at hh
    rw [e3]
    skip
    refine W_scope 0 (fun _ _ => False) rfl ?_ (fun _ _ h => h.elim)
    refine W_run tt_ok ?_
    repeat' ((conv => whnf); (first
     | (refine Fn.use (hu) rfl rfl ?_)
     | (refine Fn.use (hh) rfl rfl ?_)
     | (refine Ch_r (Need_in ⟨by decide, by decide, by simp⟩ ?_))
     | (refine fin0 rfl ?_)))
    rfl
  · have ha' := ha
    unfold allOk at ha'
    simp only [Bool.and_eq_true] at ha'
    have e3 : shUpR t n = climb t (t.length + 1) n := by unfold shUpR; rw [if_pos ha]
    have hcl := climb_len t (t.length + 1) n
    have h64 := may_len64 ha'.1
    have hu := order_Up t n
    have hh := shade_Host t n
    have hne := upR_ne ha
    have hul := upR_len t n
    obtain ⟨f1, g1, g2, g3⟩ := climb_turn ha (may_ends ha'.1 ha'.2)
    rw [g3] at hcl
    rw [e3, g3]
    have hcok := hostR_ok ha
    generalize hostR t n = c1 at *
    generalize upR t n = L1 at *
    rw [List.length_append] at hcl
    have hen := ints_ne hne
    have hil : (List.map intCs L1).length = L1.length := ints_len
    skip
    refine W_scope 0 (fun μ s => ∃ (c : Int) (acc : List Int), allOk t c = true ∧ endsF t μ c = true ∧ L1 ++ climb t f1 c1 = acc ++ climb t μ c ∧ acc.length + (climb t μ c).length ≤ 100 ∧
      s = ⟨[(0, .d (treeD t)), (1, .i c), (5, AccV 0 1 (acc.map intCs))], 17, [AccB (acc.map intCs)], 0, []⟩) rfl ?_ ?_
    · refine W_run tt_ok ?_
      repeat' ((conv => whnf); (first
       | (refine Br_bne (fun h => ?_) (fun h => ?_))
       | (refine Fn.use (hu) rfl rfl ?_)
       | (refine Fn.use (hh) rfl rfl ?_)
       | (refine App_nsl (L1.map intCs) rfl rfl hen cs1 (by rw [hil]; omega) (Nat.le_of_ble_eq_true rfl) ?_)))
      · refine Jump_in _ f1 ⟨c1, L1, hcok.resolve_left (by assumption), g2, rfl, by omega, rfl⟩ ?_
        rw [AccV_cons hen, AccB_cons hen]
        exact Wk_env (by repeat (first | exact trivial | refine ⟨rfl, ?_⟩))
      · subst_vars
        rw [climb_none, List.append_nil]
        repeat' ((conv => whnf); (first
         | (refine finD (F := [0]) (FV_tab _ rfl rfl rfl cs1))))
    · rintro μ s1 ⟨c, acc, hc, he, hL, hlen, rfl⟩
      obtain ⟨f2, k1, k2, k3⟩ := climb_turn hc he
      have hcok2 := hostR_ok hc
      have hu2 := order_Up t c
      have hh2 := shade_Host t c
      have hul2 := upR_len t c
      have hne2 := upR_ne hc
      rw [k3] at hL hlen
      generalize hostR t c = c2 at *
      generalize upR t c = L2 at *
      rw [List.length_append] at hlen
      have hen2 := ints_ne hne2
      have hil2 : (List.map intCs L2).length = L2.length := ints_len
      have hila : (List.map intCs acc).length = acc.length := ints_len
      have ha := Acc_app (b := 0) (sz := 1) (rows := acc.map intCs) (new := L2.map intCs) hen2
      rw [← List.append_assoc] at hL
      rw [hL]
      refine W_run tt_ok ?_
      repeat' ((conv => whnf); (first
       | (refine Fn.use (hu2) rfl rfl ?_)
       | (refine force_in ?_)))
      refine App_acc (acc.map intCs) (L2.map intCs) rfl rfl rfl rfl hen2 cs1 cs1 (by rw [hil2, hila]; omega) (Nat.le_of_ble_eq_true rfl) ?_
      repeat' ((conv => whnf); (first
       | (refine Br_bne (fun h => ?_) (fun h => ?_))
       | (refine Fn.use (hh2) rfl rfl ?_)))
      · refine Back_in _ _ ⟨c2, acc ++ L2, hcok2.resolve_left (by assumption), k2, rfl, by rw [List.length_append]; omega, rfl⟩ k1 ?_
        rw [List.map_append, ha.1, ha.2]
        exact Wk_ren [1] rfl rfl ⟨⟨by rw [renB_row]; rfl, lowB_row _ _⟩, trivial⟩ (by repeat (first | exact trivial | refine ⟨⟨rfl, rfl⟩, ?_⟩)) (by omega) (by omega)
      · subst_vars
        rw [climb_none, List.append_nil]
        rw [show ints (acc ++ L2) = D.sl (acc.map intCs ++ L2.map intCs) by unfold ints; rw [List.map_append]]
        repeat' ((conv => whnf); (first
         | (refine finD (F := [1]) (FV_tab _ rfl rfl (List.length_append).symm (by intro r hr; rcases List.mem_append.1 hr with h | h <;> exact cs1 r h)))))
end Go.Eng
