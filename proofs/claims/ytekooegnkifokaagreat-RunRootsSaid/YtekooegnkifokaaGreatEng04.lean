/- What the seat's proofs lean on, part 4: the executor over abstract values, its soundness, and what the program's functions answer (Eng23, Dat, Sp1, Eng24, Eng25, TT02, Tree1, Tree2, Tree3, Tree4, Sp2, Sp3, Sp40, Att1, Att3x, Ord1, Eng26, Eng27, Eng30, Eng31). -/
import Derived.Test.YtekooegnkifokaaGreatEng03
import Derived.Test.YtekooegnkifokaaGreatProg
import Derived.Below
set_option linter.all false
set_option linter.unusedVariables false
set_option linter.unusedSimpArgs false
set_option linter.unusedVariables false
set_option linter.unusedSimpArgs false
namespace Go.Eng
open Go
def isExit : AEx → Code → Prop
  | .exit i, c => c = .exit i
  | .goto l, c => c = .goto l
  | .ret, c => c = .ret
  | .normal, _ => False
structure RdBack (J : Nat → Heap → Prop) (JZ : AEx → Heap → Prop) (k n mb : Nat) (e : AEx) (s : St) : Prop where
  out :
  ∃ H3, Wk s ⟨[], n, H3, mb, []⟩ ∧ noY H3 = true ∧ mb ≤ H3.length ∧ match e with
    | .normal => J (k + 1) H3
    | e => JZ e H3
theorem RdBack_eq (J : Nat → Heap → Prop) (JZ : AEx → Heap → Prop) (k n mb : Nat) (e : AEx) (s : St) : RdBack J JZ k n mb e s = (∃ H3, Wk s ⟨[], n, H3, mb, []⟩ ∧ noY H3 = true ∧ mb ≤ H3.length ∧ match e with
    | .normal => J (k + 1) H3
    | e => JZ e H3) := propext ⟨fun h => h.out, fun h => ⟨h⟩⟩
theorem Rd_next {J : Nat → Heap → Prop} {JZ : AEx → Heap → Prop} {k n mb : Nat} {s : St} (H3 : Heap) (h : Wk s ⟨[], n, H3, mb, []⟩) (hY : noY H3 = true) (hl : mb ≤ H3.length) (hJ : J (k + 1) H3) : RdBack J JZ k n mb .normal s := by
  rw [RdBack_eq]; exact ⟨H3, h, hY, hl, hJ⟩
theorem Rd_ret {J : Nat → Heap → Prop} {JZ : AEx → Heap → Prop} {k n mb : Nat} {s : St} (H3 : Heap) (h : Wk s ⟨[], n, H3, mb, []⟩) (hY : noY H3 = true) (hl : mb ≤ H3.length) (hJ : JZ .ret H3) : RdBack J JZ k n mb .ret s := by
  rw [RdBack_eq]; exact ⟨H3, h, hY, hl, hJ⟩
section
variable {P : Program}
structure Mid (p0 : PQ) (ρ : Env) (tmps : Array Value) (mb : Nat) (σb : List Nat) (l : Nat) (rec_ : Loop) (p : PQ) (w : World) (pO : PQ) (σO : List Nat) (H : Heap) : Prop where
  bl : σb.length = mb
  len : mb ≤ H.length
  heap : HRel pO σO H w
  nam : ∀ i, i < mb → σO[i]? = σb[i]?
  noY : noY H = true
  subr : ∀ b, p0.r b → pO.r b
  back : ∀ b, pO.r b → p0.r b ∨ p.f b
  live : ∀ (i r : Nat) (k : Blk), H[i]? = some (some k) → σO[i]? = some r → p.f r
  p0r : ∀ b, p0.r b → p.r b
  env : ∀ t, VRel pO σb w (get ρ t) (tmps.getD t undef)
  lrec : w.heap[l]? = some (.loop rec_)
theorem VRel.same {p : PQ} {σ : List Nat} {w w' : World} {x : AV} {v : Value} (h : VRel p σ w x v) (hs : ∀ b, p.r b → w'.heap[b]? = w.heap[b]?) (hsh : Shape w w') : VRel p σ w' x v :=
  h.mono' (fun _ h => h) hs hsh (fun _ _ h => h)
theorem HRel.same {p p' : PQ} {σ : List Nat} {H : Heap} {w w' : World} (h : HRel p σ H w) (hY : noY H = true) (hr : ∀ b, p.r b → p'.r b) (hs : ∀ b, p.r b → w'.heap[b]? = w.heap[b]?) (hsh : Shape w w')
    (hl : ∀ b, p'.u b → b < w'.heap.size) (hn : ∀ (i : Nat) (k : Blk) (r : Nat), H[i]? = some (some k) → σ[i]? = some r → ¬ p'.u r ∧ w'.heap[r]? = w.heap[r]?) : HRel p' σ H w' := by
  refine ⟨h.len, hl, fun i k hk => ?_, h.inj, h.gl.same hr hs hsh⟩
  obtain ⟨r, h1, h2, h3, h4⟩ := h.blk i k hk
  obtain ⟨h5, h6⟩ := hn i k r hk h1
  refine ⟨r, h1, h5, Nat.lt_of_lt_of_le h3 hsh.1, ?_⟩
  have hy := noY_get hY hk
  cases k with
  | row cs =>
    obtain ⟨c, e, fr, g1, g2, g3, g4⟩ := h4
    exact ⟨c, e, fr, h6.trans g1, g2, g3, fun i x v hx hv => ⟨(g4 i x v hx hv).1.mono' hr hs hsh (fun _ _ h => h), (g4 i x v hx hv).2⟩⟩
  | iter s pos => exact h6.trans h4
  | dfr => exact h6.trans h4
  | raw o => exact h6.trans h4
  | bytes e bs => obtain ⟨c, fr, z1, z2⟩ := h4; exact ⟨c, fr, h6.trans z1, z2⟩
  | mp ks vs => obtain ⟨es, cl, z1, z2, z3, z4, z5⟩ := h4; exact ⟨es, cl, h6.trans z1, z2, z3, z4, fun i x e hx he => (z5 i x e hx he).mono' hr hs hsh (fun _ _ h => h)⟩
  | yl Y k => simp [isY] at hy
  | yz Y => simp [isY] at hy
theorem Mid.stab {p0 : PQ} {ρ : Env} {tmps : Array Value} {mb : Nat} {σb : List Nat} {l : Nat} {rec_ : Loop} {p p' pO : PQ} {w w' : World} {σO : List Nat} {H : Heap} (h : Mid p0 ρ tmps mb σb l rec_ p w pO σO H)
    (hf : p'.f = p.f) (hr : ∀ b, p.r b → p'.r b) (hs : ∀ b, p.r b ∨ p.f b ∨ b = l → w'.heap[b]? = w.heap[b]?) (hsh : Shape w w') : Mid p0 ρ tmps mb σb l rec_ p' w' pO σO H := by
  have hro : ∀ b, pO.r b → w'.heap[b]? = w.heap[b]? := fun b hb => hs b ((h.back b hb).elim (fun h1 => .inl (h.p0r b h1)) fun h1 => .inr (.inl h1))
  refine ⟨h.bl, h.len, h.heap.same h.noY (fun _ h => h) hro hsh (fun b hb => Nat.lt_of_lt_of_le (h.heap.lt b hb) hsh.1) fun i k r hk hr2 => ?_, h.nam, h.noY, h.subr, fun b hb => (h.back b hb).imp id (fun h => by rw [hf]; exact h), fun i r k hk hr2 => by rw [hf]; exact h.live i r k hk hr2, fun b hb => hr b (h.p0r b hb), fun t => (h.env t).same hro hsh, (hs l (.inr (.inr rfl))).trans h.lrec⟩
  refine ⟨?_, hs r (.inr (.inl (h.live i r k hk hr2)))⟩
  obtain ⟨r', g1, g2, _⟩ := h.heap.blk i k hk
  rw [hr2] at g1
  injection g1 with g1
  subst g1
  exact g2
def recOf (fn : FuncId) (tmps : Array Value) (ps : Array Tmp) (body : Code) (d : Nat) (st : LoopState) (pend : Option Code) : Loop :=
  { state := st, pending := pend, fn := fn, tmps := tmps, params := ps, assign := .skip, body := body, defers := d }
def mkY (p0 : PQ) (ρ : Env) (tmps : Array Value) (mb : Nat) (σb : List Nat) (l : Nat) (fn : FuncId) (t : Tmp) (body : Code) (d : Nat) (xs : List AV) (J : Nat → Heap → Prop) (JZ : AEx → Heap → Prop) : Ysp where
  l := l
  xs := xs
  I k p w := ∃ pO σO H, J k H ∧ Mid p0 ρ tmps mb σb l (recOf fn tmps #[t] body d .ready none) p w pO σO H
  Z p w := ∃ pO σO H e c, JZ e H ∧ isExit e c ∧ Mid p0 ρ tmps mb σb l (recOf fn tmps #[t] body d .done (some c)) p w pO σO H
  stI := fun k p p' w w' ⟨pO, σO, H, h1, h2⟩ hf hr hs hsh => ⟨pO, σO, H, h1, h2.stab hf hr hs hsh⟩
  stZ := fun p p' w w' ⟨pO, σO, H, e, c, h1, h2, h3⟩ hf hr hs hsh => ⟨pO, σO, H, e, c, h1, h2, h3.stab hf hr hs hsh⟩
def plain : AV → Bool
  | .d (.int _ _) => true
  | .d (.bool _) => true
  | .d (.str _) => true
  | _ => false
theorem plain_one {x : AV} (h : plain x = true) : argsY x = [x] := by
  cases x <;> first | rfl | simp [plain] at h
theorem VRel.ofPlain {p p' : PQ} {σ σ' : List Nat} {w w' : World} {x : AV} {v : Value} (h : VRel p σ w x v) (hp : plain x = true) : VRel p' σ' w' x v := by
  cases h <;> first | exact .int _ _ | exact .bool _ | exact .str _ (by assumption) | simp [plain] at hp
theorem Shape.putLoop {w : World} {l : Nat} {rec_ : Loop} (h : w.heap[l]? = some (.loop rec_)) (o : Obj) : Shape w (w.putObj l o) := Shape.setOther h (fun _ _ _ h => by simp at h)
theorem mkY_law {p0 : PQ} {ρ : Env} {tmps : Array Value} {mb : Nat} {σb : List Nat} {l : Nat} {fn : FuncId} {t : Tmp} {body : Code} {d : Nat} {xs : List AV} {J : Nat → Heap → Prop} {JZ : AEx → Heap → Prop}
    (ht : t < tmps.size) (hxs : ∀ (k : Nat) (x : AV), xs[k]? = some x → plain x = true)
    (hround : ∀ (k : Nat) (x : AV) (H : Heap), xs[k]? = some x → J k H → mb ≤ H.length → noY H = true → W P (some l) body (RdBack J JZ k tmps.size mb) ⟨(t, x) :: ρ, tmps.size, H, mb, []⟩) :
    YLaw P (mkY p0 ρ tmps mb σb l fn t body d xs J JZ) := by
  rintro k x vs p σ w ⟨pO, σO, H, hJ, hM⟩ hx hvs hlt hul hll
  obtain ⟨v, rfl, hv⟩ := one_val (plain_one (hxs k x hx)) hvs
  have hul : ¬ p.u l := hul
  have hll : l < w.heap.size := hll
  refine ⟨fn, tmps.setIfInBounds t v, .skip, body, ?_, ?_⟩
  · show (Instr.yield l #[v]).run P w = .ok (.round l fn (tmps.setIfInBounds t v) .skip body) w
    rw [run_yield hM.lrec (by simp [recOf])]
    simp [recOf]
  show RoundIn Fence.wide 0 P l fn (tmps.setIfInBounds t v) .skip body w _
  refine roundIn_of_wpIn trivial (wpIn_skip ?_)
  refine ⟨_, run_beginRound hM.lrec rfl, ?_⟩
  let w2 := w.putObj l (.loop (recOf fn tmps #[t] body d .busy none))
  show body.wpIn (Fr (some l)) 0 P _ _ w2
  have hsh2 : Shape w w2 := Shape.putLoop hM.lrec _
  have hlr : ¬ pO.r l := fun h => (hM.back l h).elim (fun h => hul (p.sub l (hM.p0r l h))) fun h => hul (p.fu l h)
  let liveO : Nat → Prop := fun b => ∃ (i : Nat) (q : Blk), H[i]? = some (some q) ∧ σO[i]? = some b
  have hlive : ∀ b, liveO b → p.f b ∧ ¬ pO.u b ∧ b < w.heap.size := fun b ⟨i, q, h1, h2⟩ => by
    obtain ⟨r', g1, g2, g3, _⟩ := hM.heap.blk i q h1
    rw [h2] at g1
    injection g1 with g1
    subst g1
    exact ⟨hM.live i b q h1 h2, g2, g3⟩
  have hll2 : ¬ liveO l := fun h => hul (p.fu l (hlive l h).1)
  have sz2 : w2.heap.size = w.heap.size := by simp [w2]
  have oth2 : ∀ b, b ≠ l → w2.heap[b]? = w.heap[b]? := fun b hb => World.putObj_heap_other hb
  let pR : PQ := ⟨pO.r, fun b => b < w.heap.size ∧ ¬ liveO b, fun _ => False, fun b hb => ⟨hM.heap.lt b (pO.sub b hb), fun h => (hlive b h).2.1 (pO.sub b hb)⟩, fun _ h => h.elim, fun _ h => h.elim⟩
  have hHR : HRel pR σO H w2 := hM.heap.same hM.noY (fun _ h => h) (fun b hb => oth2 b fun e => hlr (e ▸ hb)) hsh2 (fun b hb => by rw [sz2]; exact hb.1) fun i q r h1 h2 =>
    ⟨fun h => h.2 ⟨i, q, h1, h2⟩, oth2 r fun e => hll2 (e ▸ ⟨i, q, h1, h2⟩)⟩
  have σmono : ∀ (i r : Nat), σb[i]? = some r → σO[i]? = some r := fun i r hi => by
    rw [hM.nam i (by rw [← hM.bl]; exact (List.getElem?_eq_some_iff.1 hi).1)]
    exact hi
  have hRel : Rel pR σO ⟨(t, x) :: ρ, tmps.size, H, mb, []⟩ { tmps := tmps.setIfInBounds t v, defers := [] } w2 := by
    refine ⟨by simp, trivial, fun u => ?_, hHR, hM.len⟩
    simp only [get]
    by_cases hu : t = u
    · subst hu
      rw [Nat.beq_refl]
      simp only [cond_true]
      have : (tmps.setIfInBounds t v).getD t undef = v := by simp [Array.getD_eq_getD_getElem?, ht]
      rw [this]
      exact hv.ofPlain (hxs k x hx)
    · rw [beq_ne hu]
      simp only [cond_false]
      have : (tmps.setIfInBounds t v).getD u undef = tmps.getD u undef := by simp [Array.getD_eq_getD_getElem?, Array.getElem?_setIfInBounds_ne hu]
      rw [this]
      exact (hM.env u).mono' (p := pO) (p' := pR) (fun _ h => h) (fun b hb => oth2 b fun e => hlr (e ▸ hb)) hsh2 σmono
  have hW := hround k x H hx hJ hM.len hM.noY
  rw [W_eq] at hW
  refine wpIn_mono (hW pR σO _ w2 hRel) ?_
  rintro e a' w' ⟨ae, p', σ', s', rfl, g2, g3, g4, g5, g6, g7⟩
  rw [RdBack_eq] at g7
  obtain ⟨H3, hwk, hY3, hl3, hJ3⟩ := g7
  rw [Wk_eq] at hwk
  obtain ⟨k1, k2, k3⟩ := hwk
  obtain ⟨p2, σ2, e1, m1, r1⟩ := k3 p' σ' a' w' g4
  have hex := g2.trans e1
  have hnam : ∀ i, i < mb → σ2[i]? = σO[i]? := fun i hi => (m1 i (by rw [g5]; exact hi)).trans (g3 i hi)
  have hpl : pR.u l := ⟨hll, hll2⟩
  have hrec : w'.heap[l]? = some (.loop (recOf fn tmps #[t] body d .busy none)) := (g2.same l hpl (fun h => h)).trans (World.putObj_heap_same hll)
  have hll' : l < w'.heap.size := (Array.getElem?_eq_some_iff.1 hrec).1
  have h2l : ¬ p2.r l := fun h => (hex.back l h).elim hlr fun h => h hpl
  have new : ∀ b, ¬ pR.u b → p.f b ∨ w.heap.size ≤ b := fun b hb => by
    by_cases hlt' : b < w.heap.size
    · by_cases hlv : liveO b
      · exact .inl (hlive b hlv).1
      · exact absurd ⟨hlt', hlv⟩ hb
    · exact .inr (by omega)
  have fin : ∀ (st : LoopState) (pend : Option Code), Mid p0 ρ tmps mb σb l (recOf fn tmps #[t] body d st pend) (grow p w (w'.putObj l (.loop (recOf fn tmps #[t] body d st pend)))) (w'.putObj l (.loop (recOf fn tmps #[t] body d st pend))) p2 σ2 H3 ∧
      (∀ c, c < w.heap.size → ¬ p.f c → c ≠ l → (w'.putObj l (.loop (recOf fn tmps #[t] body d st pend))).heap[c]? = w.heap[c]?) ∧ Shape w (w'.putObj l (.loop (recOf fn tmps #[t] body d st pend))) := fun st pend => by
    have hsh3 : Shape w' (w'.putObj l (.loop (recOf fn tmps #[t] body d st pend))) := Shape.putLoop hrec _
    have oth3 : ∀ b, b ≠ l → (w'.putObj l (.loop (recOf fn tmps #[t] body d st pend))).heap[b]? = w'.heap[b]? := fun b hb => World.putObj_heap_other hb
    have sz3 : (w'.putObj l (.loop (recOf fn tmps #[t] body d st pend))).heap.size = w'.heap.size := by simp
    have rec3 : (w'.putObj l (.loop (recOf fn tmps #[t] body d st pend))).heap[l]? = some (.loop (recOf fn tmps #[t] body d st pend)) := World.putObj_heap_same hll'
    generalize w'.putObj l (.loop (recOf fn tmps #[t] body d st pend)) = w3 at *
    have hshA : Shape w w3 := (hsh2.trans g2.shape).trans hsh3
    have grown : ∀ b, ¬ pR.u b → b < w'.heap.size → (grow p w w3).f b := fun b hb hbl => (new b hb).imp id fun h => ⟨h, by omega, fun hr => by have := hlt b (p.sub b hr); omega⟩
    have rsame : ∀ b, p2.r b → w3.heap[b]? = w'.heap[b]? := fun b hb => oth3 b fun e => h2l (e ▸ hb)
    have osame : ∀ b, pO.r b → w3.heap[b]? = w.heap[b]? := fun b hb => (oth3 b fun e => hlr (e ▸ hb)).trans ((g2.same b (pR.sub b hb) (fun h => h)).trans (oth2 b fun e => hlr (e ▸ hb)))
    have lv : ∀ (i : Nat) (q : Blk) (r : Nat), H3[i]? = some (some q) → σ2[i]? = some r → ¬ p2.u r ∧ r < w'.heap.size := fun i q r h1 h2 => by
      obtain ⟨r', z1, z2, z3, _⟩ := r1.heap.blk i q h1
      rw [h2] at z1
      injection z1 with z1
      subst z1
      exact ⟨z2, z3⟩
    refine ⟨⟨hM.bl, hl3, r1.heap.same hY3 (fun _ h => h) rsame hsh3 (fun b hb => by rw [sz3]; exact r1.heap.lt b hb) fun i q r h1 h2 => ⟨(lv i q r h1 h2).1, oth3 r fun e => (lv i q r h1 h2).1 (e ▸ hex.subu l hpl)⟩, fun i hi => (hnam i hi).trans (hM.nam i hi), hY3,
      fun b hb => hex.subr b (hM.subr b hb), fun b hb => ?_, fun i r q h1 h2 => grown r (fun h => (lv i q r h1 h2).1 (hex.subu r h)) (lv i q r h1 h2).2, hM.p0r, fun u => (hM.env u).mono' (p := pO) (p' := p2) (fun b hb => hex.subr b hb) osame hshA (fun _ _ h => h), rec3⟩, fun c hc hcf hcl => ?_, hshA⟩
    · rcases hex.back b hb with h | h
      · exact (hM.back b h).imp id .inl
      · exact .inr (grown b h (r1.heap.lt b (p2.sub b hb)))
    · exact (oth3 c hcl).trans ((g2.same c ⟨hc, fun h => hcf (hlive c h).1⟩ (fun h => h)).trans (oth2 c hcl))
  cases ae with
  | normal =>
    obtain ⟨f1, f2, f3⟩ := fin .ready none
    exact ⟨_, _, run_endRound none hrec, true, rfl, fun _ => ⟨p2, σ2, H3, hJ3, f1⟩, fun h => by simp at h, f2, f3⟩
  | exit i =>
    obtain ⟨f1, f2, f3⟩ := fin .done (some (.exit i))
    exact ⟨_, _, run_endRound (some (.exit i)) hrec, false, rfl, fun h => by simp at h, fun _ => ⟨p2, σ2, H3, .exit i, _, hJ3, rfl, f1⟩, f2, f3⟩
  | goto i =>
    obtain ⟨f1, f2, f3⟩ := fin .done (some (.goto i))
    exact ⟨_, _, run_endRound (some (.goto i)) hrec, false, rfl, fun h => by simp at h, fun _ => ⟨p2, σ2, H3, .goto i, _, hJ3, rfl, f1⟩, f2, f3⟩
  | ret =>
    obtain ⟨f1, f2, f3⟩ := fin .done (some .ret)
    exact ⟨_, _, run_endRound (some .ret) hrec, false, rfl, fun h => by simp at h, fun _ => ⟨p2, σ2, H3, .ret, _, hJ3, rfl, f1⟩, f2, f3⟩
def hide (g : List Nat) : Heap → Nat → Heap
  | [], _ => []
  | b :: t, j => (bif g.any fun x => Nat.beq x j then none else b) :: hide g t (j + 1)
theorem hide_get (g : List Nat) (H : Heap) : ∀ (j : Nat), (hide g H j).length = H.length ∧ ∀ (i : Nat) (k : Blk), (hide g H j)[i]? = some (some k) → j + i ∉ g ∧ H[i]? = some (some k) := by
  induction H with
  | nil => intro j; exact ⟨rfl, fun i k h => by simp [hide] at h⟩
  | cons b t ih =>
    intro j
    obtain ⟨h1, h2⟩ := ih (j + 1)
    refine ⟨by simp [hide, h1], fun i k hk => ?_⟩
    cases i with
    | zero =>
      simp only [hide, List.getElem?_cons_zero, Option.some.injEq] at hk
      cases hb : (g.any fun x => Nat.beq x j) with
      | true => rw [hb] at hk; simp at hk
      | false =>
        rw [hb] at hk
        simp only [cond_false] at hk
        refine ⟨fun hm => ?_, by simp [hk]⟩
        have := (List.any_eq_true (p := fun x => Nat.beq x j)).2 ⟨j + 0, hm, by simp⟩
        rw [hb] at this
        simp at this
    | succ i =>
      simp only [hide, List.getElem?_cons_succ] at hk ⊢
      obtain ⟨h3, h4⟩ := h2 i k hk
      exact ⟨by rw [show j + (i + 1) = j + 1 + i by omega]; exact h3, h4⟩
theorem noY_of {H : Heap} (h : ∀ (i : Nat) (k : Blk), H[i]? = some (some k) → isY k = false) : noY H = true := by
  induction H with
  | nil => rfl
  | cons b t ih =>
    have ht := ih fun i k hk => h (i + 1) k (by simpa using hk)
    cases b with
    | none => exact ht
    | some k => simp only [noY, Bool.and_eq_true, Bool.not_eq_true']; exact ⟨h 0 k rfl, ht⟩
theorem HRel.less {p : PQ} {σ : List Nat} {H H' : Heap} {w : World} (h : HRel p σ H w) (hl : H'.length = H.length) (hs : ∀ (i : Nat) (k : Blk), H'[i]? = some (some k) → H[i]? = some (some k)) : HRel p σ H' w :=
  ⟨by rw [h.len, hl], h.lt, fun i k hk => h.blk i k (hs i k hk), fun i j r k l hk hl => h.inj i j r k l (hs i k hk) (hs j l hl), h.gl⟩
theorem W_range {gop : Operand} {f : FuncId} {fs cs fs0 cs0 : List AV} (gl : List Nat) {H H0 : Heap} {ρ : Env} {n m : Nat} {df : List DF} {t : Tmp} {body : Code} {Q : AEx → St → Prop} (xs : List AV) (J : Nat → Heap → Prop) (JZ : AEx → Heap → Prop)
    (hg : evalO (get ρ) gop = .clos (.func f) fs cs) (hlt : (gl.all fun x => Nat.blt x H.length) = true) (hnd : noDup gl = true) (hle : HLe gl gl.length H H0 gl) (hfs : fs = renL (gOf gl) fs0) (hcs : cs = renL (gOf gl) cs0)
    (hlf : lowL gl.length fs0 = true) (hlc : lowL gl.length cs0 = true) (ht : t < n) (hY : noY H = true) (hxs : ∀ (k : Nat) (x : AV), xs[k]? = some x → plain x = true)
    (hcall : ∀ Y : Ysp, Y.xs = xs → YLaw P Y → Tri P f (fs0 ++ [.clos (.yield Y.l) [] []] ++ cs0) (H0 ++ [some (.yl Y 0)]) fun v H1 => H1[gl.length]? = some (some (.yl Y xs.length)) ∨ H1[gl.length]? = some (some (.yz Y)))
    (hJ0 : J 0 (hide gl H 0 ++ [some .dfr]))
    (hround : ∀ (l k : Nat) (x : AV) (H' : Heap), xs[k]? = some x → J k H' → H.length + 1 ≤ H'.length → noY H' = true → W P (some l) body (RdBack J JZ k n (H.length + 1)) ⟨(t, x) :: ρ, n, H', H.length + 1, []⟩)
    (hend : ∀ H', J xs.length H' → H.length + 1 ≤ H'.length → noY H' = true → Q .normal ⟨ρ, n, H', m, .mk H.length :: df⟩)
    (hZ : ∀ e H' c, isExit e c → JZ e H' → H.length + 1 ≤ H'.length → noY H' = true → Q e ⟨ρ, n, H', m, .mk H.length :: df⟩) :
    W P none (.rangeFunc gop #[t] .skip body) Q ⟨ρ, n, H, m, df⟩ := by
  rw [W_eq]
  intro p σ a w hR
  have hsz : a.tmps.size = n := hR.size
  have hH : HRel p σ H w := hR.heap
  have hlt' : ∀ x ∈ gl, x < H.length := fun x hx => by simpa [Nat.blt_eq] using List.all_eq_true.1 hlt x hx
  refine wpIn_rangeFunc fun fn _ => ?_
  have hv := evalO_rel hR gop
  simp only [hg] at hv
  generalize hve : a.eval gop = v at hv
  cases hv with
  | clos _ _ _ fs' cs' h1 h2 h3 h4 =>
  let rec_ : Loop := recOf fn a.tmps #[t] body w.heap.size .ready none
  let wd : World := pushW w (.deferred (some []))
  let w1 : World := pushW wd (.loop rec_)
  let l : Nat := w.heap.size + 1
  let σb := σ ++ [w.heap.size]
  have hszd : wd.heap.size = w.heap.size + 1 := pushW_size
  have hsz1 : w1.heap.size = w.heap.size + 2 := by simp [w1, pushW_size, hszd]
  have exd : Ext p w p wd := .push hH.lt _
  have hltd : ∀ b, p.u b → b < wd.heap.size := fun b hb => by have := hH.lt b hb; omega
  have ex1 : Ext p wd p w1 := .push hltd _
  have exA : Ext p w p w1 := exd.trans ex1
  have old : ∀ b, b < w.heap.size → w1.heap[b]? = w.heap[b]? := fun b hb => (pushW_old (by omega)).trans (pushW_old hb)
  have hlrec : w1.heap[l]? = some (.loop rec_) := by
    show w1.heap[w.heap.size + 1]? = _
    rw [← hszd]
    exact pushW_new
  have hHd : HRel p σb (H ++ [some .dfr]) wd := hH.push _ .dfr pushW_new
  have hlive : ∀ (i r : Nat) (k : Blk), (H ++ [some Blk.dfr])[i]? = some (some k) → σb[i]? = some r → ¬ p.u r ∧ r < wd.heap.size := fun i r k hk hr => by
    obtain ⟨r', z1, z2, z3, _⟩ := hHd.blk i k hk
    rw [hr] at z1
    injection z1 with z1
    subst z1
    exact ⟨z2, z3⟩
  have hYd : noY (H ++ [some .dfr]) = true := noY_of fun i k hk => by
    rcases Nat.lt_or_ge i H.length with hi | hi
    · rw [List.getElem?_append_left hi] at hk
      exact noY_get hY hk
    · rw [List.getElem?_append_right hi] at hk
      cases hj : i - H.length with
      | zero => rw [hj] at hk; simp at hk; subst hk; rfl
      | succ j => rw [hj] at hk; simp at hk
  have hH1 : HRel p σb (H ++ [some .dfr]) w1 := hHd.same hYd (fun _ h => h) (fun b hb => ex1.same b (p.sub b hb) fun hf => p.fr b hf hb) ex1.shape (fun b hb => by have := hltd b hb; omega) fun i k r hk hr =>
    ⟨(hlive i r k hk hr).1, pushW_old (hlive i r k hk hr).2⟩
  let Hb : Heap := hide gl H 0 ++ [some .dfr]
  obtain ⟨hhl, hhg⟩ := hide_get gl H 0
  have hbl : Hb.length = H.length + 1 := by simp [Hb, hhl]
  have hbg : ∀ (i : Nat) (k : Blk), Hb[i]? = some (some k) → i ∉ gl ∧ (H ++ [some Blk.dfr])[i]? = some (some k) := fun i k hk => by
    rcases Nat.lt_or_ge i H.length with hi | hi
    · rw [List.getElem?_append_left (by rw [hhl]; exact hi)] at hk
      obtain ⟨z1, z2⟩ := hhg i k hk
      exact ⟨by simpa using z1, by rw [List.getElem?_append_left hi]; exact z2⟩
    · rw [List.getElem?_append_right (by rw [hhl]; exact hi), hhl] at hk
      exact ⟨fun hm => by have := hlt' i hm; omega, by rw [List.getElem?_append_right hi]; exact hk⟩
  have hHb : HRel p σb Hb w1 := hH1.less (by rw [hbl]; simp) fun i k hk => (hbg i k hk).2
  let L : Nat → Prop := fun r => ∃ (i : Nat) (k : Blk), Hb[i]? = some (some k) ∧ σb[i]? = some r
  have hL : ∀ r, L r → ¬ p.u r ∧ r < wd.heap.size := fun r ⟨i, k, z1, z2⟩ => hlive i r k (hbg i k z1).2 z2
  let p0 : PQ := ⟨p.r, fun b => p.u b ∨ L b, L, fun b h => .inl (p.sub b h), fun b h => .inr h, fun b h hr => (hL b h).1 (p.sub b hr)⟩
  have hσl : σ.length = H.length := hH.len
  have σleft : ∀ (i r : Nat), σ[i]? = some r → σb[i]? = some r := mono_append _
  let Y := mkY p ρ a.tmps (H.length + 1) σb l fn t body w.heap.size xs J JZ
  have hMid : Mid p ρ a.tmps (H.length + 1) σb l rec_ p0 w1 p σb Hb :=
    ⟨by simp [σb, hσl], Nat.le_of_eq hbl.symm, hHb, fun _ _ => rfl, noY_of fun i k hk => noY_get hYd (hbg i k hk).2, fun _ h => h, fun b h => .inl h, fun i r k hk hr => ⟨i, k, hk, hr⟩, fun _ h => h, fun u => (hR.env u).mono exA σleft, hlrec⟩
  have hlaw : YLaw P Y := mkY_law (by rw [hsz]; exact ht) hxs fun k x H' e1 e2 e3 e4 => by rw [hsz]; exact hround l k x H' e1 e2 e3 e4
  have hT := hcall Y rfl hlaw
  rw [Tri_eq] at hT
  obtain ⟨hent, hT⟩ := hT
  have hlen0 : H0.length = gl.length := (HLe_get H0 gl hle).1
  have hget0 := (HLe_get H0 gl hle).2
  have hsg := renS_get (σ := σ) (g := gl) rfl (by rw [hσl]; exact hlt')
  have hgi : ∀ (i j : Nat), gl[i]? = some j → (renS gl σ)[i]? = σ[j]? := fun i j h => by
    have hi := (List.getElem?_eq_some_iff.1 h).1
    rw [hsg i hi]
    simp [gOf, List.getD_eq_getElem?_getD, h]
  have hY0 : noY H0 = true := noY_of fun i k hk => by
    obtain ⟨j, z1, z2, _⟩ := hget0 i k hk
    have := noY_get hY z2
    cases k <;> first | rfl | simp [renB, isY] at this
  have hH0 : HRel p (renS gl σ) H0 wd := (hH.ren hlt' hnd hle).same hY0 (fun _ h => h) (fun b hb => exd.same b (p.sub b hb) fun hf => p.fr b hf hb) exd.shape hltd fun i k r hk hr => by
    obtain ⟨r', z1, z2, z3, _⟩ := (hH.ren hlt' hnd hle).blk i k hk
    rw [hr] at z1
    injection z1 with z1
    subst z1
    exact ⟨z2, pushW_old z3⟩
  have hH0' : HRel p0 (renS gl σ) H0 wd := hH0.same hY0 (fun _ h => h) (fun _ _ => rfl) (.refl wd) (fun b hb => hb.elim (hltd b) fun h => (hL b h).2) fun i k r hk hr => by
    obtain ⟨r', z1, z2, z3, _⟩ := hH0.blk i k hk
    rw [hr] at z1
    injection z1 with z1
    subst z1
    refine ⟨fun hu => hu.elim z2 fun ⟨j, q, y1, y2⟩ => ?_, rfl⟩
    obtain ⟨j0, e1, e2, _⟩ := hget0 i k hk
    rw [hgi i j0 e1] at hr
    obtain ⟨f1, f2⟩ := hbg j q y1
    have hj0 : j0 < H.length := (List.getElem?_eq_some_iff.1 e2).1
    have := hHd.inj j j0 r q _ f2 (by rw [List.getElem?_append_left hj0]; exact e2) y2 (σleft _ _ hr)
    subst this
    exact f1 (List.mem_iff_getElem?.2 ⟨i, e1⟩)
  have hHc : HRel p0 (renS gl σ ++ [wd.heap.size]) (H0 ++ [some (.yl Y 0)]) w1 := hH0'.push _ (.yl Y 0) ⟨hszd, p, σb, Hb, hJ0, hMid⟩
  let yv : Value := .func (.yield l) #[] #[]
  refine ⟨l, [{ target := .collected w.heap.size, args := #[] }], w1, { target := .fn (.func f) cs', args := fs' ++ #[yv] }, w1, f, fs' ++ #[yv] ++ cs', w1, run_enterLoop_outer fn a.tmps #[t] .skip body, ?_, fun _ _ => trivial, ?_, fun h => by simp [Fr, Fence.wide] at h, ?_⟩
  · have hconst : a.eval (.const (.func (.yield l) #[] #[])) = yv := rfl
    simp [resolve, rangeCall, hve, Deferred.ofValue, hconst]
  · simp only [invoke]
    exact enter_run hent
  have hargs : (fs' ++ #[yv] ++ cs').size = (fs0 ++ [AV.clos (.yield Y.l) [] []] ++ cs0).length ∧
      ∀ (i : Nat) (x : AV) (v : Value), (fs0 ++ [AV.clos (.yield Y.l) [] []] ++ cs0)[i]? = some x → (fs' ++ #[yv] ++ cs')[i]? = some v → VRel p0 (renS gl σ ++ [wd.heap.size]) w1 x v := by
    have part : ∀ (xs xs0 : List AV) (vs : Array Value), xs = renL (gOf gl) xs0 → lowL gl.length xs0 = true → vs.size = xs.length → (∀ (i : Nat) (x : AV) (v : Value), xs[i]? = some x → vs[i]? = some v → VRel p σ w x v) →
        vs.size = xs0.length ∧ ∀ (i : Nat) (x : AV) (v : Value), xs0[i]? = some x → vs[i]? = some v → VRel p0 (renS gl σ ++ [wd.heap.size]) w1 x v := fun xs xs0 vs hx hl hs hr => by
      subst hx
      rw [renL_length] at hs
      refine ⟨hs, fun i x v hx hv => ?_⟩
      have z := hr i (Eng.ren (gOf gl) x) v (by rw [renL_get, hx]; rfl) hv
      exact (z.ren hsg x rfl (lowL_get hl hx)).mono' (p := p) (p' := p0) (fun _ h => h) (fun b hb => exA.same b (p.sub b hb) fun hf => p.fr b hf hb) exA.shape (mono_append _)
    obtain ⟨q1, q2⟩ := part fs fs0 fs' hfs hlf h1 h3
    obtain ⟨r1, r2⟩ := part cs cs0 cs' hcs hlc h2 h4
    obtain ⟨u1, u2⟩ := rel_append (p := p0) (σ := renS gl σ ++ [wd.heap.size]) (w := w1) (xs := fs0) (ys := [AV.clos (.yield Y.l) [] []]) (us := fs') (vs := #[yv]) q1 q2 rfl (fun i x v hx hv => by
      cases i with
      | zero =>
        simp at hx hv
        subst hx hv
        exact .clos (.yield l) [] [] #[] #[] rfl rfl (fun i x v h => by simp at h) (fun i x v h => by simp at h)
      | succ i => simp at hx)
    exact rel_append u1 u2 r1 r2
  show CallsIn (Fr none) 0 P f _ w1 _
  refine callsIn_of ((hT p0 _ w1 _ hHc hargs.1 hargs.2).mono ?_)
  rintro e w2 ⟨v, x, p1, σ1, H1, rfl, hex, hm1, hHR1, _, hq⟩
  have hl1 : σ1[gl.length]? = some l := hm1 _ _ (by
    rw [List.getElem?_append_right (by simp [renS])]
    simp [renS, hszd, l])
  have hul1 : ∀ (k : Blk), H1[gl.length]? = some (some k) → ¬ p1.u l ∧ BRel p1 σ1 w2 k l := fun k hk => by
    obtain ⟨r, z1, z2, _, z4⟩ := hHR1.blk _ k hk
    rw [hl1] at z1
    injection z1 with z1
    subst z1
    exact ⟨z2, z4⟩
  have fin : ∀ (st : LoopState) (pend : Option Code) (pO : PQ) (σO : List Nat) (H' : Heap) (o : Obj), ¬ p1.u l → Mid p ρ a.tmps (H.length + 1) σb l (recOf fn a.tmps #[t] body w.heap.size st pend) p1 w2 pO σO H' → H.length + 1 ≤ H'.length ∧ noY H' = true ∧
      ∃ pf, Ext p w pf (w2.putObj l o) ∧ (∀ i, i < m → σO[i]? = σ[i]?) ∧ Rel pf σO ⟨ρ, n, H', m, .mk H.length :: df⟩ { a with defers := [{ target := .collected w.heap.size, args := #[] }] ++ a.defers } (w2.putObj l o) := fun st pend pO σO H' o hul hM => by
    have hsh4 : Shape w2 (w2.putObj l o) := Shape.putLoop hM.lrec o
    have oth4 : ∀ b, b ≠ l → (w2.putObj l o).heap[b]? = w2.heap[b]? := fun b hb => World.putObj_heap_other hb
    have sz4 : (w2.putObj l o).heap.size = w2.heap.size := by simp
    generalize w2.putObj l o = w4 at *
    have p1f : ∀ b, p1.f b → ¬ p.u b := fun b hb hu => (hex.backf b hb).elim (fun h => (hL b h).1 hu) fun h => h (.inl hu)
    have hlr : ¬ pO.r l := fun h => (hM.back l h).elim (fun h => by have := hH.lt l (p.sub l h); omega) fun h => hul (p1.fu l h)
    have lv : ∀ (i r : Nat) (k : Blk), H'[i]? = some (some k) → σO[i]? = some r → ¬ pO.u r := fun i r k hk hr => by
      obtain ⟨r', z1, z2, _⟩ := hM.heap.blk i k hk
      rw [hr] at z1
      injection z1 with z1
      subst z1
      exact z2
    let pf : PQ := ⟨pO.r, fun b => p.u b ∨ pO.r b, p.f, fun _ h => .inr h, fun b h => .inl (p.fu b h), fun b h hr => (hM.back b hr).elim (p.fr b h) fun h1 => p1f b h1 (p.fu b h)⟩
    have σfin : ∀ (i r : Nat), σb[i]? = some r → σO[i]? = some r := fun i r hi => by
      rw [hM.nam i (by rw [← hM.bl]; exact (List.getElem?_eq_some_iff.1 hi).1)]
      exact hi
    have rsame : ∀ b, pO.r b → w4.heap[b]? = w2.heap[b]? := fun b hb => oth4 b fun e => hlr (e ▸ hb)
    refine ⟨hM.len, hM.noY, pf, ⟨fun b hb => hM.subr b hb, fun b hb => .inl hb, fun b hb => (hM.back b hb).imp id (p1f b), fun _ h => h, fun _ h => .inl h, fun b hb hf => ?_, (exA.shape.trans hex.shape).trans hsh4⟩, fun i hi => ?_, ⟨hsz, ?_, fun u => ?_, ?_, ?_⟩⟩
    · have hbw := hH.lt b hb
      exact (oth4 b (by omega)).trans ((hex.same b (.inl hb) fun h => (hL b h).1 hb).trans (old b hbw))
    · have hi' : i < H.length := Nat.lt_of_lt_of_le hi hR.m
      rw [hM.nam i (by omega), List.getElem?_append_left (by rw [hσl]; exact hi')]
    · refine ⟨⟨w.heap.size, σfin _ _ ?_, rfl⟩, DRel.mono (fun i r h => σfin i r (σleft i r h)) _ _ hR.df⟩
      rw [← hσl]
      simp [σb]
    · exact (hM.env u).mono' (p := pO) (p' := pf) (fun _ h => h) rsame hsh4 σfin
    · refine hM.heap.same hM.noY (fun _ h => h) rsame hsh4 (fun b hb => ?_) fun i k r hk hr => ⟨fun h => h.elim (p1f r (hM.live i r k hk hr)) fun h => lv i r k hk hr (pO.sub r h), oth4 r fun e => hul (p1.fu l (e ▸ hM.live i r k hk hr))⟩
      rw [sz4]
      exact hb.elim (fun h => by have := hH.lt b h; have := (exA.shape.trans hex.shape).1; omega) fun h => hM.heap.lt b (pO.sub b h)
    · exact Nat.le_trans hR.m (Nat.le_trans (Nat.le_succ _) hM.len)
  rcases hq with hq | hq
  · obtain ⟨hul, hb⟩ := hul1 _ hq
    obtain ⟨_, pO, σO, H', hJ, hM⟩ := hb
    obtain ⟨f1, f2, pf, f3, f4, f5⟩ := fin _ _ pO σO H' (.loop { recOf fn a.tmps #[t] body w.heap.size .ready none with state := .exhausted }) hul hM
    refine ⟨none, _, run_endLoop hM.lrec (by simp [recOf]), ?_⟩
    exact ⟨.normal, pf, σO, _, rfl, f3, f4, f5, rfl, rfl, hend H' hJ f1 f2⟩
  · obtain ⟨hul, hb⟩ := hul1 _ hq
    obtain ⟨_, pO, σO, H', e, c, hJ, hc, hM⟩ := hb
    obtain ⟨f1, f2, pf, f3, f4, f5⟩ := fin _ _ pO σO H' (.loop { recOf fn a.tmps #[t] body w.heap.size .done (some c) with state := .exhausted }) hul hM
    refine ⟨some c, _, run_endLoop hM.lrec (by simp [recOf]), ?_⟩
    have post : Post p w σ ⟨ρ, n, H, m, df⟩ Q (exR e) { a with defers := [{ target := .collected w.heap.size, args := #[] }] ++ a.defers } (w2.putObj l (.loop { recOf fn a.tmps #[t] body w.heap.size .done (some c) with state := .exhausted })) :=
      ⟨e, pf, σO, _, rfl, f3, f4, f5, rfl, rfl, hZ e H' c hc hJ f1 f2⟩
    cases e with
    | normal => exact hc.elim
    | exit i => obtain rfl := hc; exact wpIn_exit post
    | goto i => obtain rfl := hc; exact wpIn_goto post
    | ret => obtain rfl := hc; exact wpIn_ret post
end
end Go.Eng
namespace Go.Eng
open Go
abbrev D.i (n : Int) : D := .int .i64 n
abbrev AV.i (n : Int) : AV := .d (.int .i64 n)
abbrev AV.b (b : Bool) : AV := .d (.bool b)
structure Attr where
  name : Int
  value : Int
  deriving DecidableEq, Repr
structure Node where
  kind : Int
  tag : Int
  parent : Int
  kids : List Int
  host : Int
  root : Int
  attrs : List Attr
  deriving DecidableEq, Repr
def Attr.cs (a : Attr) : List D := [.i a.name, .i a.value]
def intCs (n : Int) : List D := [.i n]
def ints (l : List Int) : D := .sl (l.map intCs)
def attrsD (l : List Attr) : D := .sl (l.map Attr.cs)
def Node.cs (x : Node) : List D := [.i x.kind, .i x.tag, .i x.parent, ints x.kids, .i x.host, .i x.root, attrsD x.attrs]
def treeD (t : List Node) : D := .sl (t.map Node.cs)
def aggD (l : List D) : AV := .agg (l.map .d)
end Go.Eng
namespace Go.Eng
instance : Inhabited Attr := ⟨⟨0, 0⟩⟩
instance : Inhabited Node := ⟨⟨0, 0, 0, [], 0, 0, []⟩⟩
abbrev Tree := List Node
def inB (n l m : Int) : Bool := decide (l ≤ n ∧ n ≤ m)
@[irreducible] def isN (t : Tree) (n : Int) : Bool := decide (0 ≤ n ∧ n < t.length)
def nd (t : Tree) (n : Int) : Node := t.getD n.toNat default
theorem nd_row {t : Tree} {n : Int} (h : isN t n = true) : (t.map Node.cs)[n.toNat]? = some (nd t n).cs := by
  unfold isN at h
  have := of_decide_eq_true h
  have hl : n.toNat < t.length := by omega
  simp [nd, hl]
theorem nd_pos {t : Tree} {n : Int} (h : isN t n = true) : 0 ≤ n := by
  unfold isN at h; have := of_decide_eq_true h; omega
theorem Idx_nd {t : Tree} {n : Int} {sz : Nat} {K : List D → Prop} (h : isN t n = true) (hs : (nd t n).cs.length = sz) (hK : K (nd t n).cs) : IdxK (t.map Node.cs) n sz K :=
  Idx_in _ (nd_row h) (nd_pos h) hs hK
theorem isN_nat {t : Tree} {k : Nat} (h : k < t.length) : isN t (k : Int) = true := by simp [isN, h]
theorem beqT {x y : Int} (h : x = y) : (x == y) = true := by simp [h]
theorem beqF {x y : Int} (h : x ≠ y) : (x == y) = false := by simp [h]
theorem bneT {x y : Int} (h : x ≠ y) : (x != y) = true := by simp [h]
theorem bneF {x y : Int} (h : x = y) : (x != y) = false := by simp [h]
theorem not_any_not {α : Type} (l : List α) (p : α → Bool) : (!l.any fun k => !p k) = l.all p := by
  induction l with
  | nil => rfl
  | cons a r ih => simp only [List.any_cons, List.all_cons, Bool.not_or, Bool.not_not, ih]
def ix {α : Type} (p : α → Bool) : List α → Int
  | [] => -1
  | a :: r => if p a then 0 else (let i := ix p r; if i < 0 then -1 else i + 1)
theorem ix_lo {α : Type} (p : α → Bool) (l : List α) : -1 ≤ ix p l ∧ ix p l < l.length := by
  induction l with
  | nil => simp [ix]
  | cons a r ih => simp only [ix, List.length_cons]; split <;> (try split) <;> omega
theorem ix_any {α : Type} (p : α → Bool) (l : List α) : decide (0 ≤ ix p l) = l.any p := by
  induction l with
  | nil => rfl
  | cons a r ih =>
    have := ix_lo p r
    rw [Bool.eq_iff_iff] at ih ⊢
    simp only [decide_eq_true_eq, ix, List.any_cons, Bool.or_eq_true] at ih ⊢
    split
    · simp_all
    · rename_i h; simp only [h]; rw [← ih]; split <;> simp <;> omega
theorem ix_drop {α : Type} (p : α → Bool) (l : List α) : ∀ k, (∀ j (h : j < l.length), j < k → p l[j] = false) → k ≤ l.length → ix p l = (if ix p (l.drop k) < 0 then -1 else ix p (l.drop k) + k) := by
  induction l with
  | nil => intro k _ hk; simp at hk; subst hk; simp [ix]
  | cons a r ih =>
    intro k h hk
    cases k with
    | zero => have := ix_lo p (a :: r); simp only [List.drop_zero]; split <;> omega
    | succ k =>
      have h0 : p a = false := h 0 (by simp) (by omega)
      have := ih k (fun j hj hjk => by have := h (j + 1) (by simp; omega) (by omega); simpa using this) (by simpa using hk)
      simp only [List.drop_succ_cons]
      simp only [ix, h0, Bool.false_eq_true, if_false]
      rw [this]
      split <;> (try split) <;> (try omega)
theorem ix_count (l : List Int) (n : Int) : (decide (0 ≤ ix (· == n) l) && !((l.drop (ix (· == n) l + 1).toNat).any (· == n))) = (l.count n == 1) := by
  induction l with
  | nil => rfl
  | cons a r ih =>
    have hl := ix_lo (· == n) r
    simp only [ix]
    by_cases h : a == n
    · simp only [h, if_true]
      have e : a = n := by simpa using h
      subst e
      rw [List.count_cons_self]
      rw [Bool.eq_iff_iff]
      simp
      rw [List.count_eq_zero]
      constructor
      · intro h1 h2; exact h1 a h2 rfl
      · intro h1 x hx e; subst e; exact h1 hx
    · simp only [h]
      have e : (a == n) = false := by simpa using h
      rw [List.count_cons, e]
      simp only [Bool.false_eq_true, if_false, Nat.add_zero]
      rw [← ih]
      split
      · have : ix (· == n) r = -1 := by omega
        rw [this]; simp
      · rename_i h2
        have : (ix (· == n) r + 1 + 1).toNat = (ix (· == n) r + 1).toNat + 1 := by omega
        rw [this, List.drop_succ_cons]
        have h3 : (0 : Int) ≤ ix (· == n) r + 1 := by omega
        have h4 : (0 : Int) ≤ ix (· == n) r := by omega
        simp [h3, h4]
@[irreducible] def onceB (l : List Int) (n : Int) : Bool := l.count n == 1
@[irreducible] def valueB (name v : Int) : Bool :=
  if name = 0 then decide (-2147483648 ≤ v ∧ v ≤ 2147483647)
  else if name = 4 then decide (0 ≤ v ∧ v ≤ 2147483647)
  else if name = 6 then decide (1 ≤ v ∧ v ≤ 3)
  else if name = 9 then decide (0 ≤ v ∧ v ≤ 63)
  else decide (v = 0)
def ofSh (name : Int) : Bool := decide (name = 7 ∨ name = 8)
def attrsFrom (sh : Bool) : Int → List Attr → Bool
  | _, [] => true
  | last, a :: r => decide (last < a.name) && decide (a.name < 10) && valueB a.name a.value && (ofSh a.name == sh) && attrsFrom sh a.name r
@[irreducible] def attrsB (x : Node) : Bool := attrsFrom (decide (x.kind = 3)) (-1) x.attrs && (decide (x.attrs = []) || decide (x.kind = 1) || decide (x.kind = 3))
@[irreducible] def belowB (t : Tree) (n k : Int) : Bool := isN t k && onceB (nd t n).kids k && decide ((nd t k).parent = n) && (decide ((nd t k).kind = 1) || decide ((nd t k).kind = 2))
@[irreducible] def shadowB (t : Tree) (n : Int) : Bool :=
  let x := nd t n
  if x.kind = 3 then decide (x.root = -1) && decide (x.parent = -1) && isN t x.host && decide ((nd t x.host).kind = 1) && decide ((nd t x.host).root = n)
  else if x.host ≠ -1 then false
  else if x.root = -1 then true
  else decide (x.kind = 1) && isN t x.root && decide ((nd t x.root).kind = 3) && decide ((nd t x.root).host = n)
@[irreducible] def kindB (x : Node) (n : Int) : Bool := decide (0 ≤ x.kind ∧ x.kind ≤ 3) && (decide (x.kind = 0) == decide (n = 0)) && (if x.kind = 1 then decide (0 ≤ x.tag ∧ x.tag ≤ 4) else decide (x.tag = 0))
@[irreducible] def parB (t : Tree) (x : Node) (n : Int) : Bool := decide (x.parent = -1) || (isN t x.parent && onceB (nd t x.parent).kids n)
@[irreducible] def nodeB (t : Tree) (n : Int) : Bool :=
  kindB (nd t n) n && !(decide ((nd t n).kind = 2) && !decide ((nd t n).kids = [])) && parB t (nd t n) n && attrsB (nd t n) && shadowB t n && (nd t n).kids.all (belowB t n)
def upN (x : Node) : Int := if x.kind = 3 then x.host else x.parent
def endsF (t : Tree) : Nat → Int → Bool
  | 0, _ => false
  | f + 1, n => decide (n = -1) || endsF t f (upN (nd t n))
@[irreducible] def endsB (t : Tree) (n : Int) : Bool := endsF t (t.length + 1) n
@[irreducible] def mayB (t : Tree) : Bool := decide (1 ≤ t.length ∧ t.length ≤ 64) && ((List.range t.length).all fun n => nodeB t n) && (List.range t.length).all fun n => endsB t n
end Go.Eng
namespace Go.Eng
abbrev hi (x : Node) : Int := if x.host > x.parent then x.host else x.parent
def climb (t : Tree) : Nat → Int → List Int
  | 0, _ => []
  | f + 1, n => if n = -1 then [] else n :: climb t f (hi (nd t n))
theorem climb_len (t : Tree) (f : Nat) : ∀ n, (climb t f n).length ≤ f := by
  induction f with
  | zero => intro n; simp [climb]
  | succ f ih => intro n; simp only [climb]; split <;> simp; have := ih (hi (nd t n)); omega
def okN (t : Tree) (n : Int) : Prop := n = -1 ∨ isN t n = true
def Ups (t : Tree) : Prop := ∀ n, isN t n = true → okN t (hi (nd t n)) ∧ hi (nd t n) = upN (nd t n)
theorem climb_ends (t : Tree) (hu : Ups t) (f : Nat) : ∀ n, okN t n → decide ((climb t f n).length > f - 1) = (!endsF t f n || decide (f = 0) && false) ∨ f = 0 := by
  induction f with
  | zero => intro n _; exact .inr rfl
  | succ f ih =>
    intro n hn
    left
    simp only [climb, endsF]
    rcases hn with h | h
    · simp [h]
    · have h1 : n ≠ -1 := by have := nd_pos h; omega
      simp only [h1, if_false, List.length_cons]
      obtain ⟨h2, h3⟩ := hu n h
      rcases ih _ h2 with h4 | h4
      · rw [h3] at h4 ⊢
        have h5 := climb_len t f (upN (nd t n))
        rcases Nat.eq_zero_or_pos f with h6 | h6
        · subst h6; simp [endsF]
        · simp at h4 ⊢
          rw [← h4]
          rw [Bool.eq_iff_iff]; simp; omega
      · subst h4; simp [climb, endsF]
end Go.Eng
set_option linter.unusedVariables false
set_option linter.unusedSimpArgs false
namespace Go.Eng
open Go
def EnvIn (ρ : Env) : Env → Prop
  | [] => True
  | (t, v) :: r => get ρ t = v ∧ EnvIn ρ r
theorem EnvIn_get {ρ : Env} : ∀ {ρ' : Env}, EnvIn ρ ρ' → ∀ t, get ρ' t = .any ∨ get ρ' t = get ρ t := by
  intro ρ'
  induction ρ' with
  | nil => intro _ t; exact .inl rfl
  | cons x r ih =>
    intro h t
    obtain ⟨d, v⟩ := x
    by_cases e : d = t
    · subst e
      right
      simp [get, h.1]
    · have : get ((d, v) :: r) t = get r t := by
        rw [get_cons]
        simp [upd, beq_ne e]
      rw [this]
      exact ih h.2 t
theorem Wk_env {ρ ρ' : Env} {n m : Nat} {H : Heap} {df : List DF} (h : EnvIn ρ ρ') : Wk ⟨ρ, n, H, m, df⟩ ⟨ρ', n, H, m, df⟩ := by
  rw [Wk_eq]
  refine ⟨rfl, rfl, fun p σ a w hR => ⟨p, σ, .refl p w, fun _ _ => rfl, ⟨hR.size, hR.df, fun t => ?_, hR.heap, hR.m⟩⟩⟩
  rcases EnvIn_get h t with e | e
  · show VRel p σ w (get ρ' t) _
    rw [e]
    exact .any _
  · show VRel p σ w (get ρ' t) _
    rw [e]
    exact hR.env t
theorem Tri.use {P : Program} {f : FuncId} {args : List AV} {H HH : Heap} {r : AV} {K : AV → Heap → Prop} (h : Tri P f args H fun v H' => v = r ∧ H' = HH) (hK : K r HH) : Tri P f args H K :=
  h.mono fun x H' ⟨e1, e2⟩ => by rw [e1, e2]; exact hK
theorem Tri_of {P : Program} {tt : TT} (hT : TTok P tt) {f : FuncId} {fn : Func} {c : Code} (hf : P.funcs[f]? = some fn) (hb : fn.body = some c) (hnm : (fn.name == "runtime.NumGoroutine") = false) {n : Nat} (hn : fn.ntmps = n)
    {args : List AV} {H : Heap} {m : Nat} (hm : H.length = m) {Q : AV → Heap → Prop} (hargs : Nat.ble args.length n = true) (h : awp P tt none c (RetQ P tt fn m Q) ⟨argEnv args 0, n, H, m, []⟩) : Tri P f args H Q := by
  subst hn hm
  exact Tri_of_awp hT hf hb hnm hargs (W_run hT h)
theorem Fin.refl (m : Nat) (v : AV) (H : Heap) : Fin m v H v H := by
  rw [Fin_eq]
  exact fun p σ w x _ hH hv => ⟨p, σ, .refl p w, fun _ _ => rfl, hH, hv⟩
theorem finR {m : Nat} {v : AV} {H : Heap} {r : AV} (h : v = r) : FinK m v H (fun v H' => v = r ∧ H' = H) := by
  rw [FinK_eq]
  exact ⟨v, H, .refl m v H, h, rfl⟩
theorem finQ {m : Nat} {v : AV} {H : Heap} {Q : AV → Heap → Prop} (h : Q v H) : FinK m v H Q := by
  rw [FinK_eq]
  exact ⟨v, H, .refl m v H, h⟩
theorem finW {m : Nat} {v v' : AV} {H H' : Heap} {Q : AV → Heap → Prop} (hf : Fin m v H v' H') (h : Q v' H') : FinK m v H Q := by
  rw [FinK_eq]
  exact ⟨v', H', hf, h⟩
theorem finT {m : Nat} {v : AV} {H HH : Heap} {r : AV} (hv : low m v = true) (e : H.take m = HH) (hH : HLe (List.range m) m H HH (List.range m)) (h : v = r) : FinK m v H (fun v H' => v = r ∧ H' = HH) := by
  subst e
  rw [FinK_eq]
  exact ⟨v, _, Fin_plain hv hH, h, rfl⟩
def Ok (x : AV) : Prop := ∃ p σ w v, VRel p σ w x v
theorem Ok_len {rows : List (List D)} (h : Ok (.d (.sl rows))) : rows.length ≤ 281474976710656 := by
  obtain ⟨p, σ, w, v, hv⟩ := h
  cases hv with
  | sl _ a n cap sz vals hn hB hc hrow hcells hv => unfold LB at hB; omega
theorem Tri.ok {P : Program} {f : FuncId} (he : Ent P f) {args : List AV} {H : Heap} {Q : AV → Heap → Prop} (h : (∀ x ∈ args, Ok x) → Tri P f args H Q) : Tri P f args H Q := by
  simp only [Tri_eq] at *
  refine ⟨he, fun p σ w vs hH hs hv => (h fun x hx => ?_).2 p σ w vs hH hs hv⟩
  obtain ⟨i, hi⟩ := List.mem_iff_getElem?.1 hx
  have hlt : i < vs.size := by rw [hs]; exact (List.getElem?_eq_some_iff.1 hi).1
  exact ⟨p, σ, w, _, hv i x _ hi (Array.getElem?_eq_getElem hlt)⟩
theorem Ent_of {P : Program} {f : FuncId} {fn : Func} {c : Code} (hf : P.funcs[f]? = some fn) (hb : fn.body = some c) (hnm : (fn.name == "runtime.NumGoroutine") = false) : Ent P f := ⟨fn, hf, by rw [hb]; rfl, hnm⟩
theorem Fn_ofB {P : Program} {tt : TT} (hT : TTok P tt) {f : FuncId} {fn : Func} {c : Code} (hf : P.funcs[f]? = some fn) (hb : fn.body = some c) (hnm : (fn.name == "runtime.NumGoroutine") = false) {n : Nat} (hn : fn.ntmps = n)
    {args : List AV} {r : AV} (hargs : Nat.ble args.length n = true) (h : (∀ x ∈ args, Ok x) → awp P tt none c (RetQ P tt fn 0 fun v H => v = r ∧ H = []) ⟨argEnv args 0, n, [], 0, []⟩) : Fn P f args r :=
  Tri.ok (Ent_of hf hb hnm) fun hok => Fn_of hT hf hb hnm hn hargs (h hok)
theorem Fn.useE {P : Program} {f : FuncId} {args args' : List AV} {r : AV} (h : Fn P f args r) (e : args' = args) (hl : lowL 0 args = true) (hr : low 0 r = true) {H : Heap} {K : AV → Heap → Prop} (hK : K r H) : Tri P f args' H K := by
  subst e; exact h.use hl hr hK
end Go.Eng
set_option linter.unusedVariables false
set_option linter.unusedSimpArgs false
namespace Go.Eng
open Go
theorem Wk_pad {ρ : Env} {n m : Nat} {H : Heap} {df : List DF} : Wk ⟨ρ, n, H, m, df⟩ ⟨ρ, n, H ++ [none], m, df⟩ := by
  rw [Wk_eq]
  refine ⟨rfl, rfl, fun p σ a w hR => ⟨p, σ ++ [0], .refl p w, fun i hi => ?_, ?_⟩⟩
  · have : i < σ.length := by rw [hR.heap.len]; exact Nat.lt_of_lt_of_le hi hR.m
    rw [List.getElem?_append_left this]
  have hm : Mono σ (σ ++ [0]) := mono_append _
  have hh := hR.heap
  refine ⟨hR.size, hR.df.mono hm _ _, fun t => (hR.env t).mono (.refl p w) hm, ⟨by simp [hh.len], hh.lt, fun i k hk => ?_, fun i j r k l hk hl hi hj => ?_, hh.gl⟩, by have := hR.m; simp at this ⊢; omega⟩
  · have hi : i < H.length := by
      rcases Nat.lt_or_ge i H.length with h | h
      · exact h
      · rw [List.getElem?_append_right h] at hk
        have : i - H.length = 0 ∨ 0 < i - H.length := by omega
        rcases this with e | e
        · rw [e] at hk; simp at hk
        · rw [List.getElem?_eq_none (by simp; omega)] at hk; simp at hk
    rw [List.getElem?_append_left hi] at hk
    obtain ⟨r, h1, h2, h3, h4⟩ := hh.blk i k hk
    exact ⟨r, hm _ _ h1, h2, h3, h4.mono (.refl p w) hm rfl fun _ => ⟨rfl, fun _ _ => rfl⟩⟩
  · have lt : ∀ (i : Nat) (k : Blk), (H ++ [none])[i]? = some (some k) → i < H.length := fun i k hk => by
      rcases Nat.lt_or_ge i H.length with h | h
      · exact h
      · rw [List.getElem?_append_right h] at hk
        have : i - H.length = 0 ∨ 0 < i - H.length := by omega
        rcases this with e | e
        · rw [e] at hk; simp at hk
        · rw [List.getElem?_eq_none (by simp; omega)] at hk; simp at hk
    have h1 := lt i k hk
    have h2 := lt j l hl
    rw [List.getElem?_append_left h1] at hk
    rw [List.getElem?_append_left h2] at hl
    rw [List.getElem?_append_left (by rw [hh.len]; exact h1)] at hi
    rw [List.getElem?_append_left (by rw [hh.len]; exact h2)] at hj
    exact hh.inj i j r k l hk hl hi hj
@[irreducible] def AccV (b sz : Nat) (rows : List (List D)) : AV := if rows = [] then .nsl else .msl b 0 rows.length rows.length sz
@[irreducible] def AccB (rows : List (List D)) : Option Blk := if rows = [] then none else some (.row (rows.flatten.map .d))
theorem AccV_nil (b sz : Nat) : AccV b sz [] = .nsl := by unfold AccV; simp
theorem AccB_nil : AccB [] = none := by unfold AccB; simp
theorem AccV_cons {b sz : Nat} {rows : List (List D)} (h : rows ≠ []) : AccV b sz rows = .msl b 0 rows.length rows.length sz := by unfold AccV; simp [h]
theorem AccB_cons {rows : List (List D)} (h : rows ≠ []) : AccB rows = some (.row (rows.flatten.map .d)) := by unfold AccB; simp [h]
theorem App_acc {ei : TI} {H : Heap} {b sz : Nat} {x : AV} {B : Prop} {K : AV → Heap → Prop} (rows new : List (List D)) (hb : H[b]? = some (AccB rows)) (hx : newLen x = some new.length) (hc : newCells H ei.size x = some (new.flatten.map .d)) (hsz : sz = ei.size)
    (hn : new ≠ []) (hrs : ∀ r ∈ rows, r.length = ei.size) (hrn : ∀ r ∈ new, r.length = ei.size) (hlim : rows.length + new.length ≤ 1000000) (hby : ei.bytes ≤ 1000)
    (hK : K (.msl H.length 0 (rows.length + new.length) (rows.length + new.length) ei.size) (H.set b none ++ [some (.row ((rows ++ new).flatten.map .d))])) : ChK (appK ei H (AccV b sz rows) x K) B := by
  subst hsz
  have hlb : rows.length + new.length ≤ LB := by unfold LB; omega
  have hB : (rows.length + new.length + 200) * ei.bytes ≤ 2 ^ 46 := Nat.le_trans (Nat.mul_le_mul (by omega : rows.length + new.length + 200 ≤ 1000200) hby) (by decide)
  have h0 : 0 < new.length := List.length_pos_iff.2 hn
  have hfn : (new.flatten.map AV.d).length = new.length * ei.size := by rw [List.length_map]; exact flatten_len new hrn
  have hfr : (rows.flatten.map AV.d).length = rows.length * ei.size := by rw [List.length_map]; exact flatten_len rows hrs
  have hbl : b < H.length := (List.getElem?_eq_some_iff.1 hb).1
  refine Ch_l ?_
  unfold appK
  rw [hx]
  simp only
  rw [hc]
  simp only
  by_cases hr : rows = []
  · subst hr
    rw [AccV_nil]
    have hset : H.set b none = H := by
      apply List.ext_getElem?
      intro i
      rw [List.getElem?_set]
      split
      · subst_vars
        rw [hb, AccB_nil]
      · rfl
    rw [hset] at hK
    simp only [List.length_nil, Nat.zero_add, List.nil_append] at hK hB hlb
    have hnn : x ≠ .nsl := by rintro rfl; simp [newLen] at hx; omega
    cases x <;> first
      | exact absurd rfl hnn
      | (simp only [NeedK_eq]; simp only [pushK_eq]; exact ⟨⟨h0, hB, hlb, hfn⟩, hK⟩)
  · rw [AccV_cons hr]
    rw [AccB_cons hr] at hb
    have hro : rowOf H b = some (rows.flatten.map .d) := by unfold rowOf; rw [hb]
    simp only [hro]
    refine Br_false (by rw [← Bool.not_eq_true]; intro h; have := Nat.le_of_ble_eq_true h; omega) ?_
    refine Br_true rfl ?_
    refine Br_true (Nat.beq_refl _) ?_
    simp only [NeedK_eq]
    rw [setK_eq, pushK_eq]
    refine ⟨⟨hfr, hfn, hB, hlb⟩, ?_⟩
    simp only [List.length_set]
    rw [List.flatten_append, List.map_append] at hK
    exact hK
theorem renB_row (g : Nat → Nat) (l : List D) : renB g (.row (l.map .d)) = .row (l.map .d) := by simp [renB, renL_d]
theorem lowB_row (k : Nat) (l : List D) : lowB k (.row (l.map .d)) = true := by simp [lowB, lowL_d]
def gMove (l b : Nat) : List Nat := (List.range l).map fun i => if i = b then l else i
theorem splice_flat {sz : Nat} : ∀ (rows : List (List D)) (i j : Nat) (row : List D) (x : D), (∀ r ∈ rows, r.length = sz) → rows[i]? = some row → j < sz →
    splice (rows.flatten.map .d) (i * sz + j) [.d x] = (rows.set i (row.set j x)).flatten.map .d := by
  intro rows i j row x hrs hi hj
  have hmem := List.mem_of_getElem? hi
  have hil : i < rows.length := (List.getElem?_eq_some_iff.1 hi).1
  simp only [splice]
  have : (rows.flatten.map AV.d).set (i * sz + j) (.d x) = (rows.flatten.set (i * sz + j) x).map .d := by rw [List.map_set]
  rw [this]
  congr 1
  induction rows generalizing i with
  | nil => simp at hi
  | cons r t ih =>
    have hr := hrs r (by simp)
    cases i with
    | zero =>
      simp at hi
      subst hi
      simp only [Nat.zero_mul, Nat.zero_add, List.flatten_cons, List.set_cons_zero]
      rw [List.set_append_left _ _ (by omega)]
    | succ i =>
      simp only [List.flatten_cons, List.set_cons_succ]
      rw [List.set_append_right _ _ (by rw [hr, Nat.add_mul]; omega)]
      congr 1
      rw [hr, show (i + 1) * sz + j - sz = i * sz + j by rw [Nat.add_mul]; omega]
      exact ih i (fun q hq => hrs q (by simp [hq])) (by simpa using hi) (List.mem_of_getElem? (by simpa using hi)) (by simpa using hil) (by rw [List.map_set])
theorem cell_flat {sz : Nat} (rows : List (List D)) (i j : Nat) (row : List D) (x : D) (hrs : ∀ r ∈ rows, r.length = sz) (hi : rows[i]? = some row) (hx : row[j]? = some x) (hj : j < sz) : (rows.flatten.map AV.d)[i * sz + j]? = some (.d x) := by
  rw [List.getElem?_map, flatten_at rows hrs i j hj, hi]
  simp [hx]
end Go.Eng
namespace Go.Eng
theorem Acc_app {b sz : Nat} {rows new : List (List D)} (h : new ≠ []) : AccV b sz (rows ++ new) = .msl b 0 (rows.length + new.length) (rows.length + new.length) sz ∧ AccB (rows ++ new) = some (.row ((rows ++ new).flatten.map .d)) := by
  have hne : rows ++ new ≠ [] := by simp [h]
  rw [AccV_cons hne, AccB_cons hne, List.length_append]
  exact ⟨rfl, rfl⟩
end Go.Eng
namespace Go.Eng
theorem force_in {v : AV} {K : AV → Prop} (h : K v) : force v K := by rw [force_eq]; exact h
end Go.Eng
namespace Go.Eng
open Go
theorem FV_tab {g : List Nat} {H : Heap} {b sz : Nat} (rows : List (List D)) {n : Nat} {cs : List AV} (hr : rowOf H b = some cs) (hc : cs = rows.flatten.map .d) (hn : n = rows.length) (hs : ∀ r ∈ rows, r.length = sz) : FV g [b] H (.msl b 0 n n sz) (.d (.sl rows)) := by
  subst hn hc
  refine .frz b 0 _ _ sz (rows.flatten.map .d) rows (by simp) hr rfl hs (by rw [List.length_map, flatten_len rows hs]; omega) fun i x y hi hx hy => ?_
  rw [Nat.zero_add, List.getElem?_map, hy] at hx
  simp at hx
  subst hx
  exact .same _ rfl
theorem FV_tup2 {g F : List Nat} {H : Heap} {x y x' y' : AV} (h1 : FV g F H x x') (h2 : FV g F H y y') : FV g F H (.tup [x, y]) (.tup [x', y']) := by
  refine .tup _ _ rfl fun i a b ha hb => ?_
  match i with
  | 0 => simp at ha hb; subst ha hb; exact h1
  | 1 => simp at ha hb; subst ha hb; exact h2
  | i + 2 => simp at ha
theorem Fin_all {F : List Nat} {v v' : AV} {H : Heap} (hv : FV [] F H v v') : Fin 0 v H v' [] :=
  Fin_fz [] F rfl rfl (by unfold apartL; simp) trivial hv (Nat.zero_le _) (fun i h => absurd h (Nat.not_lt_zero _))
theorem finD {F : List Nat} {v r : AV} {H : Heap} (hv : FV [] F H v r) : FinK 0 v H (fun v H => v = r ∧ H = []) := finW (Fin_all hv) ⟨rfl, rfl⟩
theorem patch_nil (H H1 : Heap) : patch [] H H1 = H ++ renH (hmap [] H.length) H1 := by
  unfold patch
  have : ∀ (f : Nat → Nat) (H : Heap) (j : Nat), patch1 f [] H1 H j = H := by
    intro f H
    induction H with
    | nil => intro j; rfl
    | cons b t ih => intro j; simp [patch1, pos, pos.go, ih]
  rw [this]
  rfl
theorem renH_row (f : Nat → Nat) (l : List D) : renH f [some (.row (l.map .d))] = [some (.row (l.map .d))] := by simp [renH, renB_row]
theorem Tri.tab {P : Program} {f : FuncId} {args : List AV} {len sz : Nat} {l : List D} {H : Heap} {K : AV → Heap → Prop} (h : Tri P f args [] fun v H => v = .msl 0 0 len len sz ∧ H = [some (.row (l.map .d))]) (hargs : lowL 0 args = true)
    (hK : K (.msl H.length 0 len len sz) (H ++ [some (.row (l.map .d))])) : Tri P f args H K := by
  refine Tri.call h [] rfl rfl trivial ?_ hargs rfl rfl ?_ (by rw [patch_nil, renH_row]) hK
  · have : ∀ l : List AV, lowL 0 l = true → renL (gOf []) l = l := by
      intro l hl
      have h2 := renLLow 0 l hl
      have e : gOf [] = fun _ => 0 := by funext i; simp [gOf]
      have e2 : ∀ g g' : Nat → Nat, (∀ x : AV, low 0 x = true → ren g x = ren g' x) ∧ (∀ l : List AV, lowL 0 l = true → renL g l = renL g' l) := fun g g' => by
        have key : ∀ n : Nat, True := fun _ => trivial
        have a1 : ∀ x : AV, low 0 x = true → ren g x = ren g' x := by
          intro x
          refine AV.rec (motive_1 := fun x => low 0 x = true → ren g x = ren g' x) (motive_2 := fun l => lowL 0 l = true → renL g l = renL g' l) ?_ ?_ ?_ ?_ ?_ ?_ ?_ ?_ ?_ ?_ ?_ ?_ ?_ x
          all_goals intros
          all_goals simp_all [ren, renL, low, lowL]
        refine ⟨a1, fun l => ?_⟩
        induction l with
        | nil => intro _; rfl
        | cons a t ih =>
          intro h
          simp only [lowL, Bool.and_eq_true] at h
          simp only [renL, a1 a h.1, ih h.2]
      rw [(e2 (gOf []) (· + 0)).2 l hl]
      exact h2
    rw [this args hargs]
  · simp [ren, hmap]
    rfl
end Go.Eng
set_option maxRecDepth 100000
namespace Go.Eng
open Go Go.Proofs
def ttL : List (Option TI) := [
  none,
  some ⟨.func, 1, 8, [.d .nfn], false, false⟩,
  some ⟨(.int .i64), 1, 8, [.d (.int .i64 0)], false, false⟩,
  some ⟨(.int .i64), 1, 8, [.d (.int .i64 0)], false, false⟩,
  some ⟨.bool, 1, 1, [.d (.bool false)], false, false⟩,
  some ⟨(.int .u8), 1, 1, [.d (.int .u8 0)], false, false⟩,
  some ⟨(.int .u8), 1, 1, [.d (.int .u8 0)], false, false⟩,
  some ⟨(.struct [(2, 0), (3, 1), (4, 2), (6, 3)]), 4, 24, [.d (.int .i64 0), .d (.int .i64 0), .d (.bool false), .d (.int .u8 0)], false, false⟩,
  some ⟨(.struct [(2, 0), (3, 1), (4, 2), (6, 3)]), 4, 24, [.d (.int .i64 0), .d (.int .i64 0), .d (.bool false), .d (.int .u8 0)], false, false⟩,
  some ⟨.str, 1, 16, [.d (.str ⟨#[]⟩)], false, false⟩,
  some ⟨.str, 1, 16, [.d (.str ⟨#[]⟩)], false, false⟩,
  some ⟨.str, 1, 16, [.d (.str ⟨#[]⟩)], false, false⟩,
  some ⟨(.int .u64), 1, 8, [.d (.int .u64 0)], false, false⟩,
  some ⟨(.struct [(9, 0), (12, 1)]), 2, 24, [.d (.str ⟨#[]⟩), .d (.int .u64 0)], false, false⟩,
  some ⟨(.struct [(9, 0), (12, 1)]), 2, 24, [.d (.str ⟨#[]⟩), .d (.int .u64 0)], false, false⟩,
  some ⟨(.ptr 373), 1, 8, [.d .nptr], false, false⟩,
  some ⟨(.ptr 376), 1, 8, [.d .nptr], false, false⟩,
  some ⟨(.ptr 384), 1, 8, [.d .nptr], false, false⟩,
  some ⟨(.struct [(17, 0)]), 1, 8, [.d .nptr], false, false⟩,
  some ⟨(.struct [(17, 0)]), 1, 8, [.d .nptr], false, false⟩,
  none,
  some ⟨(.int .i32), 1, 4, [.d (.int .i32 0)], false, false⟩,
  some ⟨(.struct [(3, 0), (3, 1), (3, 2)]), 3, 24, [.d (.int .i64 0), .d (.int .i64 0), .d (.int .i64 0)], false, false⟩,
  some ⟨(.struct [(3, 0), (3, 1), (3, 2)]), 3, 24, [.d (.int .i64 0), .d (.int .i64 0), .d (.int .i64 0)], true, false⟩,
  some ⟨(.slice 37), 1, 24, [.nsl], false, false⟩,
  some ⟨.func, 1, 8, [.d .nfn], false, false⟩,
  some ⟨(.ptr 109), 1, 8, [.d .nptr], false, false⟩,
  some ⟨.func, 1, 8, [.d .nfn], false, false⟩,
  some ⟨.func, 1, 8, [.d .nfn], false, false⟩,
  some ⟨(.ptr 118), 1, 8, [.d .nptr], false, false⟩,
  some ⟨.func, 1, 8, [.d .nfn], false, false⟩,
  some ⟨(.slice 40), 1, 24, [.nsl], false, false⟩,
  some ⟨.func, 1, 8, [.d .nfn], false, false⟩,
  some ⟨(.arr 2 3), 2, 16, [.d (.int .i64 0), .d (.int .i64 0)], true, false⟩,
  some ⟨.func, 1, 8, [.d .nfn], false, false⟩,
  some ⟨(.slice 111), 1, 24, [.nsl], false, false⟩,
  some ⟨(.struct [(3, 0), (3, 1), (3, 2), (3, 3), (4, 4), (35, 5)]), 6, 64, [.d (.int .i64 0), .d (.int .i64 0), .d (.int .i64 0), .d (.int .i64 0), .d (.bool false), .nsl], false, false⟩,
  some ⟨(.struct [(3, 0), (3, 1), (3, 2), (3, 3), (4, 4), (35, 5)]), 6, 64, [.d (.int .i64 0), .d (.int .i64 0), .d (.int .i64 0), .d (.int .i64 0), .d (.bool false), .nsl], false, false⟩,
  some ⟨(.int .i64), 1, 8, [.d (.int .i64 0)], false, false⟩,
  some ⟨(.struct [(3, 0), (3, 1), (3, 2), (3, 3), (3, 4), (3, 5), (3, 6), (38, 7)]), 8, 64, [.d (.int .i64 0), .d (.int .i64 0), .d (.int .i64 0), .d (.int .i64 0), .d (.int .i64 0), .d (.int .i64 0), .d (.int .i64 0), .d (.int .i64 0)], false, false⟩,
  some ⟨(.struct [(3, 0), (3, 1), (3, 2), (3, 3), (3, 4), (3, 5), (3, 6), (38, 7)]), 8, 64, [.d (.int .i64 0), .d (.int .i64 0), .d (.int .i64 0), .d (.int .i64 0), .d (.int .i64 0), .d (.int .i64 0), .d (.int .i64 0), .d (.int .i64 0)], true, false⟩,
  some ⟨.func, 1, 8, [.d .nfn], false, false⟩,
  some ⟨.func, 1, 8, [.d .nfn], false, false⟩,
  some ⟨(.slice 56), 1, 24, [.nsl], false, false⟩,
  some ⟨.func, 1, 8, [.d .nfn], false, false⟩,
  some ⟨(.slice 54), 1, 24, [.nsl], false, false⟩,
  some ⟨(.slice 54), 1, 24, [.nsl], false, false⟩,
  some ⟨(.slice 3), 1, 24, [.nsl], false, false⟩,
  some ⟨(.slice 130), 1, 24, [.nsl], false, false⟩,
  some ⟨(.struct [(46, 0), (47, 1), (47, 2), (48, 3), (47, 4)]), 5, 120, [.nsl, .nsl, .nsl, .nsl, .nsl], false, false⟩,
  some ⟨(.struct [(46, 0), (47, 1), (47, 2), (48, 3), (47, 4)]), 5, 120, [.nsl, .nsl, .nsl, .nsl, .nsl], false, false⟩,
  some ⟨.func, 1, 8, [.d .nfn], false, false⟩,
  some ⟨(.slice 177), 1, 24, [.nsl], false, false⟩,
  some ⟨(.struct [(3, 0), (3, 1), (3, 2), (47, 3), (3, 4), (3, 5), (52, 6)]), 7, 88, [.d (.int .i64 0), .d (.int .i64 0), .d (.int .i64 0), .nsl, .d (.int .i64 0), .d (.int .i64 0), .nsl], false, false⟩,
  some ⟨(.struct [(3, 0), (3, 1), (3, 2), (47, 3), (3, 4), (3, 5), (52, 6)]), 7, 88, [.d (.int .i64 0), .d (.int .i64 0), .d (.int .i64 0), .nsl, .d (.int .i64 0), .d (.int .i64 0), .nsl], false, false⟩,
  some ⟨(.struct [(3, 0), (3, 1), (4, 2), (4, 3), (3, 4)]), 5, 32, [.d (.int .i64 0), .d (.int .i64 0), .d (.bool false), .d (.bool false), .d (.int .i64 0)], false, false⟩,
  some ⟨(.struct [(3, 0), (3, 1), (4, 2), (4, 3), (3, 4)]), 5, 32, [.d (.int .i64 0), .d (.int .i64 0), .d (.bool false), .d (.bool false), .d (.int .i64 0)], true, false⟩,
  some ⟨.func, 1, 8, [.d .nfn], false, false⟩,
  none,
  some ⟨.func, 1, 8, [.d .nfn], false, false⟩,
  some ⟨.func, 1, 8, [.d .nfn], false, false⟩,
  some ⟨(.slice 47), 1, 24, [.nsl], false, false⟩,
  some ⟨(.struct [(61, 0), (3, 1), (4, 2)]), 3, 40, [.nsl, .d (.int .i64 0), .d (.bool false)], false, false⟩,
  some ⟨(.struct [(61, 0), (3, 1), (4, 2)]), 3, 40, [.nsl, .d (.int .i64 0), .d (.bool false)], false, false⟩,
  some ⟨.func, 1, 8, [.d .nfn], false, false⟩,
  some ⟨(.struct [(61, 0), (3, 1), (4, 2)]), 3, 40, [.nsl, .d (.int .i64 0), .d (.bool false)], false, false⟩,
  some ⟨.func, 1, 8, [.d .nfn], false, false⟩,
  some ⟨.func, 1, 8, [.d .nfn], false, false⟩,
  some ⟨.func, 1, 8, [.d .nfn], false, false⟩,
  some ⟨.func, 1, 8, [.d .nfn], false, false⟩,
  some ⟨.func, 1, 8, [.d .nfn], false, false⟩,
  some ⟨.func, 1, 8, [.d .nfn], false, false⟩,
  some ⟨(.slice 133), 1, 24, [.nsl], false, false⟩,
  some ⟨.func, 1, 8, [.d .nfn], false, false⟩,
  some ⟨(.slice 102), 1, 24, [.nsl], false, false⟩,
  some ⟨.func, 1, 8, [.d .nfn], false, false⟩,
  some ⟨.func, 1, 8, [.d .nfn], false, false⟩,
  some ⟨.func, 1, 8, [.d .nfn], false, false⟩,
  some ⟨(.struct [(3, 0), (38, 1), (3, 2), (72, 3)]), 4, 48, [.d (.int .i64 0), .d (.int .i64 0), .d (.int .i64 0), .nsl], false, false⟩,
  some ⟨(.struct [(3, 0), (38, 1), (3, 2), (72, 3)]), 4, 48, [.d (.int .i64 0), .d (.int .i64 0), .d (.int .i64 0), .nsl], false, false⟩,
  some ⟨.func, 1, 8, [.d .nfn], false, false⟩,
  some ⟨(.slice 121), 1, 24, [.nsl], false, false⟩,
  some ⟨.func, 1, 8, [.d .nfn], false, false⟩,
  some ⟨(.slice 94), 1, 24, [.nsl], false, false⟩,
  some ⟨(.struct [(83, 0), (31, 1)]), 2, 48, [.nsl, .nsl], false, false⟩,
  some ⟨(.struct [(83, 0), (31, 1)]), 2, 48, [.nsl, .nsl], false, false⟩,
  none,
  some ⟨.func, 1, 8, [.d .nfn], false, false⟩,
  some ⟨(.struct [(3, 0), (3, 1), (3, 2)]), 3, 24, [.d (.int .i64 0), .d (.int .i64 0), .d (.int .i64 0)], true, false⟩,
  some ⟨.func, 1, 8, [.d .nfn], false, false⟩,
  none,
  some ⟨.func, 1, 8, [.d .nfn], false, false⟩,
  some ⟨.func, 1, 8, [.d .nfn], false, false⟩,
  some ⟨(.struct [(3, 0), (38, 1), (3, 2), (74, 3)]), 4, 48, [.d (.int .i64 0), .d (.int .i64 0), .d (.int .i64 0), .nsl], false, false⟩,
  some ⟨(.struct [(3, 0), (38, 1), (3, 2), (74, 3)]), 4, 48, [.d (.int .i64 0), .d (.int .i64 0), .d (.int .i64 0), .nsl], false, false⟩,
  some ⟨.func, 1, 8, [.d .nfn], false, false⟩,
  some ⟨(.slice 97), 1, 24, [.nsl], false, false⟩,
  some ⟨(.struct [(3, 0), (3, 1), (3, 2), (3, 3), (3, 4), (3, 5), (3, 6), (38, 7)]), 8, 64, [.d (.int .i64 0), .d (.int .i64 0), .d (.int .i64 0), .d (.int .i64 0), .d (.int .i64 0), .d (.int .i64 0), .d (.int .i64 0), .d (.int .i64 0)], true, false⟩,
  some ⟨.func, 1, 8, [.d .nfn], false, false⟩,
  some ⟨.func, 1, 8, [.d .nfn], false, false⟩,
  some ⟨.func, 1, 8, [.d .nfn], false, false⟩,
  some ⟨(.struct [(3, 0), (3, 1)]), 2, 16, [.d (.int .i64 0), .d (.int .i64 0)], false, false⟩,
  some ⟨(.struct [(3, 0), (3, 1)]), 2, 16, [.d (.int .i64 0), .d (.int .i64 0)], true, false⟩,
  some ⟨.func, 1, 8, [.d .nfn], false, false⟩,
  some ⟨.func, 1, 8, [.d .nfn], false, false⟩,
  some ⟨.func, 1, 8, [.d .nfn], false, false⟩,
  some ⟨(.slice 35), 1, 24, [.nsl], false, false⟩,
  some ⟨(.slice 33), 1, 24, [.nsl], false, false⟩,
  some ⟨(.struct [(23, 0), (50, 3), (43, 8), (106, 9), (3, 10), (107, 11), (63, 12), (3, 15), (3, 16), (96, 17)]), 18, 304, [.d (.int .i64 0), .d (.int .i64 0), .d (.int .i64 0), .nsl, .nsl, .nsl, .nsl, .nsl, .nsl, .nsl, .d (.int .i64 0), .nsl, .nsl, .d (.int .i64 0), .d (.bool false), .d (.int .i64 0), .d (.int .i64 0), .nsl], false, false⟩,
  some ⟨(.struct [(23, 0), (50, 3), (43, 8), (106, 9), (3, 10), (107, 11), (63, 12), (3, 15), (3, 16), (96, 17)]), 18, 304, [.d (.int .i64 0), .d (.int .i64 0), .d (.int .i64 0), .nsl, .nsl, .nsl, .nsl, .nsl, .nsl, .nsl, .d (.int .i64 0), .nsl, .nsl, .d (.int .i64 0), .d (.bool false), .d (.int .i64 0), .d (.int .i64 0), .nsl], false, false⟩,
  some ⟨(.struct [(3, 0), (3, 1), (3, 2)]), 3, 24, [.d (.int .i64 0), .d (.int .i64 0), .d (.int .i64 0)], false, false⟩,
  some ⟨(.struct [(3, 0), (3, 1), (3, 2)]), 3, 24, [.d (.int .i64 0), .d (.int .i64 0), .d (.int .i64 0)], true, false⟩,
  none,
  some ⟨.func, 1, 8, [.d .nfn], false, false⟩,
  some ⟨.func, 1, 8, [.d .nfn], false, false⟩,
  some ⟨(.slice 119), 1, 24, [.nsl], false, false⟩,
  some ⟨(.map 3 3), 1, 8, [.d .nmap], false, false⟩,
  some ⟨(.struct [(88, 0), (50, 3), (43, 8), (115, 9), (3, 10), (116, 11), (65, 12), (3, 15), (3, 16), (31, 17)]), 18, 288, [.d (.int .i64 0), .d (.int .i64 0), .d (.int .i64 0), .nsl, .nsl, .nsl, .nsl, .nsl, .nsl, .nsl, .d (.int .i64 0), .d .nmap, .nsl, .d (.int .i64 0), .d (.bool false), .d (.int .i64 0), .d (.int .i64 0), .nsl], false, false⟩,
  some ⟨(.struct [(88, 0), (50, 3), (43, 8), (115, 9), (3, 10), (116, 11), (65, 12), (3, 15), (3, 16), (31, 17)]), 18, 288, [.d (.int .i64 0), .d (.int .i64 0), .d (.int .i64 0), .nsl, .nsl, .nsl, .nsl, .nsl, .nsl, .nsl, .d (.int .i64 0), .d .nmap, .nsl, .d (.int .i64 0), .d (.bool false), .d (.int .i64 0), .d (.int .i64 0), .nsl], false, false⟩,
  some ⟨(.slice 122), 1, 24, [.nsl], false, false⟩,
  some ⟨(.struct [(3, 0), (3, 1), (3, 2), (3, 3), (4, 4), (119, 5)]), 6, 64, [.d (.int .i64 0), .d (.int .i64 0), .d (.int .i64 0), .d (.int .i64 0), .d (.bool false), .nsl], false, false⟩,
  some ⟨(.struct [(3, 0), (3, 1), (3, 2), (3, 3), (4, 4), (119, 5)]), 6, 64, [.d (.int .i64 0), .d (.int .i64 0), .d (.int .i64 0), .d (.int .i64 0), .d (.bool false), .nsl], false, false⟩,
  some ⟨(.struct [(3, 0), (3, 1), (3, 2)]), 3, 24, [.d (.int .i64 0), .d (.int .i64 0), .d (.int .i64 0)], true, false⟩,
  some ⟨.func, 1, 8, [.d .nfn], false, false⟩,
  some ⟨.func, 1, 8, [.d .nfn], false, false⟩,
  some ⟨.func, 1, 8, [.d .nfn], false, false⟩,
  some ⟨.func, 1, 8, [.d .nfn], false, false⟩,
  some ⟨.func, 1, 8, [.d .nfn], false, false⟩,
  some ⟨.func, 1, 8, [.d .nfn], false, false⟩,
  some ⟨(.struct [(3, 0), (3, 1)]), 2, 16, [.d (.int .i64 0), .d (.int .i64 0)], false, false⟩,
  some ⟨(.struct [(3, 0), (3, 1)]), 2, 16, [.d (.int .i64 0), .d (.int .i64 0)], true, false⟩,
  some ⟨.func, 1, 8, [.d .nfn], false, false⟩,
  some ⟨.func, 1, 8, [.d .nfn], false, false⟩,
  some ⟨(.struct [(3, 0), (3, 1)]), 2, 16, [.d (.int .i64 0), .d (.int .i64 0)], true, false⟩,
  some ⟨.func, 1, 8, [.d .nfn], false, false⟩,
  some ⟨.func, 1, 8, [.d .nfn], false, false⟩,
  some ⟨.func, 1, 8, [.d .nfn], false, false⟩,
  some ⟨.func, 1, 8, [.d .nfn], false, false⟩,
  some ⟨.func, 1, 8, [.d .nfn], false, false⟩,
  some ⟨.func, 1, 8, [.d .nfn], false, false⟩,
  some ⟨.func, 1, 8, [.d .nfn], false, false⟩,
  some ⟨.func, 1, 8, [.d .nfn], false, false⟩,
  some ⟨.func, 1, 8, [.d .nfn], false, false⟩,
  some ⟨.func, 1, 8, [.d .nfn], false, false⟩,
  some ⟨.func, 1, 8, [.d .nfn], false, false⟩,
  none,
  some ⟨(.map 3 144), 1, 8, [.d .nmap], false, false⟩,
  some ⟨.func, 1, 8, [.d .nfn], false, false⟩,
  some ⟨.func, 1, 8, [.d .nfn], false, false⟩,
  some ⟨.func, 1, 8, [.d .nfn], false, false⟩,
  some ⟨.func, 1, 8, [.d .nfn], false, false⟩,
  some ⟨.func, 1, 8, [.d .nfn], false, false⟩,
  some ⟨.func, 1, 8, [.d .nfn], false, false⟩,
  some ⟨.func, 1, 8, [.d .nfn], false, false⟩,
  some ⟨.func, 1, 8, [.d .nfn], false, false⟩,
  some ⟨.func, 1, 8, [.d .nfn], false, false⟩,
  some ⟨.func, 1, 8, [.d .nfn], false, false⟩,
  some ⟨.func, 1, 8, [.d .nfn], false, false⟩,
  some ⟨.func, 1, 8, [.d .nfn], false, false⟩,
  some ⟨.func, 1, 8, [.d .nfn], false, false⟩,
  some ⟨.func, 1, 8, [.d .nfn], false, false⟩,
  some ⟨.func, 1, 8, [.d .nfn], false, false⟩,
  some ⟨.func, 1, 8, [.d .nfn], false, false⟩,
  some ⟨.func, 1, 8, [.d .nfn], false, false⟩,
  none,
  some ⟨.func, 1, 8, [.d .nfn], false, false⟩,
  some ⟨.func, 1, 8, [.d .nfn], false, false⟩,
  some ⟨.func, 1, 8, [.d .nfn], false, false⟩,
  some ⟨.func, 1, 8, [.d .nfn], false, false⟩,
  none,
  some ⟨.func, 1, 8, [.d .nfn], false, false⟩,
  some ⟨(.struct [(3, 0), (3, 1), (3, 2)]), 3, 24, [.d (.int .i64 0), .d (.int .i64 0), .d (.int .i64 0)], false, false⟩,
  some ⟨(.struct [(3, 0), (3, 1), (3, 2)]), 3, 24, [.d (.int .i64 0), .d (.int .i64 0), .d (.int .i64 0)], true, false⟩,
  some ⟨.func, 1, 8, [.d .nfn], false, false⟩,
  some ⟨.func, 1, 8, [.d .nfn], false, false⟩,
  some ⟨.func, 1, 8, [.d .nfn], false, false⟩,
  some ⟨(.struct [(3, 0), (3, 1)]), 2, 16, [.d (.int .i64 0), .d (.int .i64 0)], false, false⟩,
  some ⟨(.struct [(3, 0), (3, 1)]), 2, 16, [.d (.int .i64 0), .d (.int .i64 0)], true, false⟩,
  some ⟨.func, 1, 8, [.d .nfn], false, false⟩,
  some ⟨.func, 1, 8, [.d .nfn], false, false⟩,
  some ⟨.func, 1, 8, [.d .nfn], false, false⟩,
  some ⟨.func, 1, 8, [.d .nfn], false, false⟩,
  some ⟨.func, 1, 8, [.d .nfn], false, false⟩,
  some ⟨.func, 1, 8, [.d .nfn], false, false⟩,
  some ⟨.func, 1, 8, [.d .nfn], false, false⟩,
  some ⟨.func, 1, 8, [.d .nfn], false, false⟩,
  some ⟨.func, 1, 8, [.d .nfn], false, false⟩,
  some ⟨.func, 1, 8, [.d .nfn], false, false⟩,
  some ⟨.func, 1, 8, [.d .nfn], false, false⟩,
  some ⟨.func, 1, 8, [.d .nfn], false, false⟩,
  some ⟨.func, 1, 8, [.d .nfn], false, false⟩,
  some ⟨.func, 1, 8, [.d .nfn], false, false⟩,
  some ⟨.func, 1, 8, [.d .nfn], false, false⟩,
  some ⟨.func, 1, 8, [.d .nfn], false, false⟩,
  some ⟨.func, 1, 8, [.d .nfn], false, false⟩,
  none,
  some ⟨.func, 1, 8, [.d .nfn], false, false⟩,
  some ⟨.func, 1, 8, [.d .nfn], false, false⟩,
  some ⟨.func, 1, 8, [.d .nfn], false, false⟩,
  some ⟨.func, 1, 8, [.d .nfn], false, false⟩,
  some ⟨.func, 1, 8, [.d .nfn], false, false⟩,
  some ⟨.func, 1, 8, [.d .nfn], false, false⟩,
  some ⟨.func, 1, 8, [.d .nfn], false, false⟩,
  some ⟨.func, 1, 8, [.d .nfn], false, false⟩,
  some ⟨(.ptr 54), 1, 8, [.d .nptr], false, false⟩,
  some ⟨.func, 1, 8, [.d .nfn], false, false⟩,
  some ⟨.func, 1, 8, [.d .nfn], false, false⟩,
  some ⟨.func, 1, 8, [.d .nfn], false, false⟩,
  some ⟨.func, 1, 8, [.d .nfn], false, false⟩,
  some ⟨.func, 1, 8, [.d .nfn], false, false⟩,
  some ⟨.func, 1, 8, [.d .nfn], false, false⟩,
  some ⟨.func, 1, 8, [.d .nfn], false, false⟩,
  some ⟨.func, 1, 8, [.d .nfn], false, false⟩,
  some ⟨.func, 1, 8, [.d .nfn], false, false⟩,
  some ⟨(.slice 217), 1, 24, [.nsl], false, false⟩,
  some ⟨.func, 1, 8, [.d .nfn], false, false⟩,
  some ⟨(.struct [(3, 0), (3, 1), (3, 2), (4, 3), (4, 4), (4, 5)]), 6, 32, [.d (.int .i64 0), .d (.int .i64 0), .d (.int .i64 0), .d (.bool false), .d (.bool false), .d (.bool false)], false, false⟩,
  some ⟨(.struct [(3, 0), (3, 1), (3, 2), (4, 3), (4, 4), (4, 5)]), 6, 32, [.d (.int .i64 0), .d (.int .i64 0), .d (.int .i64 0), .d (.bool false), .d (.bool false), .d (.bool false)], true, false⟩,
  some ⟨.func, 1, 8, [.d .nfn], false, false⟩,
  some ⟨.func, 1, 8, [.d .nfn], false, false⟩,
  some ⟨.func, 1, 8, [.d .nfn], false, false⟩,
  some ⟨.func, 1, 8, [.d .nfn], false, false⟩,
  none,
  some ⟨.func, 1, 8, [.d .nfn], false, false⟩,
  some ⟨.func, 1, 8, [.d .nfn], false, false⟩,
  some ⟨.func, 1, 8, [.d .nfn], false, false⟩,
  some ⟨.func, 1, 8, [.d .nfn], false, false⟩,
  some ⟨.func, 1, 8, [.d .nfn], false, false⟩,
  some ⟨.func, 1, 8, [.d .nfn], false, false⟩,
  none,
  some ⟨.func, 1, 8, [.d .nfn], false, false⟩,
  some ⟨.func, 1, 8, [.d .nfn], false, false⟩,
  some ⟨.func, 1, 8, [.d .nfn], false, false⟩,
  none,
  some ⟨.func, 1, 8, [.d .nfn], false, false⟩,
  none,
  some ⟨.func, 1, 8, [.d .nfn], false, false⟩,
  some ⟨.func, 1, 8, [.d .nfn], false, false⟩,
  some ⟨.func, 1, 8, [.d .nfn], false, false⟩,
  some ⟨.func, 1, 8, [.d .nfn], false, false⟩,
  some ⟨.func, 1, 8, [.d .nfn], false, false⟩,
  some ⟨.func, 1, 8, [.d .nfn], false, false⟩,
  none,
  some ⟨.func, 1, 8, [.d .nfn], false, false⟩,
  some ⟨.func, 1, 8, [.d .nfn], false, false⟩,
  some ⟨.func, 1, 8, [.d .nfn], false, false⟩,
  some ⟨.func, 1, 8, [.d .nfn], false, false⟩,
  some ⟨.func, 1, 8, [.d .nfn], false, false⟩,
  some ⟨(.int .u64), 1, 8, [.d (.int .u64 0)], false, false⟩,
  some ⟨.func, 1, 8, [.d .nfn], false, false⟩,
  some ⟨.func, 1, 8, [.d .nfn], false, false⟩,
  some ⟨.func, 1, 8, [.d .nfn], false, false⟩,
  some ⟨.func, 1, 8, [.d .nfn], false, false⟩,
  some ⟨.func, 1, 8, [.d .nfn], false, false⟩,
  some ⟨(.struct [(50, 0), (116, 5)]), 6, 128, [.nsl, .nsl, .nsl, .nsl, .nsl, .d .nmap], false, false⟩,
  some ⟨(.struct [(50, 0), (116, 5)]), 6, 128, [.nsl, .nsl, .nsl, .nsl, .nsl, .d .nmap], false, false⟩,
  some ⟨.func, 1, 8, [.d .nfn], false, false⟩,
  some ⟨.func, 1, 8, [.d .nfn], false, false⟩,
  some ⟨.func, 1, 8, [.d .nfn], false, false⟩,
  some ⟨.func, 1, 8, [.d .nfn], false, false⟩,
  some ⟨(.ptr 308), 1, 8, [.d .nptr], false, false⟩,
  some ⟨.func, 1, 8, [.d .nfn], false, false⟩,
  some ⟨(.struct [(3, 0), (3, 1), (3, 2)]), 3, 24, [.d (.int .i64 0), .d (.int .i64 0), .d (.int .i64 0)], false, false⟩,
  some ⟨(.struct [(3, 0), (3, 1), (3, 2)]), 3, 24, [.d (.int .i64 0), .d (.int .i64 0), .d (.int .i64 0)], true, false⟩,
  some ⟨(.struct [(263, 0), (3, 3), (4, 4)]), 5, 40, [.d (.int .i64 0), .d (.int .i64 0), .d (.int .i64 0), .d (.int .i64 0), .d (.bool false)], false, false⟩,
  some ⟨(.struct [(263, 0), (3, 3), (4, 4)]), 5, 40, [.d (.int .i64 0), .d (.int .i64 0), .d (.int .i64 0), .d (.int .i64 0), .d (.bool false)], false, false⟩,
  some ⟨(.struct [(56, 0), (265, 5)]), 10, 72, [.d (.int .i64 0), .d (.int .i64 0), .d (.bool false), .d (.bool false), .d (.int .i64 0), .d (.int .i64 0), .d (.int .i64 0), .d (.int .i64 0), .d (.int .i64 0), .d (.bool false)], false, false⟩,
  some ⟨(.struct [(56, 0), (265, 5)]), 10, 72, [.d (.int .i64 0), .d (.int .i64 0), .d (.bool false), .d (.bool false), .d (.int .i64 0), .d (.int .i64 0), .d (.int .i64 0), .d (.int .i64 0), .d (.int .i64 0), .d (.bool false)], false, false⟩,
  none,
  some ⟨.func, 1, 8, [.d .nfn], false, false⟩,
  some ⟨.func, 1, 8, [.d .nfn], false, false⟩,
  some ⟨(.struct [(4, 0), (4, 1), (4, 2)]), 3, 3, [.d (.bool false), .d (.bool false), .d (.bool false)], false, false⟩,
  some ⟨(.struct [(4, 0), (4, 1), (4, 2)]), 3, 3, [.d (.bool false), .d (.bool false), .d (.bool false)], true, false⟩,
  some ⟨.func, 1, 8, [.d .nfn], false, false⟩,
  some ⟨.func, 1, 8, [.d .nfn], false, false⟩,
  some ⟨.func, 1, 8, [.d .nfn], false, false⟩,
  some ⟨.func, 1, 8, [.d .nfn], false, false⟩,
  some ⟨.func, 1, 8, [.d .nfn], false, false⟩,
  some ⟨.func, 1, 8, [.d .nfn], false, false⟩,
  some ⟨.func, 1, 8, [.d .nfn], false, false⟩,
  some ⟨.func, 1, 8, [.d .nfn], false, false⟩,
  some ⟨(.struct [(50, 0), (3, 5)]), 6, 128, [.nsl, .nsl, .nsl, .nsl, .nsl, .d (.int .i64 0)], false, false⟩,
  some ⟨(.struct [(50, 0), (3, 5)]), 6, 128, [.nsl, .nsl, .nsl, .nsl, .nsl, .d (.int .i64 0)], false, false⟩,
  none,
  some ⟨.func, 1, 8, [.d .nfn], false, false⟩,
  some ⟨.func, 1, 8, [.d .nfn], false, false⟩,
  some ⟨.func, 1, 8, [.d .nfn], false, false⟩,
  some ⟨.func, 1, 8, [.d .nfn], false, false⟩,
  some ⟨.func, 1, 8, [.d .nfn], false, false⟩,
  some ⟨(.int .i64), 1, 8, [.d (.int .i64 0)], false, false⟩,
  none,
  some ⟨.func, 1, 8, [.d .nfn], false, false⟩,
  some ⟨.func, 1, 8, [.d .nfn], false, false⟩,
  some ⟨.func, 1, 8, [.d .nfn], false, false⟩,
  some ⟨.func, 1, 8, [.d .nfn], false, false⟩,
  some ⟨.func, 1, 8, [.d .nfn], false, false⟩,
  some ⟨(.int .u32), 1, 4, [.d (.int .u32 0)], false, false⟩,
  some ⟨.func, 1, 8, [.d .nfn], false, false⟩,
  some ⟨(.int .u64), 1, 8, [.d (.int .u64 0)], false, false⟩,
  some ⟨.func, 1, 8, [.d .nfn], false, false⟩,
  some ⟨(.struct [(9, 0), (3, 1)]), 2, 24, [.d (.str ⟨#[]⟩), .d (.int .i64 0)], false, false⟩,
  some ⟨(.struct [(9, 0), (3, 1)]), 2, 24, [.d (.str ⟨#[]⟩), .d (.int .i64 0)], true, false⟩,
  some ⟨(.arr 15 301), 30, 360, [.d (.str ⟨#[]⟩), .d (.int .i64 0), .d (.str ⟨#[]⟩), .d (.int .i64 0), .d (.str ⟨#[]⟩), .d (.int .i64 0), .d (.str ⟨#[]⟩), .d (.int .i64 0), .d (.str ⟨#[]⟩), .d (.int .i64 0), .d (.str ⟨#[]⟩), .d (.int .i64 0), .d (.str ⟨#[]⟩), .d (.int .i64 0), .d (.str ⟨#[]⟩), .d (.int .i64 0), .d (.str ⟨#[]⟩), .d (.int .i64 0), .d (.str ⟨#[]⟩), .d (.int .i64 0), .d (.str ⟨#[]⟩), .d (.int .i64 0), .d (.str ⟨#[]⟩), .d (.int .i64 0), .d (.str ⟨#[]⟩), .d (.int .i64 0), .d (.str ⟨#[]⟩), .d (.int .i64 0), .d (.str ⟨#[]⟩), .d (.int .i64 0)], false, false⟩,
  some ⟨.func, 1, 8, [.d .nfn], false, false⟩,
  some ⟨(.arr 2 217), 12, 64, [.d (.int .i64 0), .d (.int .i64 0), .d (.int .i64 0), .d (.bool false), .d (.bool false), .d (.bool false), .d (.int .i64 0), .d (.int .i64 0), .d (.int .i64 0), .d (.bool false), .d (.bool false), .d (.bool false)], false, false⟩,
  some ⟨(.slice 265), 1, 24, [.nsl], false, false⟩,
  some ⟨.func, 1, 8, [.d .nfn], false, false⟩,
  some ⟨(.struct [(217, 0), (305, 6), (265, 7), (43, 12), (4, 13), (4, 14)]), 15, 128, [.d (.int .i64 0), .d (.int .i64 0), .d (.int .i64 0), .d (.bool false), .d (.bool false), .d (.bool false), .nsl, .d (.int .i64 0), .d (.int .i64 0), .d (.int .i64 0), .d (.int .i64 0), .d (.bool false), .nsl, .d (.bool false), .d (.bool false)], false, false⟩,
  some ⟨(.struct [(217, 0), (305, 6), (265, 7), (43, 12), (4, 13), (4, 14)]), 15, 128, [.d (.int .i64 0), .d (.int .i64 0), .d (.int .i64 0), .d (.bool false), .d (.bool false), .d (.bool false), .nsl, .d (.int .i64 0), .d (.int .i64 0), .d (.int .i64 0), .d (.int .i64 0), .d (.bool false), .nsl, .d (.bool false), .d (.bool false)], false, false⟩,
  some ⟨.func, 1, 8, [.d .nfn], false, false⟩,
  some ⟨.func, 1, 8, [.d .nfn], false, false⟩,
  some ⟨.func, 1, 8, [.d .nfn], false, false⟩,
  some ⟨.func, 1, 8, [.d .nfn], false, false⟩,
  some ⟨.func, 1, 8, [.d .nfn], false, false⟩,
  some ⟨.func, 1, 8, [.d .nfn], false, false⟩,
  some ⟨.func, 1, 8, [.d .nfn], false, false⟩,
  some ⟨(.slice 28), 1, 24, [.nsl], false, false⟩,
  some ⟨.func, 1, 8, [.d .nfn], false, false⟩,
  some ⟨.func, 1, 8, [.d .nfn], false, false⟩,
  some ⟨.func, 1, 8, [.d .nfn], false, false⟩,
  some ⟨.func, 1, 8, [.d .nfn], false, false⟩,
  some ⟨(.int .u64), 1, 8, [.d (.int .u64 0)], false, false⟩,
  some ⟨.func, 1, 8, [.d .nfn], false, false⟩,
  some ⟨.func, 1, 8, [.d .nfn], false, false⟩,
  some ⟨.func, 1, 8, [.d .nfn], false, false⟩,
  some ⟨(.ptr 3), 1, 8, [.d .nptr], false, false⟩,
  some ⟨.func, 1, 8, [.d .nfn], false, false⟩,
  some ⟨(.slice 263), 1, 24, [.nsl], false, false⟩,
  some ⟨.func, 1, 8, [.d .nfn], false, false⟩,
  some ⟨.func, 1, 8, [.d .nfn], false, false⟩,
  some ⟨.func, 1, 8, [.d .nfn], false, false⟩,
  some ⟨.func, 1, 8, [.d .nfn], false, false⟩,
  some ⟨.func, 1, 8, [.d .nfn], false, false⟩,
  some ⟨.func, 1, 8, [.d .nfn], false, false⟩,
  some ⟨(.map 3 174), 1, 8, [.d .nmap], false, false⟩,
  none,
  some ⟨.func, 1, 8, [.d .nfn], false, false⟩,
  some ⟨.func, 1, 8, [.d .nfn], false, false⟩,
  some ⟨.func, 1, 8, [.d .nfn], false, false⟩,
  some ⟨.func, 1, 8, [.d .nfn], false, false⟩,
  some ⟨(.ptr 321), 1, 8, [.d .nptr], false, false⟩,
  none,
  some ⟨.func, 1, 8, [.d .nfn], false, false⟩,
  some ⟨.func, 1, 8, [.d .nfn], false, false⟩,
  some ⟨.func, 1, 8, [.d .nfn], false, false⟩,
  some ⟨.func, 1, 8, [.d .nfn], false, false⟩,
  some ⟨.func, 1, 8, [.d .nfn], false, false⟩,
  some ⟨.func, 1, 8, [.d .nfn], false, false⟩,
  some ⟨.func, 1, 8, [.d .nfn], false, false⟩,
  some ⟨.func, 1, 8, [.d .nfn], false, false⟩,
  none,
  some ⟨.func, 1, 8, [.d .nfn], false, false⟩,
  some ⟨.func, 1, 8, [.d .nfn], false, false⟩,
  some ⟨.func, 1, 8, [.d .nfn], false, false⟩,
  some ⟨.func, 1, 8, [.d .nfn], false, false⟩,
  some ⟨.func, 1, 8, [.d .nfn], false, false⟩,
  some ⟨.func, 1, 8, [.d .nfn], false, false⟩,
  some ⟨.func, 1, 8, [.d .nfn], false, false⟩,
  some ⟨.func, 1, 8, [.d .nfn], false, false⟩,
  some ⟨(.slice 361), 1, 24, [.nsl], false, false⟩,
  some ⟨(.struct [(225, 0)]), 1, 8, [.d .nfn], false, false⟩,
  some ⟨(.struct [(225, 0)]), 1, 8, [.d .nfn], false, false⟩,
  some ⟨.func, 1, 8, [.d .nfn], false, false⟩,
  some ⟨.func, 1, 8, [.d .nfn], false, false⟩,
  some ⟨.func, 1, 8, [.d .nfn], false, false⟩,
  some ⟨.func, 1, 8, [.d .nfn], false, false⟩,
  some ⟨.func, 1, 8, [.d .nfn], false, false⟩,
  some ⟨.func, 1, 8, [.d .nfn], false, false⟩,
  some ⟨.func, 1, 8, [.d .nfn], false, false⟩,
  some ⟨.func, 1, 8, [.d .nfn], false, false⟩,
  some ⟨.func, 1, 8, [.d .nfn], false, false⟩,
  some ⟨.func, 1, 8, [.d .nfn], false, false⟩,
  some ⟨(.struct [(17, 0), (17, 1), (17, 2), (9, 3)]), 4, 40, [.d .nptr, .d .nptr, .d .nptr, .d (.str ⟨#[]⟩)], false, false⟩,
  some ⟨(.struct [(17, 0), (17, 1), (17, 2), (9, 3)]), 4, 40, [.d .nptr, .d .nptr, .d .nptr, .d (.str ⟨#[]⟩)], false, false⟩,
  some ⟨(.arr 0 16), 0, 0, [], false, false⟩,
  none,
  none,
  some ⟨(.int .u8), 1, 1, [.d (.int .u8 0)], false, false⟩,
  some ⟨(.int .u8), 1, 1, [.d (.int .u8 0)], false, false⟩,
  some ⟨.func, 1, 8, [.d .nfn], false, false⟩,
  some ⟨(.ptr 5), 1, 8, [.d .nptr], false, false⟩,
  some ⟨(.int .i32), 1, 4, [.d (.int .i32 0)], false, false⟩,
  some ⟨(.int .i32), 1, 4, [.d (.int .i32 0)], false, false⟩,
  some ⟨(.struct [(12, 0), (12, 1), (296, 2), (377, 3), (5, 4), (5, 5), (378, 6), (379, 7), (380, 8), (381, 9), (382, 10)]), 11, 48, [.d (.int .u64 0), .d (.int .u64 0), .d (.int .u32 0), .d (.int .u8 0), .d (.int .u8 0), .d (.int .u8 0), .d (.int .u8 0), .d .nfn, .d .nptr, .d (.int .i32 0), .d (.int .i32 0)], false, false⟩,
  some ⟨(.struct [(12, 0), (12, 1), (296, 2), (377, 3), (5, 4), (5, 5), (378, 6), (379, 7), (380, 8), (381, 9), (382, 10)]), 11, 48, [.d (.int .u64 0), .d (.int .u64 0), .d (.int .u32 0), .d (.int .u8 0), .d (.int .u8 0), .d (.int .u8 0), .d (.int .u8 0), .d .nfn, .d .nptr, .d (.int .i32 0), .d (.int .i32 0)], false, false⟩,
  none]
def tt : TT := fun t => (ttL[t]?).getD none
theorem tt_all : (ttL.zipIdx.all fun x => match x.1 with | some i => agreeB Tryz.prog x.2 i | none => true) = true := by kernel_rfl
theorem tt_ok : TTok Tryz.prog tt := by
  intro t i h
  unfold tt at h
  cases ht : ttL[t]? with
  | none => rw [ht] at h; simp at h
  | some x =>
    rw [ht] at h
    simp only [Option.getD_some] at h
    subst h
    exact List.all_eq_true.1 tt_all (some i, t) (List.mem_iff_getElem?.2 ⟨t, by simp [List.getElem?_zipIdx, ht]⟩)
theorem mixed : Tryz.prog.follows .mixedOrders = true := by kernel_rfl
end Go.Eng
set_option maxRecDepth 100000
set_option linter.unusedVariables false
namespace Go.Eng
open Go Go.Proofs
theorem tree_in (n l m : Int) : Fn Tryz.prog 160 [.i n, .i l, .i m] (.b (inB n l m)) := by
  refine Fn_of tt_ok Tryz.func160 rfl (by decide) Tryz.ntmps160 rfl ?_
  repeat' ((conv => whnf); (first
   | (refine Br_dec (fun h => ?_) (fun h => ?_))
   | (refine fin0 rfl ?_)))
  all_goals (simp only [AV.d.injEq, D.bool.injEq, inB]; grind)
theorem tree_is (t : Tree) (n : Int) : Fn Tryz.prog 162 [.d (treeD t), .i n] (.b (isN t n)) := by
  refine Fn_of tt_ok Tryz.func162 rfl (by decide) Tryz.ntmps162 rfl ?_
  repeat' ((conv => whnf); (first
   | (refine Len_in (fun hlen => ?_))
   | (refine Fn.use (tree_in _ _ _) rfl rfl ?_)
   | (refine fin0 rfl ?_)
   | (refine ArK_in (wrap_i64 (by omega) (by omega)) ?_)))
  simp only [AV.d.injEq, D.bool.injEq, inB, isN, List.length_map]
  rw [Bool.eq_iff_iff]; simp; omega
theorem tree_value (a : Attr) : Fn Tryz.prog 334 [aggD a.cs] (.b (valueB a.name a.value)) := by
  refine Fn_of tt_ok Tryz.func334 rfl (by decide) Tryz.ntmps334 rfl ?_
  repeat' ((conv => whnf); (first
   | (refine Br_beq (fun h => ?_) (fun h => ?_))
   | (refine Fn.use (tree_in _ _ _) rfl rfl ?_)
   | (refine fin0 rfl ?_)))
  all_goals simp [valueB, inB, *]
  all_goals (rw [Bool.eq_iff_iff]; simp)
theorem index_int (l : List Int) (n : Int) : Fn Tryz.prog 168 [.d (ints l), .i n] (.i (ix (· == n) l)) := by
  refine Fn_of tt_ok Tryz.func168 rfl (by decide) Tryz.ntmps168 rfl ?_
  refine Len_in (fun hlen => ?_)
  simp only [List.length_map] at hlen
  refine W_loop (fun μ s => ∃ (k : Nat), k ≤ l.length ∧ μ = l.length - k ∧ (∀ j (h : j < l.length), j < k → (l[j] == n) = false) ∧
      s = ⟨[(0, .d (ints l)), (1, .i n), (7, .i (List.map intCs l).length), (8, .i k)], 19, [], 0, []⟩) l.length
    ⟨_, ?_, 0, by simp, by simp, by simp, rfl⟩ ?_
  · exact Wk_env (by repeat (first | exact trivial | refine ⟨rfl, ?_⟩))
  rintro μ s1 ⟨k, hk, rfl, hno, rfl⟩
  refine W_run tt_ok ?_
  refine Br_dec (fun h => ?_) (fun h => ?_)
  · simp at h
    refine Idx_in (intCs l[k]) (by simp [h]) (by omega) rfl ?_
    have hd := ix_drop (· == n) l k hno hk
    rw [List.drop_eq_getElem_cons h] at hd
    repeat' ((conv => whnf); (first
     | (refine Br_beq (fun h => ?_) (fun h => ?_))
     | (refine Back_in _ _ ⟨k + 1, by omega, rfl, ?_, rfl⟩ (by omega) (Wk_env (by repeat (first | exact trivial | refine ⟨rfl, ?_⟩))))
     | (refine fin0 rfl ?_)
     | (refine ArK_in (wrap_i64 (by omega) (by omega)) ?_)))
    · simp only [AV.d.injEq, D.int.injEq, true_and, hd, ix]
      simp [h]
    · intro j hj hjk
      rcases Nat.lt_succ_iff_lt_or_eq.1 hjk with h1 | h1
      · exact hno j hj h1
      · subst h1; exact beq_false_of_ne fun e => h e.symm
  · simp at h
    have hd := ix_drop (· == n) l k hno hk
    rw [List.drop_eq_nil_of_le h] at hd
    repeat' ((conv => whnf); (first
     | (refine fin0 rfl ?_)))
    simp [hd, ix]
end Go.Eng
set_option maxRecDepth 100000
set_option linter.unusedVariables false
namespace Go.Eng
open Go Go.Proofs
theorem contains_int (l : List Int) (n : Int) : Fn Tryz.prog 153 [.d (ints l), .i n] (.b (l.any (· == n))) := by
  refine Fn_of tt_ok Tryz.func153 rfl (by decide) Tryz.ntmps153 rfl ?_
  repeat' ((conv => whnf); (first
   | (refine Fn.use (index_int _ _) rfl rfl ?_)
   | (refine fin0 rfl ?_)))
  rw [← ix_any]
theorem tree_once (l : List Int) (n : Int) : Fn Tryz.prog 282 [.d (ints l), .i n] (.b (onceB l n)) := by
  refine Fn_ofB tt_ok Tryz.func282 rfl (by decide) Tryz.ntmps282 rfl (fun hok => ?_)
  have hB := Ok_len (hok (.d (ints l)) (by simp))
  simp only [List.length_map] at hB
  have hl := ix_lo (· == n) l
  have e := ix_count l n
  refine Fn.use (index_int _ _) rfl rfl ?_
  refine Br_dec (fun h => ?_) (fun h => ?_)
  · refine ArK_in (wrap_i64 (by omega) (by omega)) ?_
    refine Need_in ⟨by omega, by simp; omega, by simp, fun row hr => ?_⟩ ?_
    · obtain ⟨a, _, rfl⟩ := List.mem_map.1 hr
      rfl
    refine Fn.useE (contains_int (l.drop (ix (· == n) l + 1).toNat) n) ?_ rfl rfl ?_
    · simp only [ints, List.map_drop, Int.toNat_natCast]
      rw [List.take_of_length_le (by simp)]
    repeat' ((conv => whnf); (first
     | (refine fin0 rfl ?_)))
    rw [decide_eq_true h, Bool.true_and] at e
    rw [e]; unfold onceB; rfl
  · repeat' ((conv => whnf); (first
   | (refine fin0 rfl ?_)))
    rw [decide_eq_false h, Bool.false_and] at e
    rw [e]; unfold onceB; rfl
theorem tree_attrs (x : Node) : Fn Tryz.prog 283 [aggD x.cs] (.b (attrsB x)) := by
  refine Fn_of tt_ok Tryz.func283 rfl (by decide) Tryz.ntmps283 rfl ?_
  refine Len_in (fun hlen => ?_)
  simp only [List.length_map] at hlen
  refine W_loop (fun μ s => ∃ (k : Nat) (last : Int), k ≤ x.attrs.length ∧ μ = x.attrs.length - k ∧ attrsFrom (decide (x.kind = 3)) (-1) x.attrs = attrsFrom (decide (x.kind = 3)) last (x.attrs.drop k) ∧
      s = ⟨[(1, .ptr 0 0), (3, .i last), (8, .d (attrsD x.attrs)), (9, .i (List.map Attr.cs x.attrs).length), (10, .i k)], 60, [some (.row (x.cs.map .d))], 0, []⟩) x.attrs.length
    ⟨_, ?_, 0, -1, by simp, by simp, by simp, rfl⟩ ?_
  · exact Wk_ren [0] rfl rfl (by repeat (first | exact trivial | refine ⟨⟨rfl, rfl⟩, ?_⟩)) (by repeat (first | exact trivial | refine ⟨⟨rfl, rfl⟩, ?_⟩)) (by decide) (by omega)
  rintro μ s1 ⟨k, last, hk, rfl, hgo, rfl⟩
  refine W_run tt_ok ?_
  refine Br_dec (fun h => ?_) (fun h => ?_)
  · simp at h
    refine Idx_in (x.attrs[k]).cs (by simp [h]) (by omega) rfl ?_
    rw [List.drop_eq_getElem_cons h] at hgo
    generalize x.attrs[k] = a at hgo
    simp only [attrsFrom, ofSh] at hgo
    repeat' ((conv => whnf); (first
     | (refine Br_beq (fun h => ?_) (fun h => ?_))
     | (refine Br_false (decide_eq_false (by omega)) ?_)
     | (refine Br_dec (fun h => ?_) (fun h => ?_))
     | (refine Br_not ?_)
     | (refine Fn.use (tree_value _) rfl rfl ?_)
     | (refine Back_in _ _ ⟨k + 1, a.name, by omega, rfl, ?_, rfl⟩ (by omega) (Wk_ren [0] rfl rfl (by repeat (first | exact trivial | refine ⟨⟨rfl, rfl⟩, ?_⟩)) (by repeat (first | exact trivial | refine ⟨⟨rfl, rfl⟩, ?_⟩)) (by decide) (by omega)))
     | (refine Br_split (fun h => ?_) (fun h => ?_))
     | (refine fin0 rfl ?_)
     | (refine ArK_in (wrap_i64 (by omega) (by omega)) ?_)))
    all_goals (clear hlen; simp only [attrsB, AV.b, AV.d.injEq, D.bool.injEq, hgo] at *; grind)
  · simp at h
    have hk' : x.attrs.drop k = [] := List.drop_eq_nil_of_le h
    rw [hk'] at hgo
    have hz : x.attrs.length = 0 → x.attrs = [] := List.eq_nil_of_length_eq_zero
    repeat' ((conv => whnf); (first
     | (refine Br_beq (fun h => ?_) (fun h => ?_))
     | (refine Len_in (fun hlen => ?_))
     | (refine fin0 rfl ?_)))
    all_goals (clear hlen; simp only [attrsB, AV.b, AV.d.injEq, D.bool.injEq, hgo, attrsFrom] at *; grind)
theorem tree_below (t : Tree) (n k : Int) (hn : isN t n = true) : Fn Tryz.prog 286 [.d (treeD t), .i n, .i k] (.b (belowB t n k)) := by
  refine Fn_of tt_ok Tryz.func286 rfl (by decide) Tryz.ntmps286 rfl ?_
  repeat' ((conv => whnf); (first
   | (refine Br_beq (fun h => ?_) (fun h => ?_))
   | (refine Fn.use (tree_is _ _) rfl rfl ?_)
   | (refine Fn.use (tree_once _ _) rfl rfl ?_)
   | (refine Idx_nd hn rfl ?_)
   | (refine Idx_nd (by assumption) rfl ?_)
   | (refine Br_split (fun h => ?_) (fun h => ?_))
   | (refine fin0 rfl ?_)))
  all_goals (simp only [belowB, AV.d.injEq, D.bool.injEq]; simp_all <;> (rw [Bool.eq_iff_iff]; simp_all))
theorem tree_shadow (t : Tree) (n : Int) (hn : isN t n = true) : Fn Tryz.prog 284 [.d (treeD t), .i n] (.b (shadowB t n)) := by
  refine Fn_of tt_ok Tryz.func284 rfl (by decide) Tryz.ntmps284 rfl ?_
  repeat' ((conv => whnf); (first
   | (refine Br_beq (fun h => ?_) (fun h => ?_))
   | (refine Br_bne (fun h => ?_) (fun h => ?_))
   | (refine Fn.use (tree_is _ _) rfl rfl ?_)
   | (refine Idx_nd hn rfl ?_)
   | (refine Idx_nd (by assumption) rfl ?_)
   | (refine Br_split (fun h => ?_) (fun h => ?_))
   | (refine fin0 rfl ?_)))
  all_goals (simp only [shadowB, AV.d.injEq, D.bool.injEq]; simp_all <;> (rw [Bool.eq_iff_iff]; simp_all))
end Go.Eng
set_option maxRecDepth 100000
set_option linter.unusedVariables false
namespace Go.Eng
open Go Go.Proofs
theorem indexFunc_int (l : List Int) (g : FuncId) (fs cs : List AV) (H : Heap) (p : Int → Bool) (hp : ∀ k ∈ l, Tri Tryz.prog g (fs ++ [.i k] ++ cs) H fun v H' => v = .b (p k) ∧ H' = H) :
    Tri Tryz.prog 148 [.d (ints l), .clos (.func g) fs cs] H fun v H' => v = .i (ix p l) ∧ H' = H := by
  refine Tri_of (m := H.length) tt_ok Tryz.func148 rfl (by decide) Tryz.ntmps148 (by rfl) rfl ?_
  refine Len_in (fun hlen => ?_)
  simp only [List.length_map] at hlen
  refine W_loop (fun μ s => ∃ (k : Nat), k ≤ l.length ∧ μ = l.length - k ∧ (∀ j (h : j < l.length), j < k → p l[j] = false) ∧
      s = ⟨[(0, .d (ints l)), (1, .clos (.func g) fs cs), (7, .i (List.map intCs l).length), (8, .i k)], 19, H, H.length, []⟩) l.length
    ⟨_, ?_, 0, by simp, by simp, by simp, rfl⟩ ?_
  · exact Wk_env (by repeat (first | exact trivial | refine ⟨rfl, ?_⟩))
  rintro μ s1 ⟨k, hk, rfl, hno, rfl⟩
  refine W_run tt_ok ?_
  refine Br_dec (fun h => ?_) (fun h => ?_)
  · simp at h
    refine Idx_in (intCs l[k]) (by simp [h]) (by omega) rfl ?_
    have hd := ix_drop p l k hno hk
    rw [List.drop_eq_getElem_cons h] at hd
    refine Tri.use (hp l[k] (List.getElem_mem h)) ?_
    refine Br_split (fun hq => ?_) (fun hq => ?_)
    · repeat' ((conv => whnf); (first
     | (refine finR ?_)))
      simp only [AV.d.injEq, D.int.injEq, true_and, hd, ix]
      simp [hq]
    · repeat' ((conv => whnf); (first
     | (refine Back_in _ _ ⟨k + 1, by omega, rfl, ?_, rfl⟩ (by omega) (Wk_env (by repeat (first | exact trivial | refine ⟨rfl, ?_⟩))))
     | (refine ArK_in (wrap_i64 (by omega) (by omega)) ?_)))
      intro j hj hjk
      rcases Nat.lt_succ_iff_lt_or_eq.1 hjk with h1 | h1
      · exact hno j hj h1
      · subst h1; exact hq
  · simp at h
    have hd := ix_drop p l k hno hk
    rw [List.drop_eq_nil_of_le h] at hd
    repeat' ((conv => whnf); (first
     | (refine finR ?_)))
    simp [hd, ix]
theorem containsFunc_int (l : List Int) (g : FuncId) (fs cs : List AV) (H : Heap) (p : Int → Bool) (hp : ∀ k ∈ l, Tri Tryz.prog g (fs ++ [.i k] ++ cs) H fun v H' => v = .b (p k) ∧ H' = H) :
    Tri Tryz.prog 207 [.d (ints l), .clos (.func g) fs cs] H fun v H' => v = .b (l.any p) ∧ H' = H := by
  refine Tri_of (m := H.length) tt_ok Tryz.func207 rfl (by decide) Tryz.ntmps207 (by rfl) rfl ?_
  refine Tri.use (indexFunc_int l g fs cs H p hp) ?_
  repeat' ((conv => whnf); (first
   | (refine finR ?_)))
  rw [← ix_any]
theorem tree_node1 (t : Tree) (n k : Int) (hn : isN t n = true) (rest : Heap) :
    Tri Tryz.prog 285 [.i k, .ptr 0 0, .ptr 1 0] (some (.row [.d (treeD t)]) :: some (.row [.i n]) :: rest) fun v H' => v = .b (!belowB t n k) ∧ H' = some (.row [.d (treeD t)]) :: some (.row [.i n]) :: rest := by
  refine Tri_of (m := rest.length + 2) tt_ok Tryz.func285 rfl (by decide) Tryz.ntmps285 (by rfl) rfl ?_
  refine Fn.use (tree_below t n k hn) rfl rfl ?_
  repeat' ((conv => whnf); (first
   | (refine finR ?_)))
  rfl
set_option maxHeartbeats 2000000 in
theorem tree_node (t : Tree) (n : Int) (hn : isN t n = true) : Fn Tryz.prog 213 [.d (treeD t), .i n] (.b (nodeB t n)) := by
  refine Fn_of tt_ok Tryz.func213 rfl (by decide) Tryz.ntmps213 rfl ?_
  refine Idx_nd hn rfl ?_
  repeat' ((conv => whnf); (first
   | (refine Br_false (beqF (by omega)) ?_)
   | (refine Br_beq (fun h => ?_) (fun h => ?_))
   | (refine Br_true (bneT (by omega)) ?_)
   | (refine Br_false (bneF (by omega)) ?_)
   | (refine Br_bne (fun h => ?_) (fun h => ?_))
   | (refine Br_dec (fun h => ?_) (fun h => ?_))
   | (refine Br_not ?_)
   | (refine Len_in (fun hlen => ?_))
   | (refine W_draw 0 tt_ok mixed (by kernel_rfl) ?_)
   | (refine Fn.use (tree_in _ _ _) rfl rfl ?_)
   | (refine CallF_in (tree_is _ _) rfl rfl ?_)
   | (refine CallF_in (tree_once _ _) rfl rfl ?_)
   | (refine Fn.use (tree_attrs _) rfl rfl ?_)
   | (refine Fn.use (tree_shadow _ _ hn) rfl rfl ?_)
   | (refine Idx_nd (by assumption) rfl ?_)
   | (refine Tri.use (containsFunc_int _ _ [] _ _ (fun k => !belowB t n k) fun k _ => tree_node1 t n k hn _) ?_)
   | (refine Br_split (fun h => ?_) (fun h => ?_))
   | (refine fin0 rfl ?_)))
  all_goals (try simp only [List.length_map] at *)
  all_goals (have hz : (nd t n).kids = [] ↔ (nd t n).kids.length = 0 := by simp)
  all_goals (simp only [nodeB, kindB, parB, AV.d.injEq, D.bool.injEq, not_any_not, hz]; grind)
end Go.Eng
set_option maxRecDepth 100000
set_option linter.unusedVariables false
namespace Go.Eng
open Go Go.Proofs
theorem tree_up (t : Tree) (n : Int) : Tri Tryz.prog 227 [.d (treeD t), .i n] [] fun v H => v = .clos (.func 290) [] [.ptr 0 0, .ptr 1 0] ∧ H = [some (.row [.d (treeD t)]), some (.row [.i n])] := by
  refine Tri_of (m := 0) tt_ok Tryz.func227 rfl (by decide) Tryz.ntmps227 (by rfl) rfl ?_
  repeat' ((conv => whnf); (first
   | (refine finR ?_)))
  rfl
theorem tree_up1 (t : Tree) (n : Int) (hu : Ups t) (hn : okN t n) (Y : Ysp) (hx : Y.xs = (climb t (t.length + 1) n).map AV.i) (hY : YLaw Tryz.prog Y) :
    Tri Tryz.prog 290 ([] ++ [.clos (.yield Y.l) [] []] ++ [.ptr 0 0, .ptr 1 0]) ([some (.row [.d (treeD t)]), some (.row [.i n])] ++ [some (.yl Y 0)])
      fun v H1 => H1[2]? = some (some (.yl Y Y.xs.length)) ∨ H1[2]? = some (some (.yz Y)) := by
  refine Tri_of (m := 3) tt_ok Tryz.func290 rfl (by decide) Tryz.ntmps290 (by rfl) rfl ?_
  refine Len_in (fun hlen => ?_)
  simp only [List.length_map] at hlen
  refine ArK_in (wrap_i64 (by simp; omega) (by simp; omega)) ?_
  refine W_loop (fun μ s => ∃ (k : Nat) (c : Int), k ≤ t.length + 1 ∧ μ = t.length + 1 - k ∧ okN t c ∧ (climb t (t.length + 1) n).drop k = climb t (t.length + 1 - k) c ∧ (climb t (t.length + 1) n).length = k + (climb t (t.length + 1 - k) c).length ∧
      s = ⟨[(0, .clos (.yield Y.l) [] []), (1, .ptr 0 0), (2, .ptr 1 0), (6, .i ((List.map Node.cs t).length + 1)), (7, .i k)], 29, [some (.row [.d (treeD t)]), some (.row [.i c]), some (.yl Y k)], 3, []⟩) (t.length + 1)
    ⟨_, ?_, 0, n, by simp, by simp, hn, by simp, by simp, rfl⟩ ?_
  · exact Wk_env (by repeat (first | exact trivial | refine ⟨rfl, ?_⟩))
  rintro μ s1 ⟨k, c, hk, rfl, hc, hd, hl, rfl⟩
  have hxl : Y.xs.length = k + (climb t (t.length + 1 - k) c).length := by rw [hx]; simpa using hl
  refine W_run tt_ok ?_
  refine Br_dec (fun h => ?_) (fun h => ?_)
  · simp at h
    have e : t.length + 1 - k = (t.length - k) + 1 := by omega
    rw [e] at hd hxl hl
    generalize climb t (t.length + 1) n = L at *
    simp only [climb] at hd hxl hl
    refine Br_beq (fun h1 => ?_) (fun h1 => ?_)
    · rw [if_pos h1] at hxl
      repeat' ((conv => whnf); (first
       | (refine finQ (.inl ?_))))
      rw [hxl]; rfl
    · rw [if_neg h1] at hxl hd hl
      have hc' : isN t c = true := hc.resolve_left h1
      obtain ⟨hu1, hu2⟩ := hu c hc'
      have hxk : Y.xs[k]? = some (.i c) := by
        rw [hx, List.getElem?_map]
        have : L[k]? = some c := by
          have := congrArg (·[0]?) hd
          simpa using this
        rw [this]; rfl
      have hd' : L.drop (k + 1) = climb t (t.length + 1 - (k + 1)) (hi (nd t c)) := by
        have := congrArg List.tail hd
        rw [List.tail_drop] at this
        rw [this, List.tail_cons]
        congr 1
        omega
      have hl' : L.length = (k + 1) + (climb t (t.length + 1 - (k + 1)) (hi (nd t c))).length := by
        rw [hl, List.length_cons]
        have : t.length + 1 - (k + 1) = t.length - k := by omega
        rw [this]; omega
      refine Yield_in 2 Y k (.i c) rfl rfl hY rfl rfl hxk ?_ ?_
      · repeat' ((conv => whnf); (first
       | (refine W_draw 0 tt_ok mixed (by kernel_rfl) ?_)
       | (refine Idx_nd hc' rfl ?_)
       | (refine Back_in _ _ ⟨k + 1, _, by omega, rfl, hu1, hd', hl', rfl⟩ (by omega) (Wk_env (by repeat (first | exact trivial | refine ⟨rfl, ?_⟩))))
       | (refine ArK_in (wrap_i64 (by omega) (by omega)) ?_)))
      · repeat' ((conv => whnf); (first
       | (refine finQ (.inr rfl))))
  · simp at h
    have e : t.length + 1 - k = 0 := by omega
    rw [e] at hxl
    simp only [climb, List.length_nil, Nat.add_zero] at hxl
    repeat' ((conv => whnf); (first
     | (refine finQ (.inl ?_))))
    rw [hxl]; rfl
theorem tree_turns (t : Tree) (n : Int) (hu : Ups t) (hn : okN t n) : Fn Tryz.prog 214 [.d (treeD t), .i n] (.b (decide ((climb t (t.length + 1) n).length > t.length))) := by
  refine Fn_ofB tt_ok Tryz.func214 rfl (by decide) Tryz.ntmps214 rfl (fun hok => ?_)
  have hB := Ok_len (hok (.d (treeD t)) (by simp))
  simp only [List.length_map] at hB
  have hcl := climb_len t (t.length + 1) n
  refine Tri.call (tree_up t n) [] rfl rfl trivial rfl rfl rfl rfl (r := .clos (.func 290) [] [.ptr 1 0, .ptr 2 0]) (H' := [some (.row [.i 0]), some (.row [.d (treeD t)]), some (.row [.i n])]) rfl rfl ?_
  conv => whnf
  refine W_range [1, 2] (fs0 := []) (cs0 := [.ptr 0 0, .ptr 1 0]) (H0 := [some (.row [.d (treeD t)]), some (.row [.i n])]) ((climb t (t.length + 1) n).map AV.i) (fun k H => H = [some (.row [.i k]), none, none, some .dfr]) (fun _ _ => False) rfl rfl rfl
    (by repeat (first | exact trivial | refine ⟨⟨rfl, rfl⟩, ?_⟩)) rfl rfl rfl rfl (by decide) rfl ?_ ?_ rfl ?_ ?_ ?_
  · intro k x hx
    rw [List.getElem?_map] at hx
    cases h : (climb t (t.length + 1) n)[k]? with
    | none => rw [h] at hx; simp at hx
    | some c => rw [h] at hx; simp at hx; subst hx; rfl
  · intro Y hx hY
    have := tree_up1 t n hu hn Y hx hY
    rw [hx] at this
    exact this
  · rintro l k x H' hx rfl hl hY
    have hk : k < t.length + 1 := by
      have := (List.getElem?_eq_some_iff.1 hx).1
      simp at this
      omega
    refine W_run tt_ok ?_
    repeat' ((conv => whnf); (first
     | (refine Rd_next [some (.row [.i (k + 1 : Nat)]), none, none, some .dfr] (Wk_env (by repeat (first | exact trivial | refine ⟨rfl, ?_⟩))) rfl (Nat.le_of_ble_eq_true rfl) rfl)
     | (refine ArK_in (wrap_i64 (by omega) (by omega)) ?_)))
  · rintro H' rfl hl hY
    repeat' ((conv => whnf); (first
     | (refine Len_in (fun hlen => ?_))
     | (refine fin0 rfl ?_)))
    simp
  · intro e H' c _ h
    exact h.elim
theorem ups_of (t : Tree) (h : ∀ k : Nat, k < t.length → nodeB t k = true) : Ups t := by
  intro n hn
  have h0 := nd_pos hn
  have hlt : n.toNat < t.length := by unfold isN at hn; have := of_decide_eq_true hn; omega
  have hk := h n.toNat hlt
  have e : ((n.toNat : Nat) : Int) = n := by omega
  rw [e] at hk
  unfold nodeB parB shadowB at hk
  simp only [Bool.and_eq_true, Bool.or_eq_true, decide_eq_true_eq] at hk
  obtain ⟨⟨⟨⟨⟨h1, h2⟩, h3⟩, h4⟩, h5⟩, h6⟩ := hk
  unfold okN hi upN
  generalize nd t n = x at *
  split at h5
  · rename_i hs
    simp only [Bool.and_eq_true, decide_eq_true_eq] at h5
    obtain ⟨⟨⟨⟨g1, g2⟩, g3⟩, g4⟩, g5⟩ := h5
    have := nd_pos g3
    rw [if_pos (by omega), if_pos hs]
    exact ⟨.inr g3, rfl⟩
  · rename_i hs
    rw [if_neg hs]
    have hh : x.host = -1 := by
      split at h5
      · simp at h5
      · omega
    rcases h3 with h3 | ⟨h3, _⟩
    · rw [hh, h3]; simp
    · have := nd_pos h3
      rw [if_neg (by omega)]
      exact ⟨.inr h3, rfl⟩
theorem tree_may (t : Tree) : Fn Tryz.prog 161 [.d (treeD t)] (.b (mayB t)) := by
  refine Fn_of tt_ok Tryz.func161 rfl (by decide) Tryz.ntmps161 rfl ?_
  refine Len_in (fun hlen => ?_)
  simp only [List.length_map] at hlen
  refine Fn.use (tree_in _ _ _) rfl rfl ?_
  refine Br_not ?_
  refine Br_split (fun hin => ?_) (fun hin => ?_)
  rotate_left
  · repeat' ((conv => whnf); (first
   | (refine fin0 rfl ?_)))
    unfold mayB inB at *
    simp only [List.length_map] at hin
    simp_all
    intro h1 h2
    omega
  refine Len_in (fun _ => ?_)
  refine W_loop (fun μ s => ∃ (k : Nat), k ≤ t.length ∧ μ = t.length - k ∧ (∀ j : Nat, j < k → nodeB t j = true) ∧
      s = ⟨[(0, .d (treeD t)), (10, .i (List.map Node.cs t).length), (11, .i k)], 28, [], 0, []⟩) t.length
    ⟨_, ?_, 0, by simp, by simp, by simp, rfl⟩ ?_
  · exact Wk_env (by repeat (first | exact trivial | refine ⟨rfl, ?_⟩))
  rintro μ s1 ⟨k, hk, rfl, hno, rfl⟩
  refine W_run tt_ok ?_
  refine Br_dec (fun h => ?_) (fun h => ?_)
  · simp at h
    refine Fn.use (tree_node t k (isN_nat h)) rfl rfl ?_
    refine Br_not (Br_split (fun hq => ?_) (fun hq => ?_))
    · repeat' ((conv => whnf); (first
     | (refine Back_in _ _ ⟨k + 1, by omega, rfl, ?_, rfl⟩ (by omega) (Wk_env (by repeat (first | exact trivial | refine ⟨rfl, ?_⟩))))
     | (refine ArK_in (wrap_i64 (by omega) (by omega)) ?_)))
      intro j hj
      rcases Nat.lt_succ_iff_lt_or_eq.1 hj with h1 | h1
      · exact hno j h1
      · subst h1; exact hq
    · repeat' ((conv => whnf); (first
     | (refine fin0 rfl ?_)))
      simp only [AV.d.injEq, D.bool.injEq]
      unfold mayB
      symm
      rw [Bool.and_eq_false_iff]; left
      rw [Bool.and_eq_false_iff]; right
      rw [List.all_eq_false]
      exact ⟨k, by simpa using h, by simp [hq]⟩
  · simp at h
    have hk' : k = t.length := by omega
    subst hk'
    have hu := ups_of t hno
    refine Len_in (fun _ => ?_)
    refine W_loop (fun μ s => ∃ (k : Nat), k ≤ t.length ∧ μ = t.length - k ∧ (∀ j : Nat, j < k → endsB t j = true) ∧
        s = ⟨[(0, .d (treeD t)), (20, .i (List.map Node.cs t).length), (21, .i k)], 28, [], 0, []⟩) t.length
      ⟨_, ?_, 0, by simp, by simp, by simp, rfl⟩ ?_
    · exact Wk_env (by repeat (first | exact trivial | refine ⟨rfl, ?_⟩))
    rintro μ s1 ⟨k, hk, rfl, hen, rfl⟩
    refine W_run tt_ok ?_
    refine Br_dec (fun h => ?_) (fun h => ?_)
    · simp at h
      have hce := (climb_ends t hu (t.length + 1) k (.inr (isN_nat h))).resolve_right (by omega)
      have hce' : decide ((climb t (t.length + 1) (k : Int)).length > t.length) = !endsB t k := by
        unfold endsB; simpa using hce
      refine Fn.use (tree_turns t k hu (.inr (isN_nat h))) rfl rfl ?_
      refine Br_split (fun hq => ?_) (fun hq => ?_)
      · repeat' ((conv => whnf); (first
       | (refine fin0 rfl ?_)))
        rw [hce'] at hq
        simp only [AV.d.injEq, D.bool.injEq]
        unfold mayB
        symm
        rw [Bool.and_eq_false_iff]; right
        rw [List.all_eq_false]
        exact ⟨k, by simpa using h, by simpa using hq⟩
      · rw [hce'] at hq
        repeat' ((conv => whnf); (first
         | (refine Back_in _ _ ⟨k + 1, by omega, rfl, ?_, rfl⟩ (by omega) (Wk_env (by repeat (first | exact trivial | refine ⟨rfl, ?_⟩))))
         | (refine ArK_in (wrap_i64 (by omega) (by omega)) ?_)))
        intro j hj
        rcases Nat.lt_succ_iff_lt_or_eq.1 hj with h1 | h1
        · exact hen j h1
        · subst h1; simpa using hq
    · simp at h
      repeat' ((conv => whnf); (first
       | (refine fin0 rfl ?_)))
      unfold mayB inB at *
      simp only [AV.d.injEq, D.bool.injEq]
      simp only [List.length_map, decide_eq_true_eq] at hin
      symm
      simp only [Bool.and_eq_true, List.all_eq_true, List.mem_range, decide_eq_true_eq]
      exact ⟨⟨⟨by omega, by omega⟩, hno⟩, fun j hj => hen j (by omega)⟩
theorem tree_Check (t : Tree) : Fn Tryz.prog 176 [.d (treeD t)] (.i (if mayB t then 0 else 1)) := by
  refine Fn_of tt_ok Tryz.func176 rfl (by decide) Tryz.ntmps176 rfl ?_
  repeat' ((conv => whnf); (first
   | (refine Br_not ?_)
   | (refine Fn.use (tree_may t) rfl rfl ?_)
   | (refine Br_split (fun h => ?_) (fun h => ?_))
   | (refine fin0 rfl ?_)))
  all_goals simp [*]
end Go.Eng
namespace Go.Eng
def getV (l : List Attr) (name : Int) : Int × Bool :=
  match l.find? (fun a => a.name == name) with
  | some a => (a.value, true)
  | none => (0, false)
def getR (t : Tree) (n name : Int) : Int × Bool := if isN t n then getV (nd t n).attrs name else (0, false)
def withAt (l : List Attr) (a : Attr) (lay : Bool) (m : Int) : List Attr := if m = a.name then (if lay then [a] else []) else l.filter fun x => x.name == m
def withTo (l : List Attr) (a : Attr) (lay : Bool) : Nat → List Attr
  | 0 => []
  | k + 1 => withTo l a lay k ++ withAt l a lay k
def withL (l : List Attr) (a : Attr) (lay : Bool) : List Attr := withTo l a lay 10
end Go.Eng
namespace Go.Eng
def attrB (kind : Int) (a : Attr) : Bool := decide (0 ≤ a.name ∧ a.name ≤ 9) && valueB a.name a.value && (if kind = 3 then ofSh a.name else decide (kind = 1) && !ofSh a.name)
def putAttrs (t : Tree) (n : Int) (l : List Attr) : Tree := t.set n.toNat { nd t n with attrs := l }
def setR (t : Tree) (n : Int) (a : Attr) : Tree × Int :=
  if mayB t = false then ([], 1)
  else if isN t n = false then (t, 2)
  else if (nd t n).kind ≠ 1 ∧ (nd t n).kind ≠ 3 then (t, 3)
  else if attrB (nd t n).kind a = false then (t, 7)
  else (putAttrs t n (withL (nd t n).attrs a true), 0)
def dropR (t : Tree) (n : Int) (name : Int) : Tree × Int :=
  if mayB t = false then ([], 1)
  else if isN t n = false then (t, 2)
  else if (getV (nd t n).attrs name).2 = false then (t, 7)
  else (putAttrs t n (withL (nd t n).attrs ⟨name, 0⟩ false), 0)
def SmallT (t : Tree) : Prop := t.length ≤ 1000 ∧ ∀ x ∈ t, x.kids.length ≤ 1000 ∧ x.attrs.length ≤ 1000
theorem nd_get {t : Tree} {n : Int} (h : isN t n = true) : n.toNat < t.length ∧ t[n.toNat]? = some (nd t n) := by
  unfold isN at h; have := of_decide_eq_true h
  have hl : n.toNat < t.length := by omega
  exact ⟨hl, by simp [nd, hl]⟩
theorem nd_mem {t : Tree} {n : Int} (h : isN t n = true) : nd t n ∈ t := List.mem_of_getElem? (nd_get h).2
end Go.Eng
namespace Go.Eng
open Go
abbrev str (l : List UInt8) : D := .str ⟨l.toArray⟩
@[irreducible] def blankB (c : UInt8) : Bool := decide (c.toNat = 32 ∨ c.toNat = 9 ∨ c.toNat = 10 ∨ c.toNat = 12 ∨ c.toNat = 13)
@[irreducible] def digitB (c : UInt8) : Bool := decide (48 ≤ c.toNat ∧ c.toNat ≤ 57)
def mnI (a b : Int) : Int := if b < a then b else a
def valS (n : Int) (c : UInt8) : Int := mnI (10 * n + ((c.toNat : Int) - 48)) 2147483648
def valD (ds : List UInt8) : Int := ds.foldl valS 0
def signOf (r : List UInt8) : Int := if r.head? = some 45 then -1 else 1
def afterSign (r : List UInt8) : List UInt8 := if r.head? = some 45 ∨ r.head? = some 43 then r.tail else r
def idxOf (l : List UInt8) : Int × Bool :=
  let r := l.dropWhile blankB
  let ds := (afterSign r).takeWhile digitB
  if ds = [] then (0, false) else (mnI (signOf r * valD ds) 2147483647, true)
end Go.Eng
namespace Go.Eng
theorem may_node {t : Tree} {n : Int} (h : mayB t = true) (hn : isN t n = true) : nodeB t n = true := by
  unfold mayB at h
  simp only [Bool.and_eq_true, List.all_eq_true, List.mem_range, decide_eq_true_eq] at h
  have h0 := nd_pos hn
  have hl : n.toNat < t.length := (nd_get hn).1
  have := h.1.2 n.toNat hl
  rwa [show ((n.toNat : Nat) : Int) = n by omega] at this
theorem may_ends {t : Tree} {n : Int} (h : mayB t = true) (hn : isN t n = true) : endsF t (t.length + 1) n = true := by
  unfold mayB at h
  simp only [Bool.and_eq_true, List.all_eq_true, List.mem_range, decide_eq_true_eq] at h
  have h0 := nd_pos hn
  have hl : n.toNat < t.length := (nd_get hn).1
  have := h.2 n.toNat hl
  rw [show ((n.toNat : Nat) : Int) = n by omega] at this
  unfold endsB at this
  exact this
theorem may_len64 {t : Tree} (h : mayB t = true) : 1 ≤ t.length ∧ t.length ≤ 64 := by
  unfold mayB at h
  simp only [Bool.and_eq_true, decide_eq_true_eq] at h
  exact h.1.1
structure NodeOk (t : Tree) (n : Int) : Prop where
  kind : 0 ≤ (nd t n).kind ∧ (nd t n).kind ≤ 3
  doc : (nd t n).kind = 0 ↔ n = 0
  par : (nd t n).parent = -1 ∨ (isN t (nd t n).parent = true ∧ (nd t (nd t n).parent).kids.count n = 1)
  sh : (nd t n).kind = 3 → (nd t n).root = -1 ∧ (nd t n).parent = -1 ∧ isN t (nd t n).host = true ∧ (nd t (nd t n).host).kind = 1 ∧ (nd t (nd t n).host).root = n
  nh : (nd t n).kind ≠ 3 → (nd t n).host = -1
  rt : (nd t n).root ≠ -1 → (nd t n).kind = 1 ∧ isN t (nd t n).root = true ∧ (nd t (nd t n).root).kind = 3 ∧ (nd t (nd t n).root).host = n
  kids : ∀ k ∈ (nd t n).kids, isN t k = true ∧ (nd t k).parent = n ∧ ((nd t k).kind = 1 ∨ (nd t k).kind = 2) ∧ (nd t n).kids.count k = 1
theorem may_ok {t : Tree} {n : Int} (h : mayB t = true) (hn : isN t n = true) : NodeOk t n := by
  have hb := may_node h hn
  unfold nodeB kindB parB shadowB at hb
  simp only [Bool.and_eq_true, Bool.or_eq_true, decide_eq_true_eq, List.all_eq_true, beq_iff_eq, decide_eq_decide] at hb
  obtain ⟨⟨⟨⟨⟨⟨⟨k1, k2⟩, k3⟩, h2⟩, h3⟩, h4⟩, h5⟩, h6⟩ := hb
  refine ⟨k1, k2, ?_, ?_, ?_, ?_, ?_⟩
  · rcases h3 with h3 | ⟨h3, h7⟩
    · exact .inl h3
    · unfold onceB at h7; exact .inr ⟨h3, by simpa using h7⟩
  · intro hk
    rw [if_pos hk] at h5
    simp only [Bool.and_eq_true, decide_eq_true_eq] at h5
    obtain ⟨⟨⟨⟨g1, g2⟩, g3⟩, g4⟩, g5⟩ := h5
    exact ⟨g1, g2, g3, g4, g5⟩
  · intro hk
    rw [if_neg hk] at h5
    by_cases hh : (nd t n).host = -1
    · exact hh
    · rw [if_pos hh] at h5; simp at h5
  · intro hr
    by_cases hk : (nd t n).kind = 3
    · rw [if_pos hk] at h5
      simp only [Bool.and_eq_true, decide_eq_true_eq] at h5
      exact absurd h5.1.1.1.1 hr
    · rw [if_neg hk] at h5
      by_cases hh : (nd t n).host = -1
      · rw [if_neg (by simpa using hh), if_neg hr] at h5
        simp only [Bool.and_eq_true, decide_eq_true_eq] at h5
        exact ⟨h5.1.1.1, h5.1.1.2, h5.1.2, h5.2⟩
      · rw [if_pos hh] at h5; simp at h5
  · intro k hk
    have := h6 k hk
    unfold belowB onceB at this
    simp only [Bool.and_eq_true, Bool.or_eq_true, decide_eq_true_eq, beq_iff_eq] at this
    obtain ⟨⟨⟨g1, g2⟩, g3⟩, g4⟩ := this
    exact ⟨g1, g3, g4, g2⟩
theorem may_par {t : Tree} {n : Int} (h : mayB t = true) (hn : isN t n = true) : okN t (nd t n).parent := (may_ok h hn).par.imp id And.left
theorem ends_neg {t : Tree} {f : Nat} {n : Int} (h : endsF t f n = true) : ∃ f', f = f' + 1 := by
  cases f with
  | zero => simp [endsF] at h
  | succ f => exact ⟨f, rfl⟩
theorem ends_up {t : Tree} {f : Nat} {n : Int} (h : endsF t (f + 1) n = true) (hn : n ≠ -1) : endsF t f (upN (nd t n)) = true := by
  simpa [endsF, hn] using h
theorem ends_none (t : Tree) (f : Nat) : endsF t (f + 1) (-1) = true := by simp [endsF]
theorem ends_par {t : Tree} {f : Nat} {n : Int} (hm : mayB t = true) (h : endsF t (f + 1) n = true) (hn : isN t n = true) : endsF t f (nd t n).parent = true := by
  have h0 := nd_pos hn
  have h1 := ends_up h (by omega)
  obtain ⟨f', rfl⟩ := ends_neg h1
  unfold upN at h1
  by_cases hk : (nd t n).kind = 3
  · rw [((may_ok hm hn).sh hk).2.1]; exact ends_none t f'
  · rw [if_neg hk] at h1; exact h1
def allOk (t : Tree) (n : Int) : Bool := mayB t && isN t n
def parUp (t : Tree) : Nat → Int → List Int
  | 0, _ => []
  | f + 1, n => if n = -1 then [] else n :: parUp t f (nd t n).parent
def upR (t : Tree) (n : Int) : List Int := if allOk t n then parUp t (t.length + 1) n else []
def topR (t : Tree) (n : Int) : Int := (upR t n).getLast?.getD (-1)
theorem parUp_ne {t : Tree} {f : Nat} {n : Int} (hn : n ≠ -1) : parUp t (f + 1) n ≠ [] := by simp [parUp, hn]
theorem topR_isN {t : Tree} {n : Int} (h : allOk t n = true) : isN t (topR t n) = true := by
  unfold topR upR
  rw [if_pos h]
  unfold allOk at h
  simp only [Bool.and_eq_true] at h
  have key : ∀ (f : Nat) (n : Int), isN t n = true → endsF t f n = true → isN t ((parUp t f n).getLast?.getD (-1)) = true := by
    intro f
    induction f with
    | zero => intro n _ h1; simp [endsF] at h1
    | succ f ih =>
      intro n hn he
      have h0 := nd_pos hn
      have hp := ends_par h.1 he hn
      simp only [parUp, if_neg (show n ≠ -1 by omega)]
      rcases may_par h.1 hn with h2 | h2
      · rw [h2]
        obtain ⟨f', rfl⟩ := ends_neg hp
        simpa [parUp] using hn
      · obtain ⟨f', rfl⟩ := ends_neg hp
        have hne := parUp_ne (t := t) (f := f') (n := (nd t n).parent) (by have := nd_pos h2; omega)
        have := ih _ h2 hp
        rw [List.getLast?_cons, List.getLast?_eq_some_getLast hne] at *
        simpa using this
  exact key _ n h.2 (may_ends h.1 h.2)
theorem topR_none {t : Tree} {n : Int} (h : allOk t n = false) : topR t n = -1 := by unfold topR upR; rw [h]; rfl
def seqO (g : Int → Option (List Int)) : List Int → Option (List Int)
  | [] => some []
  | k :: r => match g k with
    | none => none
    | some a => match seqO g r with
      | none => none
      | some b => some (a ++ b)
def preO (t : Tree) : Nat → Int → Option (List Int)
  | 0, _ => none
  | f + 1, n => (seqO (preO t f) (nd t n).kids).map (n :: ·)
def hostR (t : Tree) (n : Int) : Int := if allOk t n then (nd t (topR t n)).host else -1
def shUpR (t : Tree) (n : Int) : List Int := if allOk t n then climb t (t.length + 1) n else []
def aboveR (t : Tree) (a b : Int) : Bool := (shUpR t b).any (· == a)
def retO (t : Tree) (holds : List Int) : Nat → Int → Int
  | 0, a => a
  | f + 1, a => if hostR t a ≠ -1 ∧ (holds.any (· == (nd t (hostR t a)).root)) = false then retO t holds f (hostR t a) else a
def retR (t : Tree) (a b : Int) : Int := if allOk t a && allOk t b then retO t (shUpR t b) (t.length + 1) a else -1
def attrV (t : Tree) (n name : Int) : Int × Bool := if mayB t then getR t n name else (0, false)
def slotB (t : Tree) (n : Int) : Bool := decide ((nd t n).kind = 1) && decide ((nd t n).tag = 3) && decide (hostR t n ≠ -1)
def withinO (t : Tree) (f : Nat) (r : Int) : Option (List Int) := (if allOk t r then preO t f r else some []).map fun l => l.filter (slotB t)
def rootR (t : Tree) (n : Int) : Int := if allOk t n = false ∨ (nd t n).parent = -1 then -1 else (nd t (nd t n).parent).root
def ofB (t : Tree) (n r s : Int) : Bool :=
  let a := attrV t n 9
  let manual := (attrV t r 8).2
  (manual && a.2 && decide (s = a.1)) || (!manual && decide ((attrV t s 4).1 = (attrV t n 4).1))
def ofO (t : Tree) (f : Nat) (n : Int) : Option Int :=
  if rootR t n = -1 then some (-1) else (withinO t f (rootR t n)).map fun l => (l.find? (ofB t n (rootR t n))).getD (-1)
end Go.Eng
set_option maxRecDepth 100000
set_option linter.unusedVariables false
namespace Go.Eng
open Go Go.Proofs
theorem indexFunc_attr (l : List Attr) (g : FuncId) (fs cs : List AV) (H : Heap) (p : Attr → Bool) (hp : ∀ a ∈ l, Tri Tryz.prog g (fs ++ [aggD a.cs] ++ cs) H fun v H' => v = .b (p a) ∧ H' = H) :
    Tri Tryz.prog 232 [.d (attrsD l), .clos (.func g) fs cs] H fun v H' => v = .i (ix p l) ∧ H' = H := by
  refine Tri_of (m := H.length) tt_ok Tryz.func232 rfl (by decide) Tryz.ntmps232 (by rfl) rfl ?_
  refine Len_in (fun hlen => ?_)
  simp only [List.length_map] at hlen
  refine W_loop (fun μ s => ∃ (k : Nat), k ≤ l.length ∧ μ = l.length - k ∧ (∀ j (h : j < l.length), j < k → p l[j] = false) ∧
      s = ⟨[(0, .d (attrsD l)), (1, .clos (.func g) fs cs), (7, .i (List.map Attr.cs l).length), (8, .i k)], 19, H, H.length, []⟩) l.length
    ⟨_, ?_, 0, by simp, by simp, by simp, rfl⟩ ?_
  · exact Wk_env (by repeat (first | exact trivial | refine ⟨rfl, ?_⟩))
  rintro μ s1 ⟨k, hk, rfl, hno, rfl⟩
  refine W_run tt_ok ?_
  refine Br_dec (fun h => ?_) (fun h => ?_)
  · simp at h
    refine Idx_in (l[k]).cs (by simp [h]) (by omega) rfl ?_
    have hd := ix_drop p l k hno hk
    rw [List.drop_eq_getElem_cons h] at hd
    refine Tri.use (hp l[k] (List.getElem_mem h)) ?_
    refine Br_split (fun hq => ?_) (fun hq => ?_)
    · repeat' ((conv => whnf); (first
     | (refine finR ?_)))
      simp only [AV.d.injEq, D.int.injEq, true_and, hd, ix]
      simp [hq]
    · repeat' ((conv => whnf); (first
     | (refine Back_in _ _ ⟨k + 1, by omega, rfl, ?_, rfl⟩ (by omega) (Wk_env (by repeat (first | exact trivial | refine ⟨rfl, ?_⟩))))
     | (refine ArK_in (wrap_i64 (by omega) (by omega)) ?_)))
      intro j hj hjk
      rcases Nat.lt_succ_iff_lt_or_eq.1 hjk with h1 | h1
      · exact hno j hj h1
      · subst h1; exact hq
  · simp at h
    have hd := ix_drop p l k hno hk
    rw [List.drop_eq_nil_of_le h] at hd
    repeat' ((conv => whnf); (first
     | (refine finR ?_)))
    simp [hd, ix]
theorem attr_at1 (x : Node) (a : Attr) (name : Int) : Tri Tryz.prog 233 ([] ++ [aggD a.cs] ++ [.ptr 1 0]) [some (.row (x.cs.map .d)), some (.row [.i name])] fun v H' => v = .b (a.name == name) ∧ H' = [some (.row (x.cs.map .d)), some (.row [.i name])] := by
  refine Tri_of (m := 2) tt_ok Tryz.func233 rfl (by decide) Tryz.ntmps233 (by rfl) rfl ?_
  repeat' ((conv => whnf); (first
   | (refine finT rfl rfl (by repeat (first | exact trivial | refine ⟨⟨rfl, rfl⟩, ?_⟩)) ?_)))
  rfl
def atV (l : List Attr) (name : Int) : Int := ix (fun a => a.name == name) l
theorem attr_at (x : Node) (name : Int) : Fn Tryz.prog 173 [aggD x.cs, .i name] (.i (atV x.attrs name)) := by
  refine Fn_of tt_ok Tryz.func173 rfl (by decide) Tryz.ntmps173 rfl ?_
  refine Tri.use (indexFunc_attr x.attrs _ [] [.ptr 1 0] _ (fun a => a.name == name) fun a _ => attr_at1 x a name) ?_
  repeat' ((conv => whnf); (first
   | (refine fin0 rfl ?_)))
  rfl
theorem attr_node (t : Tree) (n : Int) : Fn Tryz.prog 231 [.d (treeD t), .i n] (.b (mayB t && isN t n)) := by
  refine Fn_of tt_ok Tryz.func231 rfl (by decide) Tryz.ntmps231 rfl ?_
  refine Fn.use (tree_Check t) rfl rfl ?_
  have e : (List.map Node.cs t).length = t.length := by simp
  have hi : isN t n = decide (0 ≤ n ∧ n < t.length) := by unfold isN; rfl
  rw [hi]
  cases hm : mayB t
  · repeat' ((conv => whnf); (first
   | (refine fin0 rfl ?_)))
    rfl
  · repeat' ((conv => whnf); (first
   | (refine Br_dec (fun h => ?_) (fun h => ?_))
   | (refine Len_in (fun hlen => ?_))
   | (refine fin0 rfl ?_)))
    all_goals (simp only [AV.d.injEq, D.bool.injEq, Bool.true_and]; grind)
theorem ix_find (l : List Attr) (name : Int) : (ix (fun a => a.name == name) l < 0 → getV l name = (0, false)) ∧
    (0 ≤ ix (fun a => a.name == name) l → ∃ a, l[(ix (fun a => a.name == name) l).toNat]? = some a ∧ getV l name = (a.value, true)) := by
  induction l with
  | nil => simp [ix, getV]
  | cons a r ih =>
    have hl := ix_lo (fun a : Attr => a.name == name) r
    unfold getV at *
    simp only [ix, List.find?_cons]
    by_cases h : (a.name == name) = true
    · simp [h]
    · have h : (a.name == name) = false := by simpa using h
      simp only [h]
      generalize ix (fun a : Attr => a.name == name) r = i at *
      constructor
      · intro h1
        have : i < 0 := by simp at h1; split at h1 <;> omega
        exact ih.1 this
      · intro h1
        have hi : 0 ≤ i := by simp at h1; split at h1 <;> omega
        obtain ⟨b, h2, h3⟩ := ih.2 hi
        refine ⟨b, ?_, h3⟩
        have e : (if (false = true) then (0 : Int) else if i < 0 then -1 else i + 1).toNat = i.toNat + 1 := by
          simp; rw [if_neg (by omega)]; omega
        rw [e, List.getElem?_cons_succ]
        exact h2
def getP (t : Tree) (n name : Int) : Int × Bool := if mayB t && isN t n then getV (nd t n).attrs name else (0, false)
theorem attr_Get (t : Tree) (n name : Int) : Fn Tryz.prog 276 [.d (treeD t), .i n, .i name] (.tup [.i (getP t n name).1, .b (getP t n name).2]) := by
  refine Fn_of tt_ok Tryz.func276 rfl (by decide) Tryz.ntmps276 rfl ?_
  refine Fn.use (attr_node t n) rfl rfl ?_
  refine Br_not (Br_split (fun h => ?_) (fun h => ?_))
  rotate_left
  · have e : getP t n name = (0, false) := by unfold getP; rw [h]; rfl
    rw [e]
    repeat' ((conv => whnf); (first
     | (refine fin0 rfl ?_)))
    rfl
  have e : getP t n name = getV (nd t n).attrs name := by unfold getP; rw [h]; rfl
  rw [e]
  have hn : isN t n = true := by simp at h; exact h.2
  obtain ⟨h1, h2⟩ := ix_find (nd t n).attrs name
  have hat : atV (nd t n).attrs name = ix (fun a => a.name == name) (nd t n).attrs := rfl
  by_cases hi : atV (nd t n).attrs name < 0
  · rw [h1 (by rw [← hat]; exact hi)]
    repeat' ((conv => whnf); (first
     | (refine Br_true (decide_eq_true (by omega)) ?_)
     | (refine Idx_nd hn rfl ?_)
     | (refine Fn.use (attr_at _ _) rfl rfl ?_)
     | (refine fin0 rfl ?_)))
    rfl
  · obtain ⟨a, h3, h4⟩ := h2 (by rw [← hat]; omega)
    rw [h4]
    have hget : (List.map Attr.cs (nd t n).attrs)[(atV (nd t n).attrs name).toNat]? = some a.cs := by rw [hat, List.getElem?_map, h3]; rfl
    repeat' ((conv => whnf); (first
     | (refine Br_false (decide_eq_false (by omega)) ?_)
     | (refine Idx_nd hn rfl ?_)
     | (refine Fn.use (attr_at _ _) rfl rfl ?_)
     | (refine Idx_in _ hget (by omega) rfl ?_)
     | (refine fin0 rfl ?_)))
    rfl
theorem attr_Has (t : Tree) (n name : Int) : Fn Tryz.prog 288 [.d (treeD t), .i n, .i name] (.b (getP t n name).2) := by
  refine Fn_of tt_ok Tryz.func288 rfl (by decide) Tryz.ntmps288 rfl ?_
  repeat' ((conv => whnf); (first
   | (refine Fn.use (attr_Get _ _ _) rfl rfl ?_)
   | (refine fin0 rfl ?_)))
  rfl
def wrongV (t : Tree) (n : Int) : Int := if mayB t then (if isN t n then 0 else 2) else 1
end Go.Eng
namespace Go.Eng
theorem csl {l : List Attr} : ∀ r ∈ l.map Attr.cs, r.length = 2 := by
  intro r hr
  obtain ⟨a, _, rfl⟩ := List.mem_map.1 hr
  rfl
theorem cs7 {t : Tree} : ∀ r ∈ t.map Node.cs, r.length = 7 := by
  intro r hr
  obtain ⟨a, _, rfl⟩ := List.mem_map.1 hr
  rfl
theorem cs1 {l : List Int} : ∀ r ∈ l.map intCs, r.length = 1 := by
  intro r hr
  obtain ⟨a, _, rfl⟩ := List.mem_map.1 hr
  rfl
end Go.Eng
set_option maxRecDepth 100000
set_option linter.unusedVariables false
set_option linter.unusedSimpArgs false
namespace Go.Eng
open Go Go.Proofs
theorem order_all1 (t : Tree) (n : Int) : Tri Tryz.prog 208 ([] ++ [.i n] ++ [.ptr 0 0]) [some (.row [.d (treeD t)])] fun v H' => v = .b (!isN t n) ∧ H' = [some (.row [.d (treeD t)])] := by
  refine Tri_of (m := 1) tt_ok Tryz.func208 rfl (by decide) Tryz.ntmps208 (by rfl) rfl ?_
  have e : (List.map Node.cs t).length = t.length := by simp
  have hi : isN t n = decide (0 ≤ n ∧ n < t.length) := by unfold isN; rfl
  rw [hi]
  repeat' ((conv => whnf); (first
   | (refine Br_dec (fun h => ?_) (fun h => ?_))
   | (refine Len_in (fun hlen => ?_))
   | (refine finT rfl rfl (by repeat (first | exact trivial | refine ⟨⟨rfl, rfl⟩, ?_⟩)) ?_)))
  all_goals (simp only [AV.d.injEq, D.bool.injEq] at *; grind)
def allL (t : Tree) (l : List Int) : Bool := mayB t && l.all (isN t)
theorem order_all (t : Tree) (l : List Int) : Fn Tryz.prog 154 [.d (treeD t), .d (ints l)] (.b (allL t l)) := by
  refine Fn_of tt_ok Tryz.func154 rfl (by decide) Tryz.ntmps154 rfl ?_
  have hc := containsFunc_int l 208 [] [.ptr 0 0] [some (.row [.d (treeD t)])] (fun n => !isN t n) fun k _ => order_all1 t k
  have e := not_any_not l (isN t)
  cases hm : mayB t
  · repeat' ((conv => whnf); (first
   | (refine Br_beq (fun h => ?_) (fun h => ?_))
   | (refine Fn.use (tree_Check t) rfl rfl ?_)
   | (refine fin0 rfl ?_)))
    all_goals simp_all [allL]
  · repeat' ((conv => whnf); (first
   | (refine Br_beq (fun h => ?_) (fun h => ?_))
   | (refine Fn.use (tree_Check t) rfl rfl ?_)
   | (refine Tri.use hc ?_)
   | (refine fin0 rfl ?_)))
    all_goals simp_all [allL]
theorem order_up (t : Tree) (n : Int) : Tri Tryz.prog 155 [.d (treeD t), .i n] [] fun v H => v = .clos (.func 209) [] [.ptr 1 0, .ptr 0 0] ∧ H = [some (.row [.d (treeD t)]), some (.row [.i n])] := by
  refine Tri_of (m := 0) tt_ok Tryz.func155 rfl (by decide) Tryz.ntmps155 (by rfl) rfl ?_
  repeat' ((conv => whnf); (first
   | (refine finR ?_)))
  rfl
def Seq2 (f : FuncId) (cs0 : List AV) (x y : D) (xs : List AV) : Prop := ∀ Y : Ysp, Y.xs = xs → YLaw Tryz.prog Y →
  Tri Tryz.prog f ([] ++ [.clos (.yield Y.l) [] []] ++ cs0) ([some (.row [.d x]), some (.row [.d y])] ++ [some (.yl Y 0)]) fun v H1 => H1[2]? = some (some (.yl Y xs.length)) ∨ H1[2]? = some (some (.yz Y))
theorem order_up1 (t : Tree) (n : Int) (hm : mayB t = true) (hn : isN t n = true) : Seq2 209 [.ptr 1 0, .ptr 0 0] (treeD t) (.int .i64 n) ((parUp t (t.length + 1) n).map AV.i) := by
  intro Y hx hY
  rw [← hx]
  refine Tri_of (m := 3) tt_ok Tryz.func209 rfl (by decide) Tryz.ntmps209 (by rfl) rfl ?_
  refine W_loop (fun μ s => ∃ (k : Nat) (c : Int), okN t c ∧ endsF t μ c = true ∧ (parUp t (t.length + 1) n).drop k = parUp t μ c ∧ (parUp t (t.length + 1) n).length = k + (parUp t μ c).length ∧
      s = ⟨[(0, .clos (.yield Y.l) [] []), (1, .ptr 1 0), (2, .ptr 0 0)], 16, [some (.row [.d (treeD t)]), some (.row [.i c]), some (.yl Y k)], 3, []⟩) (t.length + 1)
    ⟨_, ?_, 0, n, .inr hn, may_ends hm hn, by simp, by simp, rfl⟩ ?_
  · exact Wk_env (by repeat (first | exact trivial | refine ⟨rfl, ?_⟩))
  rintro μ s1 ⟨k, c, hc, he, hd, hl, rfl⟩
  have hxl : Y.xs.length = k + (parUp t μ c).length := by rw [hx]; simpa using hl
  refine W_run tt_ok ?_
  obtain ⟨f, rfl⟩ := ends_neg he
  generalize parUp t (t.length + 1) n = L at *
  simp only [parUp] at hd hxl hl
  refine Br_bne (fun h1 => ?_) (fun h1 => ?_)
  · rw [if_neg h1] at hxl hd hl
    have hc' : isN t c = true := hc.resolve_left h1
    have hxk : Y.xs[k]? = some (.i c) := by
      rw [hx, List.getElem?_map]
      have : L[k]? = some c := by
        have := congrArg (·[0]?) hd
        simpa using this
      rw [this]; rfl
    have hd' : L.drop (k + 1) = parUp t f (nd t c).parent := by
      have := congrArg List.tail hd
      rw [List.tail_drop] at this
      rw [this, List.tail_cons]
    have hl' : L.length = (k + 1) + (parUp t f (nd t c).parent).length := by
      rw [hl, List.length_cons]; omega
    refine Yield_in 2 Y k (.i c) rfl rfl hY rfl rfl hxk ?_ ?_
    · repeat' ((conv => whnf); (first
     | (refine Idx_nd hc' rfl ?_)
     | (refine Back_in _ _ ⟨k + 1, _, may_par hm hc', ends_par hm he hc', hd', hl', rfl⟩ (by omega) (Wk_env (by repeat (first | exact trivial | refine ⟨rfl, ?_⟩))))))
    · repeat' ((conv => whnf); (first
     | (refine finQ (.inr rfl))))
  · rw [if_pos h1] at hxl
    repeat' ((conv => whnf); (first
     | (refine finQ (.inl ?_))))
    rw [hxl]; rfl
end Go.Eng
set_option linter.unusedVariables false
set_option linter.unusedSimpArgs false
namespace Go.Eng
open Go
theorem Tri.peek {P : Program} {f : FuncId} {args0 : List AV} {r : AV} (h : Fn P f args0 r) (hp : plain r = true) (F : List Nat) {args : List AV} {H : Heap} {K : AV → Heap → Prop} (hl : args.length = args0.length)
    (hv : ∀ (i : Nat) (x y : AV), args[i]? = some x → args0[i]? = some y → FV [] F H x y) (hK : K r H) : Tri P f args H K := by
  (unfold Fn at *; simp only [Tri_eq] at *)
  refine ⟨h.1, fun p σ w vs hH hs hvs => ?_⟩
  let p' : PQ := ⟨(pfz p σ H F).r, fun b => b < w.heap.size, fun _ => False, fun b hb => by
      rcases hb with hb | ⟨⟨i, cs, h1, h2, h3⟩, h4⟩
      · exact hH.lt b (p.sub b hb)
      · obtain ⟨r', g1, g2, g3, _⟩ := hH.blk i _ h2
        rw [h3] at g1
        injection g1 with g1
        rw [g1]; exact g3, fun b hb => hb.elim, fun b hb => hb.elim⟩
  have hH0 : HRel p' [] [] w := ⟨rfl, fun b hb => hb, fun i k hk => by simp at hk, fun i j r k l hk => by simp at hk, hH.gl.part fun _ h => .inl h⟩
  have hvs' : ∀ (i : Nat) (x : AV) (v : Value), args0[i]? = some x → vs[i]? = some v → VRel p' [] w x v := fun i y v hy hv' => by
    have hi : i < args.length := by rw [hl]; exact (List.getElem?_eq_some_iff.1 hy).1
    have hx : args[i]? = some args[i] := List.getElem?_eq_getElem hi
    have h1 := hvs i _ v hx hv'
    have h2 := VRel.fz hH (g := []) (σ' := []) (fun i j h => by simp at h) (hv i _ y hx hy) v h1
    exact VRel.mono' (p := pfz p σ H F) (p' := p') (σ := []) (σ' := []) (w := w) (w' := w) (fun b hb => hb) (fun _ _ => rfl) (.refl w) (fun _ _ h => h) h2
  refine (h.2 p' [] w vs hH0 (hs.trans hl) hvs').mono ?_
  rintro e w' ⟨v, x, p1, σ1, H1, a, b, c, d, e', rfl, g'⟩
  have hsame : ∀ b, b < w.heap.size → w'.heap[b]? = w.heap[b]? := fun q hq => b.same q hq (fun h => h)
  have hE : Ext p w p w' := .mk1 (fun q hq => hsame q (hH.lt q hq)) b.shape
  refine ⟨v, x, p, σ, H, a, hE, fun _ _ h => h, hH.keep hE ⟨rfl, fun q hq => hsame q (hH.lt q (p.fu q hq))⟩ (fun q hq => Nat.lt_of_lt_of_le (hH.lt q hq) b.shape.1) (fun i k r hk hr => ?_), e'.ofPlain hp, hK⟩
  obtain ⟨r', g1, g2, g3, _⟩ := hH.blk i k hk
  rw [hr] at g1
  injection g1 with g1
  subst g1
  exact ⟨g2, hsame r g3⟩
theorem Nil_in {rows : List (List D)} {K : Bool → Prop} (h : ∀ b : Bool, (rows ≠ [] → b = false) → K b) : NilK rows K := by simp only [NilK_eq]; exact h
theorem App_esl {ei : TI} {H : Heap} {x : AV} {B : Prop} {K : AV → Heap → Prop} (new : List (List D)) (hx : newLen x = some new.length) (hc : newCells H ei.size x = some (new.flatten.map .d))
    (hn : new ≠ []) (hrn : ∀ r ∈ new, r.length = ei.size) (hlim : new.length ≤ 1000000) (hby : ei.bytes ≤ 1000)
    (hK : K (.msl H.length 0 new.length new.length ei.size) (H ++ [some (.row (new.flatten.map .d))])) : ChK (appK ei H .esl x K) B := by
  have hlb : new.length ≤ LB := by unfold LB; omega
  have hB : (new.length + 200) * ei.bytes ≤ 2 ^ 46 := Nat.le_trans (Nat.mul_le_mul (by omega : new.length + 200 ≤ 1000200) hby) (by decide)
  have h0 : 0 < new.length := List.length_pos_iff.2 hn
  have hfn : (new.flatten.map AV.d).length = new.length * ei.size := by rw [List.length_map]; exact flatten_len new hrn
  refine Ch_l ?_
  unfold appK
  rw [hx]
  simp only
  rw [hc]
  simp only
  obtain ⟨m, hm⟩ : ∃ m, new.length = m + 1 := ⟨new.length - 1, by omega⟩
  generalize new.length = q at *
  subst hm
  simp only
  simp only [NeedK_eq]
  rw [pushK_eq]
  exact ⟨⟨h0, hB, hlb, hfn⟩, hK⟩
end Go.Eng
set_option linter.unusedVariables false
set_option linter.unusedSimpArgs false
namespace Go.Eng
open Go
theorem patch_one (H : Heap) (q : Nat) (hq : q < H.length) (l : List AV) (hl : ∀ f, renB f (.row l) = .row l) : patch [q] H [some (.row l)] = H.set q (some (.row l)) := by
  unfold patch
  simp only [List.drop_succ_cons, List.drop_nil, List.length_cons, List.length_nil, renH, List.append_nil]
  apply List.ext_getElem?
  intro i
  obtain ⟨_, h2⟩ := patch1_get (hmap [q] H.length) [q] [some (.row l)] H 0
  rw [h2, List.getElem?_set]
  simp only [Nat.zero_add]
  by_cases e : q = i
  · subst e
    rw [if_pos rfl, if_pos hq]
    have hp : pos [q] q = some 0 := by
      simp [pos, pos.go]
    rw [hp]
    rw [List.getElem?_eq_getElem hq]
    simp [hl]
  · rw [if_neg e]
    have hp : pos [q] i = none := by
      have : Nat.beq q i = false := beq_ne e
      simp [pos, pos.go, this]
    rw [hp]
    cases H[i]? <;> rfl
theorem Tri.on {P : Program} {f : FuncId} {args0 args : List AV} {r0 r : AV} {l l' : List D} {H : Heap} {q : Nat} {K : AV → Heap → Prop} (h : Tri P f args0 [some (.row (l.map .d))] fun v H => v = r0 ∧ H = [some (.row (l'.map .d))])
    (hq : H[q]? = some (some (.row (l.map .d)))) (hargs : args = renL (gOf [q]) args0) (hl : lowL 1 args0 = true) (hr : Eng.ren (hmap [q] H.length) r0 = r) (hK : K r (H.set q (some (.row (l'.map .d))))) : Tri P f args H K := by
  have hlt : q < H.length := (List.getElem?_eq_some_iff.1 hq).1
  refine Tri.call h [q] ?_ rfl ?_ hargs hl rfl rfl hr (patch_one H q hlt _ fun f => renB_row f l') hK
  · simp only [List.all_cons, List.all_nil, Bool.and_true]; exact Nat.ble_eq_true_of_le hlt
  · exact ⟨⟨by rw [hq, renB_row], lowB_row _ _⟩, trivial⟩
end Go.Eng
namespace Go.Eng
open Go
end Go.Eng
namespace Go.Eng
theorem newCells_msl {H : Heap} {b off len c z sz : Nat} {cs : List AV} (h : H[b]? = some (some (.row cs))) (hle : off + len * sz ≤ cs.length) : newCells H sz (.msl b off len c z) = some (sub cs off (len * sz)) := by
  unfold newCells rowOf
  simp only [h]
  rw [Nat.ble_eq_true_of_le hle]
end Go.Eng
set_option linter.unusedVariables false
set_option linter.unusedSimpArgs false
namespace Go.Eng
open Go Go.RowKit
theorem forceL_in {vs l : List AV} {K : List AV → Prop} (h : vs = l) (hK : K l) : forceL vs K := by rw [h, forceL_eq]; exact hK
end Go.Eng
set_option linter.unusedVariables false
set_option linter.unusedSimpArgs false
namespace Go.Eng
open Go
theorem FV_acc {g : List Nat} {H : Heap} {b sz : Nat} (rows : List (List D)) (hb : H[b]? = some (AccB rows)) (hs : ∀ r ∈ rows, r.length = sz) : FV g [b] H (AccV b sz rows) (.d (.sl rows)) := by
  by_cases hr : rows = []
  · subst hr; rw [AccV_nil]; exact .nsl
  · rw [AccV_cons hr]
    rw [AccB_cons hr] at hb
    exact FV_tab rows (by unfold rowOf; rw [hb]) rfl rfl hs
end Go.Eng
namespace Go.Eng
open Go
def lenM (x : AV) (A : List (List D) → Prop) (B : Prop) (C : Nat → Nat → Nat → Nat → Nat → Prop) (E : Prop) : Prop :=
  match x with
  | .d (.sl rows) => A rows
  | .nsl => B
  | .msl b off len c s => C b off len c s
  | .esl => E
  | _ => False
theorem W_padH {P : Program} {ro : Option Nat} {c : Code} {Q : AEx → St → Prop} {ρ : Env} {n m : Nat} {H H2 : Heap} {df : List DF} (h : H = H2 ∨ H ++ [none] = H2) (hw : W P ro c Q ⟨ρ, n, H2, m, df⟩) : W P ro c Q ⟨ρ, n, H, m, df⟩ := by
  rcases h with rfl | rfl
  · exact hw
  · exact W_wk Wk_pad hw
theorem noY_accB {rows : List (List D)} {t : Heap} (h : noY t = true) : noY (AccB rows :: t) = true := by
  by_cases hr : rows = []
  · subst hr; rw [AccB_nil]; exact h
  · rw [AccB_cons hr]; exact h
theorem App_nsl {ei : TI} {H : Heap} {x : AV} {B : Prop} {K : AV → Heap → Prop} (new : List (List D)) (hx : newLen x = some new.length) (hc : newCells H ei.size x = some (new.flatten.map .d))
    (hn : new ≠ []) (hrn : ∀ r ∈ new, r.length = ei.size) (hlim : new.length ≤ 1000000) (hby : ei.bytes ≤ 1000)
    (hK : K (.msl H.length 0 new.length new.length ei.size) (H ++ [some (.row (new.flatten.map .d))])) : ChK (appK ei H .nsl x K) B := by
  have hlb : new.length ≤ LB := by unfold LB; omega
  have hB : (new.length + 200) * ei.bytes ≤ 2 ^ 46 := Nat.le_trans (Nat.mul_le_mul (by omega : new.length + 200 ≤ 1000200) hby) (by decide)
  have h0 : 0 < new.length := List.length_pos_iff.2 hn
  have hfn : (new.flatten.map AV.d).length = new.length * ei.size := by rw [List.length_map]; exact flatten_len new hrn
  refine Ch_l ?_
  unfold appK
  rw [hx]
  simp only
  rw [hc]
  simp only
  have hnn : x ≠ .nsl := by rintro rfl; simp [newLen] at hx; omega
  cases x <;> first
    | exact absurd rfl hnn
    | (simp only [NeedK_eq]; simp only [pushK_eq]; exact ⟨⟨h0, hB, hlb, hfn⟩, hK⟩)
end Go.Eng
