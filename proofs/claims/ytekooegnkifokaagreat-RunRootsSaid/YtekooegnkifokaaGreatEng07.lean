/- What the seat's proofs lean on, part 7: the executor over abstract values, its soundness, and what the program's functions answer (Eng39, Eng40, Vw2, Cpy3, Bck1, Vw3, Vw4, Vw5, Chn1, Chn2, Eng41). -/
import Derived.Test.YtekooegnkifokaaGreatEng05
import Derived.Test.YtekooegnkifokaaGreatEng06
set_option linter.all false
set_option linter.unusedVariables false
set_option linter.unusedSimpArgs false
set_option linter.unusedVariables false
set_option linter.unusedSimpArgs false
namespace Go.Eng
open Go
def datL (l : List AV) : Bool := l.all fun x => match x with | .d _ => true | .nsl => true | _ => false
def dat : AV → Bool
  | .d _ => true
  | .nsl => true
  | .agg cs => datL cs
  | _ => false
theorem VRel.ofD1 {p p' : PQ} {σ σ' : List Nat} {w : World} {x : AV} {v : Value} (h : VRel p σ w x v) : ((∃ d, x = .d d) ∨ x = .nsl) → (∀ b, p.r b → p'.r b) → VRel p' σ' w x v := by
  induction h with
  | any v => intro h; rcases h with ⟨_, h⟩ | h <;> simp at h
  | int k n => intro _ _; exact .int _ _
  | bool b => intro _ _; exact .bool _
  | str s h => intro _ _; exact .str _ h
  | fn f => intro _ _; exact .fn _
  | nptr => intro _ _; exact .nptr
  | nfn => intro _ _; exact .nfn
  | nmap => intro _ _; exact .nmap
  | sl rows a n cap sz vals hn hB hc hrow hcells hv ih =>
    intro _ hr
    refine .sl rows a n cap sz vals hn hB hc hrow (fun h0 => ?_) fun i row j x h1 h2 => ih i row j x h1 h2 (.inl ⟨x, rfl⟩) hr
    obtain ⟨r, o, e1, e2, e3⟩ := hcells h0
    exact ⟨r, o, e1, hr r e2, e3⟩
  | nsl => intro _ _; exact .nsl
  | esl a => intro h; rcases h with ⟨_, h⟩ | h <;> simp at h
  | ptr b off r h => intro h; rcases h with ⟨_, h⟩ | h <;> simp at h
  | fptr row off r o vals hp hcells hv ih => intro h; rcases h with ⟨_, h⟩ | h <;> simp at h
  | msl b off len cl sz r cap h hB hc hcl hblk => intro h; rcases h with ⟨_, h⟩ | h <;> simp at h
  | mp b r h => intro h; rcases h with ⟨_, h⟩ | h <;> simp at h
  | clos fn first caps fs cs h1 h2 hf hcp ih1 ih2 => intro h; rcases h with ⟨_, h⟩ | h <;> simp at h
  | agg cs vs h hl hv ih => intro h; rcases h with ⟨_, h⟩ | h <;> simp at h
  | tup as_ vs h hv ih => intro h; rcases h with ⟨_, h⟩ | h <;> simp at h
theorem datL_get {l : List AV} (h : datL l = true) {i : Nat} {x : AV} (hx : l[i]? = some x) : (∃ d, x = .d d) ∨ x = .nsl := by
  have := List.all_eq_true.1 h x (List.mem_of_getElem? hx)
  cases x <;> simp at this <;> simp
theorem VRel.ofD {p p' : PQ} {σ σ' : List Nat} {w : World} {x : AV} {v : Value} (h : VRel p σ w x v) (hd : dat x = true) (hr : ∀ b, p.r b → p'.r b) : VRel p' σ' w x v := by
  cases x with
  | d d => exact h.ofD1 (.inl ⟨d, rfl⟩) hr
  | nsl => exact h.ofD1 (.inr rfl) hr
  | agg cs =>
    cases h with
    | agg _ vs h hl hv => exact .agg cs vs h hl fun i x v hx hv' => (hv i x v hx hv').ofD1 (datL_get hd hx) hr
  | _ => simp [dat] at hd
def bindE : List Tmp → List AV → Env → Env
  | t :: ts, x :: xs, ρ => bindE ts xs ((t, x) :: ρ)
  | _, _, ρ => ρ
theorem bind_env {R : AV → Value → Prop} : ∀ (ps : List Tmp) (xs : List AV) (vs : List Value) {ρ : Env} {T : Array Value}, (∀ u, R (get ρ u) (T.getD u undef)) → ps.length = xs.length → vs.length = xs.length →
    (∀ (i : Nat) (x : AV) (v : Value), xs[i]? = some x → vs[i]? = some v → R x v) → (∀ t ∈ ps, t < T.size) →
    ((ps.zip vs).foldl (fun T (t, a) => T.setIfInBounds t a) T).size = T.size ∧ ∀ u, R (get (bindE ps xs ρ) u) (((ps.zip vs).foldl (fun T (t, a) => T.setIfInBounds t a) T).getD u undef) := by
  intro ps
  induction ps with
  | nil => intro xs vs ρ T h h1 h2 _ _; cases xs with
    | nil => exact ⟨rfl, h⟩
    | cons x xs => simp at h1
  | cons t ts ih =>
    intro xs vs ρ T h h1 h2 h3 h4
    cases xs with
    | nil => simp at h1
    | cons x xs =>
      cases vs with
      | nil => simp at h2
      | cons v vs =>
        have ht : t < T.size := h4 t (by simp)
        have := ih xs vs (ρ := (t, x) :: ρ) (T := T.setIfInBounds t v) (fun u => ?_) (by simpa using h1) (by simpa using h2) (fun i y z e1 e2 => h3 (i + 1) y z e1 e2) (fun s hs => by simpa using h4 s (by simp [hs]))
        · obtain ⟨a, b⟩ := this
          exact ⟨by rw [List.zip_cons_cons, List.foldl_cons]; simpa using a, b⟩
        · simp only [get]
          by_cases hu : t = u
          · subst hu
            rw [Nat.beq_refl]
            simp only [cond_true]
            have : (T.setIfInBounds t v).getD t undef = v := by simp [Array.getD_eq_getD_getElem?, ht]
            rw [this]
            exact h3 0 x v rfl rfl
          · rw [beq_ne hu]
            simp only [cond_false]
            have : (T.setIfInBounds t v).getD u undef = T.getD u undef := by simp [Array.getD_eq_getD_getElem?, Array.getElem?_setIfInBounds_ne hu]
            rw [this]
            exact h u
theorem HRel.join {pf pO p1 : PQ} {σO σ1 : List Nat} {H H1 : Heap} {w : World} {g : List Nat} (hO : HRel pO σO H w) (h1 : HRel p1 σ1 H1 w) (hYO : noY H = true) (hY1 : noY H1 = true)
    (hg : g.length ≤ σ1.length) (hlt : ∀ x ∈ g, x < H.length) (hgi : ∀ (i j : Nat), g[i]? = some j → σO[j]? = σ1[i]?)
    (hrO : ∀ b, pO.r b → pf.r b) (hr1 : ∀ b, p1.r b → pf.r b) (hlf : ∀ b, pf.u b → b < w.heap.size)
    (hnO : ∀ (i : Nat) (k : Blk) (r : Nat), H[i]? = some (some k) → σO[i]? = some r → ¬ pf.u r) (hn1 : ∀ (i : Nat) (k : Blk) (r : Nat), H1[i]? = some (some k) → σ1[i]? = some r → ¬ pf.u r)
    (hap : ∀ (i j : Nat) (k l : Blk) (r : Nat), H[i]? = some (some k) → H1[j]? = some (some l) → σO[i]? = some r → σ1[j]? = some r → False) :
    HRel pf (σO ++ σ1.drop g.length) (patch g H H1) w := by
  have hlen1 := h1.len
  have hlenO := hO.len
  let σ2 := σO ++ σ1.drop g.length
  have hleft : ∀ (i r : Nat), σO[i]? = some r → σ2[i]? = some r := fun i r hi => by
    rw [List.getElem?_append_left (List.getElem?_eq_some_iff.1 hi).1]
    exact hi
  have hmono1 : ∀ (i r : Nat), σ1[i]? = some r → σ2[hmap g H.length i]? = some r := fun i r hi => by
    unfold hmap
    cases hb : Nat.blt i g.length with
    | true =>
      have hi' : i < g.length := by simpa [Nat.blt_eq] using hb
      have hj : g[i]? = some (g[i]'hi') := List.getElem?_eq_getElem hi'
      have hgo : gOf g i = g[i]'hi' := by simp [gOf, List.getD_eq_getElem?_getD, hj]
      simp only [hgo]
      exact hleft _ _ ((hgi i _ hj).trans hi)
    | false =>
      have hi' : g.length ≤ i := by
        rcases Nat.lt_or_ge i g.length with h | h
        · have : Nat.blt i g.length = true := by simpa [Nat.blt_eq] using h
          rw [this] at hb; simp at hb
        · exact h
      show (σO ++ σ1.drop g.length)[i - g.length + H.length]? = some r
      rw [← hlenO, List.getElem?_append_right (by omega), List.getElem?_drop]
      rw [show g.length + (i - g.length + σO.length - σO.length) = i by omega]
      exact hi
  obtain ⟨pl, pg⟩ := patch1_get (hmap g H.length) g H1 H 0
  obtain ⟨rl, rg⟩ := renH_get (hmap g H.length) (H1.drop g.length)
  have split : ∀ (i : Nat) (k : Blk), (patch g H H1)[i]? = some (some k) → (i ∉ g ∧ H[i]? = some (some k)) ∨ (∃ j k1, i = hmap g H.length j ∧ H1[j]? = some (some k1) ∧ k = renB (hmap g H.length) k1) := fun i k hk => by
    unfold patch at hk
    rcases Nat.lt_or_ge i H.length with hi | hi
    · rw [List.getElem?_append_left (by rw [pl]; exact hi), pg, List.getElem?_eq_getElem hi] at hk
      simp only [Nat.zero_add, Option.map_some] at hk
      split at hk
      · rename_i q hq
        have hgq := pos_some hq
        have hqlt := (List.getElem?_eq_some_iff.1 hgq).1
        split at hk
        · rename_i k1 hk1
          simp only [Option.some.injEq] at hk
          refine .inr ⟨q, k1, ?_, hk1, hk.symm⟩
          unfold hmap
          have : Nat.blt q g.length = true := by simpa [Nat.blt_eq] using hqlt
          rw [this]
          simp [gOf, List.getD_eq_getElem?_getD, hgq]
        · simp at hk
      · rename_i hq
        simp only [Option.some.injEq] at hk
        exact .inl ⟨pos_none hq, by rw [List.getElem?_eq_getElem hi, hk]⟩
    · rw [List.getElem?_append_right (by rw [pl]; exact hi), rg, pl, List.getElem?_drop] at hk
      refine .inr ⟨g.length + (i - H.length), ?_⟩
      cases hj : H1[g.length + (i - H.length)]? with
      | none => simp [hj] at hk
      | some o =>
        cases o with
        | none => simp [hj] at hk
        | some k1 =>
          simp [hj] at hk
          refine ⟨k1, ?_, rfl, hk.symm⟩
          unfold hmap
          have : Nat.blt (g.length + (i - H.length)) g.length = false := by
            cases hb : Nat.blt (g.length + (i - H.length)) g.length with
            | false => rfl
            | true => simp [Nat.blt_eq] at hb; omega
          rw [this]
          simp only
          omega
  have own : ∀ (i r : Nat) (k : Blk), H[i]? = some (some k) → σ2[i]? = some r → σO[i]? = some r := fun i r k hk hr => by
    have hi : i < σO.length := by rw [hlenO]; exact (List.getElem?_eq_some_iff.1 hk).1
    rw [List.getElem?_append_left hi] at hr
    exact hr
  have back : ∀ (j r : Nat) (k1 : Blk), H1[j]? = some (some k1) → σ2[hmap g H.length j]? = some r → σ1[j]? = some r := fun j r k1 hk hr => by
    have hj : j < σ1.length := by rw [hlen1]; exact (List.getElem?_eq_some_iff.1 hk).1
    have e : σ1[j]? = some (σ1[j]'hj) := List.getElem?_eq_getElem hj
    have := hmono1 j _ e
    rw [hr] at this
    rw [e, this]
  refine ⟨by simp [patch, pl, rl, hlenO, hlen1], hlf, fun i k hk => ?_, fun i j r a b ha hb hi hj => ?_, hO.gl.same hrO (fun _ _ => rfl) (.refl w)⟩
  · rcases split i k hk with ⟨hn, e1⟩ | ⟨j, k1, rfl, e1, rfl⟩
    · obtain ⟨r, g1, g2, g3, g4⟩ := hO.blk i k e1
      refine ⟨r, hleft i r g1, hnO i k r e1 g1, g3, ?_⟩
      have hy := noY_get hYO e1
      cases k with
      | row cs =>
        obtain ⟨c, e, fr, q1, q2, q3, q4⟩ := g4
        exact ⟨c, e, fr, q1, q2, q3, fun i x v hx hv => ⟨(q4 i x v hx hv).1.mono' hrO (fun _ _ => rfl) (.refl w) hleft, (q4 i x v hx hv).2⟩⟩
      | iter s pos => exact g4
      | dfr => exact g4
      | raw o => exact g4
      | bytes e bs => exact g4
      | mp ks vs => obtain ⟨es, cl, z1, z2, z3, z4, z5⟩ := g4; exact ⟨es, cl, z1, z2, z3, z4, fun i x e hx he => (z5 i x e hx he).mono' hrO (fun _ _ => rfl) (.refl w) hleft⟩
      | yl Y k => simp [isY] at hy
      | yz Y => simp [isY] at hy
    · obtain ⟨r, g1, g2, g3, g4⟩ := h1.blk j k1 e1
      refine ⟨r, hmono1 j r g1, hn1 j k1 r e1 g1, g3, ?_⟩
      have hy := noY_get hY1 e1
      cases k1 with
      | row cs =>
        obtain ⟨c, e, fr, q1, q2, q3, q4⟩ := g4
        refine ⟨c, e, fr, q1, by rw [renL_length]; exact q2, q3, fun i x v hx hv => ?_⟩
        rw [renL_get] at hx
        cases hy : cs[i]? with
        | none => simp [hy] at hx
        | some z =>
          simp only [hy, Option.map_some, Option.some.injEq] at hx
          subst hx
          obtain ⟨z1, z2⟩ := q4 i z v hy hv
          exact ⟨(z1.renF hmono1).mono' hr1 (fun _ _ => rfl) (.refl w) (fun _ _ h => h), z2⟩
      | iter s pos => exact g4
      | dfr => exact g4
      | raw o => exact g4
      | bytes e bs => exact g4
      | mp ks vs =>
        obtain ⟨es, cl, z1, z2, z3, z4, z5⟩ := g4
        refine ⟨es, cl, z1, z2, by rw [renL_length]; exact z3, z4, fun i x e hx he => ?_⟩
        rw [renL_get] at hx
        cases hy : vs[i]? with
        | none => simp [hy] at hx
        | some z =>
          simp only [hy, Option.map_some, Option.some.injEq] at hx
          subst hx
          exact ((z5 i z e hy he).renF hmono1).mono' hr1 (fun _ _ => rfl) (.refl w) (fun _ _ h => h)
      | yl Y k => simp [isY] at hy
      | yz Y => simp [isY] at hy
  · rcases split i a ha with ⟨hn1', e1⟩ | ⟨i', a1, rfl, e1, rfl⟩ <;> rcases split j b hb with ⟨hn2, e2⟩ | ⟨j', b1, rfl, e2, rfl⟩
    · exact hO.inj i j r a b e1 e2 (own i r a e1 hi) (own j r b e2 hj)
    · exact (hap i j' a b1 r e1 e2 (own i r a e1 hi) (back j' r b1 e2 hj)).elim
    · exact (hap j i' b a1 r e2 e1 (own j r b e2 hj) (back i' r a1 e1 hi)).elim
    · rw [h1.inj i' j' r a1 b1 e1 e2 (back i' r a1 e1 hi) (back j' r b1 e2 hj)]
section
variable {P : Program}
structure MidG (p0 : PQ) (ρ : Env) (tmps : Array Value) (mb : Nat) (σb : List Nat) (l : Nat) (rec_ : Loop) (p : PQ) (w : World) (pO : PQ) (σO : List Nat) (H : Heap) : Prop where
  bl : σb.length = mb
  len : mb ≤ H.length
  heap : HRel pO σO H w
  nam : ∀ i, i < mb → σO[i]? = σb[i]?
  noY : noY H = true
  subr : ∀ b, p0.r b → pO.r b
  back : ∀ b, pO.r b → p.r b ∨ p.f b
  live : ∀ (i r : Nat) (k : Blk), H[i]? = some (some k) → σO[i]? = some r → p.f r
  env : ∀ t, VRel pO σb w (get ρ t) (tmps.getD t undef)
  lrec : w.heap[l]? = some (.loop rec_)
theorem MidG.stab {p0 : PQ} {ρ : Env} {tmps : Array Value} {mb : Nat} {σb : List Nat} {l : Nat} {rec_ : Loop} {p p' pO : PQ} {w w' : World} {σO : List Nat} {H : Heap} (h : MidG p0 ρ tmps mb σb l rec_ p w pO σO H)
    (hf : p'.f = p.f) (hr : ∀ b, p.r b → p'.r b) (hs : ∀ b, p.r b ∨ p.f b ∨ b = l → w'.heap[b]? = w.heap[b]?) (hsh : Shape w w') : MidG p0 ρ tmps mb σb l rec_ p' w' pO σO H := by
  have hro : ∀ b, pO.r b → w'.heap[b]? = w.heap[b]? := fun b hb => hs b ((h.back b hb).elim .inl fun h1 => .inr (.inl h1))
  refine ⟨h.bl, h.len, h.heap.same h.noY (fun _ h => h) hro hsh (fun b hb => Nat.lt_of_lt_of_le (h.heap.lt b hb) hsh.1) fun i k r hk hr2 => ?_, h.nam, h.noY, h.subr, fun b hb => (h.back b hb).imp (hr b) (fun h => by rw [hf]; exact h), fun i r k hk hr2 => by rw [hf]; exact h.live i r k hk hr2, fun t => (h.env t).same hro hsh, (hs l (.inr (.inr rfl))).trans h.lrec⟩
  refine ⟨?_, hs r (.inr (.inl (h.live i r k hk hr2)))⟩
  obtain ⟨r', g1, g2, _⟩ := h.heap.blk i k hk
  rw [hr2] at g1
  injection g1 with g1
  subst g1
  exact g2
def mkYG (asg : Code) (p0 : PQ) (ρ : Env) (tmps : Array Value) (mb : Nat) (σb : List Nat) (l : Nat) (fn : FuncId) (ps : List Tmp) (body : Code) (d : Nat) (xs : List AV) (J : Nat → Heap → Prop) (JZ : AEx → Heap → Prop) : Ysp where
  l := l
  xs := xs
  I k p w := ∃ pO σO H, J k H ∧ MidG p0 ρ tmps mb σb l (recOfA asg fn tmps ps.toArray body d .ready none) p w pO σO H
  Z p w := ∃ pO σO H e c, JZ e H ∧ isExit e c ∧ MidG p0 ρ tmps mb σb l (recOfA asg fn tmps ps.toArray body d .done (some c)) p w pO σO H
  stI := fun k p p' w w' ⟨pO, σO, H, h1, h2⟩ hf hr hs hsh => ⟨pO, σO, H, h1, h2.stab hf hr hs hsh⟩
  stZ := fun p p' w w' ⟨pO, σO, H, e, c, h1, h2, h3⟩ hf hr hs hsh => ⟨pO, σO, H, e, c, h1, h2, h3.stab hf hr hs hsh⟩
theorem mkYG_law {p0 : PQ} {ρ : Env} {tmps : Array Value} {mb : Nat} {σb : List Nat} {l : Nat} {fn : FuncId} {ps : List Tmp} {asg : Code} {body : Code} {d : Nat} {xs : List AV} {J : Nat → Heap → Prop} {JZ : AEx → Heap → Prop}
    (ht : ∀ t ∈ ps, t < tmps.size) (hxs : ∀ (k : Nat) (x : AV), xs[k]? = some x → (argsY x).length = ps.length ∧ ∀ y ∈ argsY x, dat y = true)
    (hround : ∀ (k : Nat) (x : AV) (H : Heap), xs[k]? = some x → J k H → mb ≤ H.length → noY H = true → W P (some l) asg (asgQ P l body (RdBack J JZ k tmps.size mb)) ⟨bindE ps (argsY x) ρ, tmps.size, H, mb, []⟩) :
    YLaw P (mkYG asg p0 ρ tmps mb σb l fn ps body d xs J JZ) := by
  rintro k x vs p σ w ⟨pO, σO, H, hJ, hM⟩ hx hvs hlt hul hll
  have hul : ¬ p.u l := hul
  have hll : l < w.heap.size := hll
  obtain ⟨hxl, hxd⟩ := hxs k x hx
  obtain ⟨hv1, hv2⟩ := hvs
  let T' := (ps.zip vs.toList).foldl (fun T (t, a) => T.setIfInBounds t a) tmps
  refine ⟨fn, T', asg, body, ?_, ?_⟩
  · rw [show (Instr.yield (mkYG asg p0 ρ tmps mb σb l fn ps body d xs J JZ).l vs) = Instr.yield l vs from rfl]
    rw [run_yield hM.lrec (by simp [recOfA]; omega)]
    have : ((recOfA asg fn tmps ps.toArray body d .ready none).params.zip vs).foldl (fun tmps (t, a) => tmps.setIfInBounds t a) (recOfA asg fn tmps ps.toArray body d .ready none).tmps = T' := by
      rw [← Array.foldl_toList, Array.toList_zip]
      rfl
    rw [this]
    rfl
  show RoundIn Fence.wide 0 P l fn T' asg body w _
  let w2 := w.putObj l (.loop (recOfA asg fn tmps ps.toArray body d .busy none))
  have hsh2 : Shape w w2 := Shape.putLoop hM.lrec _
  have hlr0 : ¬ pO.r l := fun h => (hM.back l h).elim (fun h => hul (p.sub l h)) fun h => hul (p.fu l h)
  let liveO : Nat → Prop := fun b => ∃ (i : Nat) (q : Blk), H[i]? = some (some q) ∧ σO[i]? = some b
  have hlive : ∀ b, liveO b → p.f b ∧ ¬ pO.u b ∧ b < w.heap.size := fun b ⟨i, q, h1, h2⟩ => by
    obtain ⟨r', g1, g2, g3, _⟩ := hM.heap.blk i q h1
    rw [h2] at g1
    injection g1 with g1
    subst g1
    exact ⟨hM.live i b q h1 h2, g2, g3⟩
  have hll2 : ¬ liveO l := fun h => hul (p.fu l (hlive l h).1)
  have sz2 : w2.heap.size = w.heap.size := by simp [w2]
  have oth2 : ∀ b, b ≠ l → w2.heap[b]? = w.heap[b]? := fun b hb => World.putObj_heap_other hb
  let pR : PQ := ⟨fun b => pO.r b ∨ p.r b, fun b => b < w.heap.size ∧ ¬ liveO b, fun _ => False, fun b hb => hb.elim (fun hb => ⟨hM.heap.lt b (pO.sub b hb), fun h => (hlive b h).2.1 (pO.sub b hb)⟩) fun hb => ⟨hlt b (p.sub b hb), fun h => p.fr b (hlive b h).1 hb⟩, fun _ h => h.elim, fun _ h => h.elim⟩
  have hlr : ¬ pR.r l := fun h => h.elim hlr0 fun h => hul (p.sub l h)
  have hHR : HRel pR σO H w := hM.heap.same hM.noY (fun _ h => .inl h) (fun _ _ => rfl) (.refl w) (fun b hb => hb.1) fun i q r h1 h2 =>
    ⟨fun h => h.2 ⟨i, q, h1, h2⟩, rfl⟩
  have σmono : ∀ (i r : Nat), σb[i]? = some r → σO[i]? = some r := fun i r hi => by
    rw [hM.nam i (by rw [← hM.bl]; exact (List.getElem?_eq_some_iff.1 hi).1)]
    exact hi
  have hbind := bind_env (R := VRel pR σO w) (T := tmps) (ρ := ρ) ps (argsY x) vs.toList (fun u => (hM.env u).mono' (p := pO) (p' := pR) (fun _ h => .inl h) (fun _ _ => rfl) (.refl w) σmono) hxl.symm (by simpa using hv1) (fun i y v h1 h2 => (hv2 i y v h1 (by simpa using h2)).ofD (hxd y (List.mem_of_getElem? h1)) (fun _ h => .inr h)) ht
  have hRel0 : Rel pR σO ⟨bindE ps (argsY x) ρ, tmps.size, H, mb, []⟩ { tmps := T', defers := [] } w := ⟨hbind.1, trivial, hbind.2, hHR, hM.len⟩
  have hpl : pR.u l := ⟨hll, hll2⟩
  have hA := hround k x H hx hJ hM.len hM.noY
  rw [W_eq] at hA
  refine roundIn_of_wpIn trivial (wpIn_mono (F := Fr (some l)) (hA pR σO _ w hRel0) ?_)
  rintro e1 a1 w1 ⟨ae1, p1, σ1, s1, rfl, q2, q3, q4, q5, q6, q7⟩
  obtain ⟨rfl, hY1, hW⟩ := asgQ_in q7
  have hrec1 : w1.heap[l]? = some (.loop (recOfA asg fn tmps ps.toArray body d .ready none)) := (q2.same l hpl (fun h => h)).trans hM.lrec
  refine ⟨_, run_beginRound hrec1 rfl, ?_⟩
  have hll1 : l < w1.heap.size := (Array.getElem?_eq_some_iff.1 hrec1).1
  let w2b := w1.putObj l (.loop (recOfA asg fn tmps ps.toArray body d .busy none))
  show body.wpIn (Fr (some l)) 0 P _ _ w2b
  have hsh2b : Shape w1 w2b := Shape.putLoop hrec1 _
  have oth2b : ∀ b, b ≠ l → w2b.heap[b]? = w1.heap[b]? := fun b hb => World.putObj_heap_other hb
  have h1l : ¬ p1.r l := fun h => (q2.back l h).elim hlr fun h => h hpl
  have h1ul : p1.u l := q2.subu l hpl
  have exB : Ext pR w2 p1 w2b := by
    refine ⟨q2.subr, q2.subu, q2.back, q2.subf, q2.backf, fun b hb hf => ?_, ?_⟩
    · by_cases hbl : b = l
      · subst hbl
        rw [show w2b.heap[b]? = some (.loop (recOfA asg fn tmps ps.toArray body d .busy none)) from World.putObj_heap_same hll1, show w2.heap[b]? = some (.loop (recOfA asg fn tmps ps.toArray body d .busy none)) from World.putObj_heap_same hll]
      · rw [oth2b b hbl, oth2 b hbl]; exact q2.same b hb hf
    · refine ⟨by rw [sz2]; exact Nat.le_trans q2.shape.1 hsh2b.1, fun r c e fr h => ?_, hsh2b.2.2.1.trans (q2.shape.2.2.1.trans hsh2.2.2.1.symm), hsh2b.2.2.2.1.trans (q2.shape.2.2.2.1.trans hsh2.2.2.2.1.symm), hsh2b.2.2.2.2.trans (q2.shape.2.2.2.2.trans hsh2.2.2.2.2.symm)⟩
      have hrl : r ≠ l := fun e => by
        subst e
        rw [show w2.heap[r]? = some (.loop (recOfA asg fn tmps ps.toArray body d .busy none)) from World.putObj_heap_same hll] at h
        simp at h
      rw [oth2 r hrl] at h
      obtain ⟨c1, fr1, z1, z2⟩ := q2.shape.2.1 r c e fr h
      exact ⟨c1, fr1, by rw [oth2b r hrl]; exact z1, z2⟩
  have hRel : Rel p1 σ1 s1 a1 w2b := by
    refine ⟨q4.size, q4.df, fun u => (q4.env u).same (fun b hb => oth2b b fun e => h1l (e ▸ hb)) hsh2b, q4.heap.same hY1 (fun _ h => h) (fun b hb => oth2b b fun e => h1l (e ▸ hb)) hsh2b (fun b hb => Nat.lt_of_lt_of_le (q4.heap.lt b hb) hsh2b.1) fun i q r h1 h2 => ?_, q4.m⟩
    obtain ⟨r', z1, z2, _⟩ := q4.heap.blk i q h1
    rw [h2] at z1
    injection z1 with z1
    subst z1
    exact ⟨z2, oth2b r fun e => z2 (e ▸ h1ul)⟩
  rw [W_eq] at hW
  refine wpIn_mono (hW p1 σ1 _ w2b hRel) ?_
  rintro e a' w' ⟨ae, p', σ', s', rfl, g2z, g3z, g4, g5z, g6z, g7⟩
  have g2 : Ext pR w2 p' w' := exB.trans g2z
  have g5 : s'.m = mb := g5z.trans q5
  have g3 : ∀ i, i < mb → σ'[i]? = σO[i]? := fun i hi => (g3z i (by rw [q5]; exact hi)).trans (q3 i hi)
  rw [RdBack_eq] at g7
  obtain ⟨H3, hwk, hY3, hl3, hJ3⟩ := g7
  rw [Wk_eq] at hwk
  obtain ⟨k1, k2, k3⟩ := hwk
  obtain ⟨p2, σ2, e1, m1, r1⟩ := k3 p' σ' a' w' g4
  have hex := g2.trans e1
  have hnam : ∀ i, i < mb → σ2[i]? = σO[i]? := fun i hi => (m1 i (by rw [g5]; exact hi)).trans (g3 i hi)
  have hrec : w'.heap[l]? = some (.loop (recOfA asg fn tmps ps.toArray body d .busy none)) := (g2.same l hpl (fun h => h)).trans (World.putObj_heap_same hll)
  have hll' : l < w'.heap.size := (Array.getElem?_eq_some_iff.1 hrec).1
  have h2l : ¬ p2.r l := fun h => (hex.back l h).elim hlr fun h => h hpl
  have new : ∀ b, ¬ pR.u b → p.f b ∨ w.heap.size ≤ b := fun b hb => by
    by_cases hlt' : b < w.heap.size
    · by_cases hlv : liveO b
      · exact .inl (hlive b hlv).1
      · exact absurd ⟨hlt', hlv⟩ hb
    · exact .inr (by omega)
  have fin : ∀ (st : LoopState) (pend : Option Code), MidG p0 ρ tmps mb σb l (recOfA asg fn tmps ps.toArray body d st pend) (grow p w (w'.putObj l (.loop (recOfA asg fn tmps ps.toArray body d st pend)))) (w'.putObj l (.loop (recOfA asg fn tmps ps.toArray body d st pend))) p2 σ2 H3 ∧
      (∀ c, c < w.heap.size → ¬ p.f c → c ≠ l → (w'.putObj l (.loop (recOfA asg fn tmps ps.toArray body d st pend))).heap[c]? = w.heap[c]?) ∧ Shape w (w'.putObj l (.loop (recOfA asg fn tmps ps.toArray body d st pend))) := fun st pend => by
    have hsh3 : Shape w' (w'.putObj l (.loop (recOfA asg fn tmps ps.toArray body d st pend))) := Shape.putLoop hrec _
    have oth3 : ∀ b, b ≠ l → (w'.putObj l (.loop (recOfA asg fn tmps ps.toArray body d st pend))).heap[b]? = w'.heap[b]? := fun b hb => World.putObj_heap_other hb
    have sz3 : (w'.putObj l (.loop (recOfA asg fn tmps ps.toArray body d st pend))).heap.size = w'.heap.size := by simp
    have rec3 : (w'.putObj l (.loop (recOfA asg fn tmps ps.toArray body d st pend))).heap[l]? = some (.loop (recOfA asg fn tmps ps.toArray body d st pend)) := World.putObj_heap_same hll'
    generalize w'.putObj l (.loop (recOfA asg fn tmps ps.toArray body d st pend)) = w3 at *
    have hshA : Shape w w3 := (hsh2.trans g2.shape).trans hsh3
    have grown : ∀ b, ¬ pR.u b → b < w'.heap.size → (grow p w w3).f b := fun b hb hbl => (new b hb).imp id fun h => ⟨h, by omega, fun hr => by have := hlt b (p.sub b hr); omega⟩
    have rsame : ∀ b, p2.r b → w3.heap[b]? = w'.heap[b]? := fun b hb => oth3 b fun e => h2l (e ▸ hb)
    have osame : ∀ b, pO.r b → w3.heap[b]? = w.heap[b]? := fun b hb => (oth3 b fun e => hlr0 (e ▸ hb)).trans ((g2.same b (pR.sub b (.inl hb)) (fun h => h)).trans (oth2 b fun e => hlr0 (e ▸ hb)))
    have lv : ∀ (i : Nat) (q : Blk) (r : Nat), H3[i]? = some (some q) → σ2[i]? = some r → ¬ p2.u r ∧ r < w'.heap.size := fun i q r h1 h2 => by
      obtain ⟨r', z1, z2, z3, _⟩ := r1.heap.blk i q h1
      rw [h2] at z1
      injection z1 with z1
      subst z1
      exact ⟨z2, z3⟩
    refine ⟨⟨hM.bl, hl3, r1.heap.same hY3 (fun _ h => h) rsame hsh3 (fun b hb => by rw [sz3]; exact r1.heap.lt b hb) fun i q r h1 h2 => ⟨(lv i q r h1 h2).1, oth3 r fun e => (lv i q r h1 h2).1 (e ▸ hex.subu l hpl)⟩, fun i hi => (hnam i hi).trans (hM.nam i hi), hY3,
      fun b hb => hex.subr b (.inl (hM.subr b hb)), fun b hb => ?_, fun i r q h1 h2 => grown r (fun h => (lv i q r h1 h2).1 (hex.subu r h)) (lv i q r h1 h2).2, fun u => (hM.env u).mono' (p := pO) (p' := p2) (fun b hb => hex.subr b (.inl hb)) osame hshA (fun _ _ h => h), rec3⟩, fun c hc hcf hcl => ?_, hshA⟩
    · rcases hex.back b hb with h | h
      · exact h.elim (fun h => (hM.back b h).imp id .inl) fun h => .inl h
      · exact .inr (grown b h (r1.heap.lt b (p2.sub b hb)))
    · exact (oth3 c hcl).trans ((g2.same c ⟨hc, fun h => hcf (hlive c h).1⟩ (fun h => h)).trans (oth2 c hcl))
  cases ae with
  | normal =>
    obtain ⟨f1, f2, f3⟩ := fin .ready none
    exact ⟨_, _, run_endRound none hrec, true, rfl, fun _ => ⟨p2, σ2, H3, hJ3, f1⟩, fun h => by simp at h, f2, f3⟩
  | exit i =>
    obtain ⟨f1, f2, f3⟩ := fin .done (some (.exit i))
    exact ⟨_, _, run_endRound (some (.exit i)) hrec, false, rfl, fun h => by simp at h, fun _ => ⟨p2, σ2, H3, .exit i, _, hJ3, rfl, f1⟩, f2, f3⟩
  | goto i =>
    obtain ⟨f1, f2, f3⟩ := fin .done (some (.goto i))
    exact ⟨_, _, run_endRound (some (.goto i)) hrec, false, rfl, fun h => by simp at h, fun _ => ⟨p2, σ2, H3, .goto i, _, hJ3, rfl, f1⟩, f2, f3⟩
  | ret =>
    obtain ⟨f1, f2, f3⟩ := fin .done (some .ret)
    exact ⟨_, _, run_endRound (some .ret) hrec, false, rfl, fun h => by simp at h, fun _ => ⟨p2, σ2, H3, .ret, _, hJ3, rfl, f1⟩, f2, f3⟩
theorem W_rangeG {gop : Operand} {f : FuncId} {fs cs fs0 cs0 : List AV} (gl : List Nat) {H H0 : Heap} {ρ : Env} {n m : Nat} {df : List DF} {ps : List Tmp} {asg : Code} {body : Code} {Q : AEx → St → Prop} (xs : List AV) (J : Nat → Heap → Prop) (JZ : AEx → Heap → Prop)
    (hg : evalO (get ρ) gop = .clos (.func f) fs cs) (hlt : (gl.all fun x => Nat.blt x H.length) = true) (hnd : noDup gl = true) (hle : HLe gl gl.length H H0 gl) (hfs : fs = renL (gOf gl) fs0) (hcs : cs = renL (gOf gl) cs0)
    (hlf : lowL gl.length fs0 = true) (hlc : lowL gl.length cs0 = true) (ht : ∀ t ∈ ps, t < n) (hY : noY H = true) (hxs : ∀ (k : Nat) (x : AV), xs[k]? = some x → (argsY x).length = ps.length ∧ ∀ y ∈ argsY x, dat y = true) (S : Bool → Heap → Prop)
    (hcall : ∀ Y : Ysp, Y.xs = xs → YLaw P Y → Tri P f (fs0 ++ [.clos (.yield Y.l) [] []] ++ cs0) (H0 ++ [some (.yl Y 0)]) fun v H1 => noY (H1.set gl.length none) = true ∧ ((H1[gl.length]? = some (some (.yl Y xs.length)) ∧ S true (H1.set gl.length none)) ∨ (H1[gl.length]? = some (some (.yz Y)) ∧ S false (H1.set gl.length none))))
    (hJ0 : J 0 (hide gl H 0 ++ [some .dfr]))
    (hround : ∀ (l k : Nat) (x : AV) (H' : Heap), xs[k]? = some x → J k H' → H.length + 1 ≤ H'.length → noY H' = true → W P (some l) asg (asgQ P l body (RdBack J JZ k n (H.length + 1))) ⟨bindE ps (argsY x) ρ, n, H', H.length + 1, []⟩)
    (hend : ∀ H' H1, J xs.length H' → S true H1 → H.length + 1 ≤ H'.length → noY H' = true → Q .normal ⟨ρ, n, patch gl H' H1, m, .mk H.length :: df⟩)
    (hZ : ∀ e H' H1 c, isExit e c → JZ e H' → S false H1 → H.length + 1 ≤ H'.length → noY H' = true → Q e ⟨ρ, n, patch gl H' H1, m, .mk H.length :: df⟩) :
    W P none (.rangeFunc gop ps.toArray asg body) Q ⟨ρ, n, H, m, df⟩ := by
  rw [W_eq]
  intro p σ a w hR
  have hsz : a.tmps.size = n := hR.size
  have hH : HRel p σ H w := hR.heap
  have hlt' : ∀ x ∈ gl, x < H.length := fun x hx => by simpa [Nat.blt_eq] using List.all_eq_true.1 hlt x hx
  refine wpIn_rangeFunc fun fn _ => ?_
  have hv := evalO_rel hR gop
  simp only [hg] at hv
  generalize hve : a.eval gop = v at hv
  cases hv with
  | clos _ _ _ fs' cs' h1 h2 h3 h4 =>
  let rec_ : Loop := recOfA asg fn a.tmps ps.toArray body w.heap.size .ready none
  let wd : World := pushW w (.deferred (some []))
  let w1 : World := pushW wd (.loop rec_)
  let l : Nat := w.heap.size + 1
  let σb := σ ++ [w.heap.size]
  have hszd : wd.heap.size = w.heap.size + 1 := pushW_size
  have hsz1 : w1.heap.size = w.heap.size + 2 := by simp [w1, pushW_size, hszd]
  have exd : Ext p w p wd := .push hH.lt _
  have hltd : ∀ b, p.u b → b < wd.heap.size := fun b hb => by have := hH.lt b hb; omega
  have ex1 : Ext p wd p w1 := .push hltd _
  have exA : Ext p w p w1 := exd.trans ex1
  have old : ∀ b, b < w.heap.size → w1.heap[b]? = w.heap[b]? := fun b hb => (pushW_old (by omega)).trans (pushW_old hb)
  have hlrec : w1.heap[l]? = some (.loop rec_) := by
    show w1.heap[w.heap.size + 1]? = _
    rw [← hszd]
    exact pushW_new
  have hHd : HRel p σb (H ++ [some .dfr]) wd := hH.push _ .dfr pushW_new
  have hlive : ∀ (i r : Nat) (k : Blk), (H ++ [some Blk.dfr])[i]? = some (some k) → σb[i]? = some r → ¬ p.u r ∧ r < wd.heap.size := fun i r k hk hr => by
    obtain ⟨r', z1, z2, z3, _⟩ := hHd.blk i k hk
    rw [hr] at z1
    injection z1 with z1
    subst z1
    exact ⟨z2, z3⟩
  have hYd : noY (H ++ [some .dfr]) = true := noY_of fun i k hk => by
    rcases Nat.lt_or_ge i H.length with hi | hi
    · rw [List.getElem?_append_left hi] at hk
      exact noY_get hY hk
    · rw [List.getElem?_append_right hi] at hk
      cases hj : i - H.length with
      | zero => rw [hj] at hk; simp at hk; subst hk; rfl
      | succ j => rw [hj] at hk; simp at hk
  have hH1 : HRel p σb (H ++ [some .dfr]) w1 := hHd.same hYd (fun _ h => h) (fun b hb => ex1.same b (p.sub b hb) fun hf => p.fr b hf hb) ex1.shape (fun b hb => by have := hltd b hb; omega) fun i k r hk hr =>
    ⟨(hlive i r k hk hr).1, pushW_old (hlive i r k hk hr).2⟩
  let Hb : Heap := hide gl H 0 ++ [some .dfr]
  obtain ⟨hhl, hhg⟩ := hide_get gl H 0
  have hbl : Hb.length = H.length + 1 := by simp [Hb, hhl]
  have hbg : ∀ (i : Nat) (k : Blk), Hb[i]? = some (some k) → i ∉ gl ∧ (H ++ [some Blk.dfr])[i]? = some (some k) := fun i k hk => by
    rcases Nat.lt_or_ge i H.length with hi | hi
    · rw [List.getElem?_append_left (by rw [hhl]; exact hi)] at hk
      obtain ⟨z1, z2⟩ := hhg i k hk
      exact ⟨by simpa using z1, by rw [List.getElem?_append_left hi]; exact z2⟩
    · rw [List.getElem?_append_right (by rw [hhl]; exact hi), hhl] at hk
      exact ⟨fun hm => by have := hlt' i hm; omega, by rw [List.getElem?_append_right hi]; exact hk⟩
  have hHb : HRel p σb Hb w1 := hH1.less (by rw [hbl]; simp) fun i k hk => (hbg i k hk).2
  let L : Nat → Prop := fun r => ∃ (i : Nat) (k : Blk), Hb[i]? = some (some k) ∧ σb[i]? = some r
  have hL : ∀ r, L r → ¬ p.u r ∧ r < wd.heap.size := fun r ⟨i, k, z1, z2⟩ => hlive i r k (hbg i k z1).2 z2
  let p0 : PQ := ⟨p.r, fun b => p.u b ∨ L b, L, fun b h => .inl (p.sub b h), fun b h => .inr h, fun b h hr => (hL b h).1 (p.sub b hr)⟩
  have hσl : σ.length = H.length := hH.len
  have σleft : ∀ (i r : Nat), σ[i]? = some r → σb[i]? = some r := mono_append _
  let Y := mkYG asg p ρ a.tmps (H.length + 1) σb l fn ps body w.heap.size xs J JZ
  have hMid : MidG p ρ a.tmps (H.length + 1) σb l rec_ p0 w1 p σb Hb :=
    ⟨by simp [σb, hσl], Nat.le_of_eq hbl.symm, hHb, fun _ _ => rfl, noY_of fun i k hk => noY_get hYd (hbg i k hk).2, fun _ h => h, fun b h => .inl h, fun i r k hk hr => ⟨i, k, hk, hr⟩, fun u => (hR.env u).mono exA σleft, hlrec⟩
  have hlaw : YLaw P Y := mkYG_law (by rw [hsz]; exact ht) hxs fun k x H' e1 e2 e3 e4 => by rw [hsz]; exact hround l k x H' e1 e2 e3 e4
  have hT := hcall Y rfl hlaw
  rw [Tri_eq] at hT
  obtain ⟨hent, hT⟩ := hT
  have hlen0 : H0.length = gl.length := (HLe_get H0 gl hle).1
  have hget0 := (HLe_get H0 gl hle).2
  have hsg := renS_get (σ := σ) (g := gl) rfl (by rw [hσl]; exact hlt')
  have hgi : ∀ (i j : Nat), gl[i]? = some j → (renS gl σ)[i]? = σ[j]? := fun i j h => by
    have hi := (List.getElem?_eq_some_iff.1 h).1
    rw [hsg i hi]
    simp [gOf, List.getD_eq_getElem?_getD, h]
  have hY0 : noY H0 = true := noY_of fun i k hk => by
    obtain ⟨j, z1, z2, _⟩ := hget0 i k hk
    have := noY_get hY z2
    cases k <;> first | rfl | simp [renB, isY] at this
  have hH0 : HRel p (renS gl σ) H0 wd := (hH.ren hlt' hnd hle).same hY0 (fun _ h => h) (fun b hb => exd.same b (p.sub b hb) fun hf => p.fr b hf hb) exd.shape hltd fun i k r hk hr => by
    obtain ⟨r', z1, z2, z3, _⟩ := (hH.ren hlt' hnd hle).blk i k hk
    rw [hr] at z1
    injection z1 with z1
    subst z1
    exact ⟨z2, pushW_old z3⟩
  have hH0' : HRel p0 (renS gl σ) H0 wd := hH0.same hY0 (fun _ h => h) (fun _ _ => rfl) (.refl wd) (fun b hb => hb.elim (hltd b) fun h => (hL b h).2) fun i k r hk hr => by
    obtain ⟨r', z1, z2, z3, _⟩ := hH0.blk i k hk
    rw [hr] at z1
    injection z1 with z1
    subst z1
    refine ⟨fun hu => hu.elim z2 fun ⟨j, q, y1, y2⟩ => ?_, rfl⟩
    obtain ⟨j0, e1, e2, _⟩ := hget0 i k hk
    rw [hgi i j0 e1] at hr
    obtain ⟨f1, f2⟩ := hbg j q y1
    have hj0 : j0 < H.length := (List.getElem?_eq_some_iff.1 e2).1
    have := hHd.inj j j0 r q _ f2 (by rw [List.getElem?_append_left hj0]; exact e2) y2 (σleft _ _ hr)
    subst this
    exact f1 (List.mem_iff_getElem?.2 ⟨i, e1⟩)
  have hHc : HRel p0 (renS gl σ ++ [wd.heap.size]) (H0 ++ [some (.yl Y 0)]) w1 := hH0'.push _ (.yl Y 0) ⟨hszd, p, σb, Hb, hJ0, hMid⟩
  let yv : Value := .func (.yield l) #[] #[]
  refine ⟨l, [{ target := .collected w.heap.size, args := #[] }], w1, { target := .fn (.func f) cs', args := fs' ++ #[yv] }, w1, f, fs' ++ #[yv] ++ cs', w1, run_enterLoop_outer fn a.tmps ps.toArray asg body, ?_, fun _ _ => trivial, ?_, fun h => by simp [Fr, Fence.wide] at h, ?_⟩
  · have hconst : a.eval (.const (.func (.yield l) #[] #[])) = yv := rfl
    simp [resolve, rangeCall, hve, Deferred.ofValue, hconst]
  · simp only [invoke]
    exact enter_run hent
  have hargs : (fs' ++ #[yv] ++ cs').size = (fs0 ++ [AV.clos (.yield Y.l) [] []] ++ cs0).length ∧
      ∀ (i : Nat) (x : AV) (v : Value), (fs0 ++ [AV.clos (.yield Y.l) [] []] ++ cs0)[i]? = some x → (fs' ++ #[yv] ++ cs')[i]? = some v → VRel p0 (renS gl σ ++ [wd.heap.size]) w1 x v := by
    have part : ∀ (xs xs0 : List AV) (vs : Array Value), xs = renL (gOf gl) xs0 → lowL gl.length xs0 = true → vs.size = xs.length → (∀ (i : Nat) (x : AV) (v : Value), xs[i]? = some x → vs[i]? = some v → VRel p σ w x v) →
        vs.size = xs0.length ∧ ∀ (i : Nat) (x : AV) (v : Value), xs0[i]? = some x → vs[i]? = some v → VRel p0 (renS gl σ ++ [wd.heap.size]) w1 x v := fun xs xs0 vs hx hl hs hr => by
      subst hx
      rw [renL_length] at hs
      refine ⟨hs, fun i x v hx hv => ?_⟩
      have z := hr i (Eng.ren (gOf gl) x) v (by rw [renL_get, hx]; rfl) hv
      exact (z.ren hsg x rfl (lowL_get hl hx)).mono' (p := p) (p' := p0) (fun _ h => h) (fun b hb => exA.same b (p.sub b hb) fun hf => p.fr b hf hb) exA.shape (mono_append _)
    obtain ⟨q1, q2⟩ := part fs fs0 fs' hfs hlf h1 h3
    obtain ⟨r1, r2⟩ := part cs cs0 cs' hcs hlc h2 h4
    obtain ⟨u1, u2⟩ := rel_append (p := p0) (σ := renS gl σ ++ [wd.heap.size]) (w := w1) (xs := fs0) (ys := [AV.clos (.yield Y.l) [] []]) (us := fs') (vs := #[yv]) q1 q2 rfl (fun i x v hx hv => by
      cases i with
      | zero =>
        simp at hx hv
        subst hx hv
        exact .clos (.yield l) [] [] #[] #[] rfl rfl (fun i x v h => by simp at h) (fun i x v h => by simp at h)
      | succ i => simp at hx)
    exact rel_append u1 u2 r1 r2
  show CallsIn (Fr none) 0 P f _ w1 _
  refine callsIn_of ((hT p0 _ w1 _ hHc hargs.1 hargs.2).mono ?_)
  rintro e w2 ⟨v, x, p1, σ1, H1, rfl, hex, hm1, hHR1, _, hq⟩
  have hl1 : σ1[gl.length]? = some l := hm1 _ _ (by
    rw [List.getElem?_append_right (by simp [renS])]
    simp [renS, hszd, l])
  have hul1 : ∀ (k : Blk), H1[gl.length]? = some (some k) → ¬ p1.u l ∧ BRel p1 σ1 w2 k l := fun k hk => by
    obtain ⟨r, z1, z2, _, z4⟩ := hHR1.blk _ k hk
    rw [hl1] at z1
    injection z1 with z1
    subst z1
    exact ⟨z2, z4⟩
  obtain ⟨hYz, hq⟩ := hq
  have hlen1 := hHR1.len
  have hgl1 : gl.length < σ1.length := (List.getElem?_eq_some_iff.1 hl1).1
  have hg1 : ∀ (i j : Nat), gl[i]? = some j → σ1[i]? = σ[j]? := fun i j h => by
    have hj : j < σ.length := by rw [hσl]; exact hlt' j (List.mem_of_getElem? h)
    have e : σ[j]? = some (σ[j]'hj) := List.getElem?_eq_getElem hj
    rw [e]
    refine hm1 i _ ?_
    rw [List.getElem?_append_left (by simp [renS]; exact (List.getElem?_eq_some_iff.1 h).1), hgi i j h, e]
  have fin : ∀ (st : LoopState) (pend : Option Code) (pO : PQ) (σO : List Nat) (H' : Heap) (o : Obj) (kb : Blk), H1[gl.length]? = some (some kb) → ¬ p1.u l → MidG p ρ a.tmps (H.length + 1) σb l (recOfA asg fn a.tmps ps.toArray body w.heap.size st pend) p1 w2 pO σO H' → H.length + 1 ≤ H'.length ∧ noY H' = true ∧
      ∃ pf σF, Ext p w pf (w2.putObj l o) ∧ (∀ i, i < m → σF[i]? = σ[i]?) ∧ Rel pf σF ⟨ρ, n, patch gl H' (H1.set gl.length none), m, .mk H.length :: df⟩ { a with defers := [{ target := .collected w.heap.size, args := #[] }] ++ a.defers } (w2.putObj l o) := fun st pend pO σO H' o kb hkb hul hM => by
    have hsh4 : Shape w2 (w2.putObj l o) := Shape.putLoop hM.lrec o
    have oth4 : ∀ b, b ≠ l → (w2.putObj l o).heap[b]? = w2.heap[b]? := fun b hb => World.putObj_heap_other hb
    have sz4 : (w2.putObj l o).heap.size = w2.heap.size := by simp
    generalize w2.putObj l o = w4 at *
    have p1f : ∀ b, p1.f b → ¬ p.u b := fun b hb hu => (hex.backf b hb).elim (fun h => (hL b h).1 hu) fun h => h (.inl hu)
    have hlr : ¬ pO.r l := fun h => (hM.back l h).elim (fun h => hul (p1.sub l h)) fun h => hul (p1.fu l h)
    have hlr1 : ¬ p1.r l := fun h => hul (p1.sub l h)
    have lv : ∀ (i r : Nat) (k : Blk), H'[i]? = some (some k) → σO[i]? = some r → ¬ pO.u r := fun i r k hk hr => by
      obtain ⟨r', z1, z2, _⟩ := hM.heap.blk i k hk
      rw [hr] at z1
      injection z1 with z1
      subst z1
      exact z2
    have lv1 : ∀ (i r : Nat) (k : Blk), H1[i]? = some (some k) → σ1[i]? = some r → ¬ p1.u r := fun i r k hk hr => by
      obtain ⟨r', z1, z2, _⟩ := hHR1.blk i k hk
      rw [hr] at z1
      injection z1 with z1
      subst z1
      exact z2
    have back1 : ∀ b, p1.r b → p.r b ∨ ¬ p.u b := fun b hb => (hex.back b hb).imp id fun h hu => h (.inl hu)
    have backO : ∀ b, pO.r b → p.r b ∨ ¬ p.u b := fun b hb => (hM.back b hb).elim (back1 b) fun h => .inr (p1f b h)
    have frx : ∀ b, p.f b → (p.r b ∨ ¬ p.u b) → False := fun b hf h => h.elim (p.fr b hf) fun h => h (p.fu b hf)
    let pf : PQ := ⟨fun b => pO.r b ∨ p1.r b, fun b => p.u b ∨ pO.r b ∨ p1.r b, p.f, fun _ h => .inr h, fun b h => .inl (p.fu b h), fun b h hr => frx b h (hr.elim (backO b) (back1 b))⟩
    have σfin : ∀ (i r : Nat), σb[i]? = some r → σO[i]? = some r := fun i r hi => by
      rw [hM.nam i (by rw [← hM.bl]; exact (List.getElem?_eq_some_iff.1 hi).1)]
      exact hi
    have rsame : ∀ b, pO.r b → w4.heap[b]? = w2.heap[b]? := fun b hb => oth4 b fun e => hlr (e ▸ hb)
    have r1same : ∀ b, p1.r b → w4.heap[b]? = w2.heap[b]? := fun b hb => oth4 b fun e => hlr1 (e ▸ hb)
    have hOl : σO.length = H'.length := hM.heap.len
    let H1z := H1.set gl.length none
    have z_get : ∀ (i : Nat) (k : Blk), H1z[i]? = some (some k) → i ≠ gl.length ∧ H1[i]? = some (some k) := fun i k hk => by
      have hne : i ≠ gl.length := fun e => by
        subst e
        rw [List.getElem?_set_self (by omega)] at hk
        simp at hk
      exact ⟨hne, by rwa [List.getElem?_set_ne (fun e => hne e.symm)] at hk⟩
    have hz : HRel p1 σ1 H1z w4 := (hHR1.kill gl.length).same hYz (fun _ h => h) r1same hsh4 (fun b hb => by rw [sz4]; exact hHR1.lt b hb) fun i k r hk hr => by
      obtain ⟨hne, hk'⟩ := z_get i k hk
      exact ⟨lv1 i r k hk' hr, oth4 r fun e => hne (hHR1.inj i gl.length l k kb hk' hkb (e ▸ hr) hl1)⟩
    have hO4 : HRel pO σO H' w4 := hM.heap.same hM.noY (fun _ h => h) rsame hsh4 (fun b hb => by rw [sz4]; exact hM.heap.lt b hb) fun i k r hk hr => ⟨lv i r k hk hr, oth4 r fun e => hul (p1.fu l (e ▸ hM.live i r k hk hr))⟩
    have hgO : ∀ (i j : Nat), gl[i]? = some j → σO[j]? = σ1[i]? := fun i j h => by
      have hj := hlt' j (List.mem_of_getElem? h)
      rw [hg1 i j h, hM.nam j (by omega), List.getElem?_append_left (by rw [hσl]; exact hj)]
    have hJn : HRel pf (σO ++ σ1.drop gl.length) (patch gl H' H1z) w4 := by
      refine hO4.join hz hM.noY hYz (by omega) (fun x hx => by have := hlt' x hx; have := hM.len; omega) hgO (fun _ h => .inl h) (fun _ h => .inr h) (fun b hb => ?_) (fun i k r hk hr hu => ?_) (fun i k r hk hr hu => ?_) fun i j k k2 r hk hk2 hr hr2 => ?_
      · rw [sz4]
        exact hb.elim (fun h => by have := hH.lt b h; have := (exA.shape.trans hex.shape).1; omega) fun h => h.elim (fun h => hM.heap.lt b (pO.sub b h)) fun h => hHR1.lt b (p1.sub b h)
      · have hf := hM.live i r k hk hr
        exact hu.elim (p1f r hf) fun h => h.elim (fun h => lv i r k hk hr (pO.sub r h)) fun h => p1.fr r hf h
      · have hnu := lv1 i r k (z_get i k hk).2 hr
        exact hu.elim (fun h => hnu (hex.subu r (.inl h))) fun h => h.elim (fun h => (hM.back r h).elim (fun h => hnu (p1.sub r h)) fun h => hnu (p1.fu r h)) fun h => hnu (p1.sub r h)
      · exact lv1 j r k2 (z_get j k2 hk2).2 hr2 (p1.fu r (hM.live i r k hk hr))
    have hleft : ∀ (i r : Nat), σO[i]? = some r → (σO ++ σ1.drop gl.length)[i]? = some r := fun i r hi => by
      rw [List.getElem?_append_left (List.getElem?_eq_some_iff.1 hi).1]
      exact hi
    refine ⟨hM.len, hM.noY, pf, σO ++ σ1.drop gl.length, ⟨fun b hb => .inl (hM.subr b hb), fun b hb => .inl hb, fun b hb => hb.elim (backO b) (back1 b), fun _ h => h, fun _ h => .inl h, fun b hb hf => ?_, (exA.shape.trans hex.shape).trans hsh4⟩, fun i hi => ?_, ⟨hsz, ?_, fun u => ?_, hJn, ?_⟩⟩
    · have hbw := hH.lt b hb
      exact (oth4 b (by omega)).trans ((hex.same b (.inl hb) fun h => (hL b h).1 hb).trans (old b hbw))
    · have hi' : i < H.length := Nat.lt_of_lt_of_le hi hR.m
      have := hM.len
      rw [List.getElem?_append_left (by omega), hM.nam i (by omega), List.getElem?_append_left (by rw [hσl]; exact hi')]
    · refine ⟨⟨w.heap.size, hleft _ _ (σfin _ _ ?_), rfl⟩, DRel.mono (fun i r h => hleft i r (σfin i r (σleft i r h))) _ _ hR.df⟩
      rw [← hσl]
      simp [σb]
    · exact (hM.env u).mono' (p := pO) (p' := pf) (fun _ h => .inl h) rsame hsh4 (fun i r h => hleft i r (σfin i r h))
    · have := hM.len
      have h1 := hR.m
      show m ≤ (patch gl H' H1z).length
      rw [← hJn.len, List.length_append]
      show m ≤ _
      have h2 : m ≤ H.length := h1
      omega
  rcases hq with ⟨hq, hS⟩ | ⟨hq, hS⟩
  · obtain ⟨hul, hb⟩ := hul1 _ hq
    obtain ⟨_, pO, σO, H', hJ, hM⟩ := hb
    obtain ⟨f1, f2, pf, σF, f3, f4, f5⟩ := fin _ _ pO σO H' (.loop { recOfA asg fn a.tmps ps.toArray body w.heap.size .ready none with state := .exhausted }) _ hq hul hM
    refine ⟨none, _, run_endLoop hM.lrec (by simp [recOfA]), ?_⟩
    exact ⟨.normal, pf, σF, _, rfl, f3, f4, f5, rfl, rfl, hend H' _ hJ hS f1 f2⟩
  · obtain ⟨hul, hb⟩ := hul1 _ hq
    obtain ⟨_, pO, σO, H', e, c, hJ, hc, hM⟩ := hb
    obtain ⟨f1, f2, pf, σF, f3, f4, f5⟩ := fin _ _ pO σO H' (.loop { recOfA asg fn a.tmps ps.toArray body w.heap.size .done (some c) with state := .exhausted }) _ hq hul hM
    refine ⟨some c, _, run_endLoop hM.lrec (by simp [recOfA]), ?_⟩
    have post : Post p w σ ⟨ρ, n, H, m, df⟩ Q (exR e) { a with defers := [{ target := .collected w.heap.size, args := #[] }] ++ a.defers } (w2.putObj l (.loop { recOfA asg fn a.tmps ps.toArray body w.heap.size .done (some c) with state := .exhausted })) :=
      ⟨e, pf, σF, _, rfl, f3, f4, f5, rfl, rfl, hZ e H' _ c hc hJ hS f1 f2⟩
    cases e with
    | normal => exact hc.elim
    | exit i => obtain rfl := hc; exact wpIn_exit post
    | goto i => obtain rfl := hc; exact wpIn_goto post
    | ret => obtain rfl := hc; exact wpIn_ret post
end
end Go.Eng
set_option linter.unusedVariables false
set_option linter.unusedSimpArgs false
namespace Go.Eng
open Go
theorem Tri.fz {P : Program} {f : FuncId} {args : List AV} {v0 r : AV} {HH : Heap} {F : List Nat} (h : Tri P f args [] fun v H => v = v0 ∧ H = HH) (hv : FV [] F HH v0 r) : Fn P f args r := by
  have hF := Fin_all hv
  rw [Fin_eq] at hF
  (unfold Fn; simp only [Tri_eq] at *)
  refine ⟨h.1, fun p σ w vs hH hs hvs => (h.2 p σ w vs hH hs hvs).mono ?_⟩
  rintro e w' ⟨v, x, p1, σ1, H1, rfl, hex, hm, hH1, hx, rfl, rfl⟩
  obtain ⟨p2, σ2, e2, m2, h2, v2⟩ := hF p1 σ1 w' v (Nat.zero_le _) hH1 hx
  have h0 : σ = [] := List.eq_nil_of_length_eq_zero hH.len
  subst h0
  exact ⟨v, r, p2, σ2, [], rfl, hex.trans e2, fun i r h => by simp at h, h2, v2, rfl, rfl⟩
theorem sameB {g F : List Nat} {H : Heap} {x y : Bool} (h : x = y) : FV g F H (.d (.bool x)) (.d (.bool y)) := by subst h; exact .same _ rfl
theorem sameI {g F : List Nat} {H : Heap} {k : IntKind} {x y : Int} (h : x = y) : FV g F H (.d (.int k x)) (.d (.int k y)) := by subst h; exact .same _ rfl
end Go.Eng
set_option maxRecDepth 100000
set_option linter.unusedVariables false
set_option linter.unusedSimpArgs false
namespace Go.Eng
open Go Go.Proofs
def tagB (t : Tree) (n tag : Int) : Bool := decide ((nd t n).kind = 1) && decide ((nd t n).tag = tag)
def tixB (t : Tree) (n : Int) : Bool := (getP t n 0).2 || (tagB t n 1 || tagB t n 4)
def disB (t : Tree) (n : Int) : Bool := tagB t n 1 && (getP t n 1).2
def delB (t : Tree) (n : Int) : Bool := decide ((nd t n).root ≠ -1) && (getP t (nd t n).root 7).2
def ownB (t : Tree) (n : Int) : Bool := !(getP t n 2).2 && (!tagB t n 2 && !(getP t n 6).2)
def rendB (t : Tree) (n : Int) (L : List Int) : Bool := allOk t n && (L.any (· == 0) && L.all (ownB t))
def inertB (t : Tree) (n : Int) (L : List Int) : Bool := allOk t n && L.any fun k => (getP t k 3).2
def areaB (t : Tree) (n : Int) (L : List Int) : Bool := allOk t n && (tixB t n && (!disB t n && (!delB t n && (rendB t n L && !inertB t n L))))
def ndC (t : Tree) (n : Int) : List D := pv t ++ [.int .i64 n]
theorem area_tag (t : Tree) (n tag : Int) (hn : isN t n = true) : Fn Tryz.prog 361 [aggD (ndC t n), .i tag] (.b (tagB t n tag)) := by
  refine Fn_of tt_ok Tryz.func361 rfl (by decide) Tryz.ntmps361 rfl ?_
  unfold tagB
  repeat' ((conv => whnf); (first
   | (refine Br_beq (fun h => ?_) (fun h => ?_))
   | (refine Idx_nd hn rfl ?_)
   | (refine fin0 rfl ?_)))
  all_goals (simp only [AV.d.injEq, D.bool.injEq] at *; grind)
theorem area_index (t : Tree) (n : Int) (hn : isN t n = true) : Fn Tryz.prog 360 [aggD (ndC t n)] (.tup [.i (getP t n 0).1, .b (tixB t n)]) := by
  refine Fn_of tt_ok Tryz.func360 rfl (by decide) Tryz.ntmps360 rfl ?_
  have h0 := attr_Get t n 0
  have h1 := area_tag t n 1 hn
  have h4 := area_tag t n 4 hn
  unfold tixB
  generalize getP t n 0 = g at *
  obtain ⟨i, b⟩ := g
  cases b
  · generalize tagB t n 1 = b1 at *
    generalize tagB t n 4 = b4 at *
    cases b1
    all_goals repeat' ((conv => whnf); (first
     | (refine Fn.use (h0) rfl rfl ?_)
     | (refine Fn.use (h1) rfl rfl ?_)
     | (refine Fn.use (h4) rfl rfl ?_)
     | (refine fin0 rfl ?_)))
    all_goals rfl
  · repeat' ((conv => whnf); (first
   | (refine Fn.use (h0) rfl rfl ?_)
   | (refine fin0 rfl ?_)))
    rfl
theorem area_plain (t : Tree) (n : Int) (hn : isN t n = true) : Fn Tryz.prog 322 [aggD (ndC t n)] (.b (!tixB t n)) := by
  refine Fn_of tt_ok Tryz.func322 rfl (by decide) Tryz.ntmps322 rfl ?_
  repeat' ((conv => whnf); (first
   | (refine Fn.use (area_index t n hn) rfl rfl ?_)
   | (refine fin0 rfl ?_)))
  rfl
theorem area_disabled (t : Tree) (n : Int) (hn : isN t n = true) : Fn Tryz.prog 323 [aggD (ndC t n)] (.b (disB t n)) := by
  refine Fn_of tt_ok Tryz.func323 rfl (by decide) Tryz.ntmps323 rfl ?_
  have h1 := area_tag t n 1 hn
  have h2 := attr_Has t n 1
  unfold disB
  generalize tagB t n 1 = b1 at *
  cases b1
  all_goals repeat' ((conv => whnf); (first
   | (refine Fn.use (h1) rfl rfl ?_)
   | (refine Fn.use (h2) rfl rfl ?_)
   | (refine fin0 rfl ?_)))
  all_goals rfl
theorem area_delegates (t : Tree) (n : Int) (hn : isN t n = true) : Fn Tryz.prog 324 [aggD (ndC t n)] (.b (delB t n)) := by
  refine Fn_of tt_ok Tryz.func324 rfl (by decide) Tryz.ntmps324 rfl ?_
  have h2 := attr_Has t (nd t n).root 7
  unfold delB
  by_cases hr : (nd t n).root = -1
  · rw [hr]
    repeat' ((conv => whnf); (first
     | (refine Br_false (bneF (by omega)) ?_)
     | (refine Idx_nd hn rfl ?_)
     | (refine fin0 rfl ?_)))
    all_goals (first | rfl | (exfalso; omega))
  · repeat' ((conv => whnf); (first
   | (refine Br_true (bneT (by omega)) ?_)
   | (refine Idx_nd hn rfl ?_)
   | (refine Fn.use (h2) rfl rfl ?_)
   | (refine fin0 rfl ?_)))
    all_goals (first | (simp only [hr, ne_eq, not_false_eq_true, decide_true, Bool.true_and]; done) | (exfalso; omega) | simp_all)
theorem area_of (t : Tree) (n : Int) : Fn Tryz.prog 268 [.d (treeD t), .i n] (.tup [aggD (ndC t n), .b (allOk t n)]) := by
  refine Fn_of tt_ok Tryz.func268 rfl (by decide) Tryz.ntmps268 rfl ?_
  have h := tree_Check t
  have e : (List.map Node.cs t).length = t.length := by simp
  have hi : isN t n = decide (0 ≤ n ∧ n < t.length) := by unfold isN; rfl
  unfold allOk
  rw [hi]
  cases hm : mayB t
  · rw [hm] at h
    repeat' ((conv => whnf); (first
     | (refine finD (F := []) (FV_tups ⟨FV_aggs ⟨.same _ rfl, .nsl, .nsl, .nsl, .nsl, .same _ rfl, trivial⟩, sameB ?_, trivial⟩))
     | (refine Fn.use (h) rfl rfl ?_)))
    all_goals grind
  · rw [hm] at h
    repeat' ((conv => whnf); (first
     | (refine finD (F := []) (FV_tups ⟨FV_aggs ⟨.same _ rfl, .nsl, .nsl, .nsl, .nsl, .same _ rfl, trivial⟩, sameB ?_, trivial⟩))
     | (refine Br_dec (fun h => ?_) (fun h => ?_))
     | (refine Len_in (fun hlen => ?_))
     | (refine Fn.use (h) rfl rfl ?_)))
    all_goals grind
theorem area_Delegates (t : Tree) (n : Int) : Fn Tryz.prog 305 [.d (treeD t), .i n] (.b (allOk t n && delB t n)) := by
  refine Fn_of tt_ok Tryz.func305 rfl (by decide) Tryz.ntmps305 rfl ?_
  have h1 := area_of t n
  cases ha : allOk t n
  · rw [ha] at h1
    repeat' ((conv => whnf); (first
     | (refine Fn.use (h1) rfl rfl ?_)
     | (refine fin0 rfl ?_)))
    rfl
  · rw [ha] at h1
    have hn : isN t n = true := by unfold allOk at ha; simp at ha; exact ha.2
    repeat' ((conv => whnf); (first
     | (refine Fn.use (h1) rfl rfl ?_)
     | (refine Fn.use (area_delegates t n hn) rfl rfl ?_)
     | (refine fin0 rfl ?_)))
    rfl
end Go.Eng
set_option maxRecDepth 100000
set_option linter.unusedVariables false
set_option linter.unusedSimpArgs false
namespace Go.Eng
open Go Go.Proofs
theorem copyT (t : Tree) (hne : t ≠ []) (hs : SmallT t) : Tri Tryz.prog 74 [.d (treeD t)] [] fun v H => v = .msl 0 0 t.length t.length 7 ∧ H = [some (.row (tabT t))] := by
  refine Tri_of (m := 0) tt_ok Tryz.func74 rfl (by decide) Tryz.ntmps74 (by rfl) rfl ?_
  refine Tri.tab (clone_tree t hne hs.1) rfl ?_
  have hpush : (List.map Node.cs t).flatten.map AV.d = tabT t := rfl
  rw [hpush]
  repeat' ((conv => whnf); (first
   | (refine Len_in (fun hlen => ?_))))
  refine W_loop (fun μ s => ∃ (k : Nat) (T : List AV), k ≤ t.length ∧ μ = t.length - k ∧ T = tabT t ∧
      s = ⟨[(3, .msl 0 0 t.length t.length 7), (8, .i t.length), (9, .i k)], 34, [some (.row T)], 0, []⟩) t.length
    ⟨_, ?_, 0, _, by omega, by omega, rfl, rfl⟩ ?_
  · exact Wk_env (by repeat (first | exact trivial | refine ⟨rfl, ?_⟩))
  rintro μ s1 ⟨k, T, hk, rfl, rfl, rfl⟩
  refine W_run tt_ok ?_
  by_cases hlt : k < t.length
  rotate_left
  · repeat' ((conv => whnf); (first
   | (refine Br_false (decide_eq_false (by omega)) ?_)
   | (refine finQ ⟨rfl, rfl⟩)))
  have hmk := hs.2 _ (List.getElem_mem hlt)
  have hTl : (tabT t).length = t.length * 7 := tabT_len t
  have g3 : (tabT t)[0 + (k : Int).toNat * 7 + 3]? = some (.d (ints (t[k]).kids)) := by
    rw [show 0 + (k : Int).toNat * 7 + 3 = k * 7 + 3 by omega]
    exact tabT_get t k 3 hlt _ rfl (by omega)
  have g6 : (tabT t)[0 + (k : Int).toNat * 7 + 6]? = some (.d (attrsD (t[k]).attrs)) := by
    rw [show 0 + (k : Int).toNat * 7 + 6 = k * 7 + 6 by omega]
    exact tabT_get t k 6 hlt _ rfl (by omega)
  have e : splice (splice (tabT t) (0 + (k : Int).toNat * 7 + 3) [.d (ints (t[k]).kids)]) (0 + (k : Int).toNat * 7 + 6) [.d (attrsD (t[k]).attrs)] = tabT t := by
    rw [splice_same g3, splice_same g6]
  repeat' ((conv => whnf); (first
   | (refine Br_true (Nat.ble_eq_true_of_le (by rw [hTl]; simp; omega)) ?_)
   | (refine Br_true (Nat.ble_eq_true_of_le (by rw [splice_length, hTl]; simp; omega)) ?_)
   | (refine Br_true (decide_eq_true (by omega)) ?_)
   | (refine W_draw 0 tt_ok mixed (by kernel_rfl) ?_)
   | (refine Cell_in _ g3 ?_)
   | (refine Cell_in _ g6 ?_)
   | (refine CallF_in (clone_ints _ hmk.1) rfl rfl ?_)
   | (refine CallF_in (clone_attrs _ hmk.2) rfl rfl ?_)
   | (refine Back_in _ _ ⟨k + 1, _, by omega, rfl, e, rfl⟩ (by omega) (Wk_env (by repeat (first | exact trivial | refine ⟨rfl, ?_⟩))))
   | (refine ArK_in (wrap_i64 (by omega) (by omega)) ?_)))
theorem tree_Copy (t : Tree) (hne : t ≠ []) (hs : SmallT t) : Fn Tryz.prog 74 [.d (treeD t)] (.d (treeD t)) :=
  Tri.fz (F := [0]) (copyT t hne hs) (FV_tab (cs := tabT t) (t.map Node.cs) rfl rfl (by simp) cs7)
theorem tree_fresh (kind tag : Int) : Fn Tryz.prog 97 [.i kind, .i tag] (aggD (Node.cs ⟨kind, tag, -1, [], -1, -1, []⟩)) := by
  refine Fn_of tt_ok Tryz.func97 rfl (by decide) Tryz.ntmps97 rfl ?_
  repeat' ((conv => whnf); (first
   | (refine finD (F := []) (FV_aggs ⟨.same _ rfl, .same _ rfl, .same _ rfl, .nsl, .same _ rfl, .same _ rfl, .nsl, trivial⟩))))
def newN (kind tag : Int) : Node := ⟨kind, tag, -1, [], -1, -1, []⟩
theorem tree_New : Fn Tryz.prog 71 [] (.d (treeD [newN 0 0])) := by
  refine Fn_of tt_ok Tryz.func71 rfl (by decide) Tryz.ntmps71 rfl ?_
  repeat' ((conv => whnf); (first
   | (refine Fn.use (tree_fresh 0 0) rfl rfl ?_)
   | (refine Ch_r ?_)
   | (refine fin0 rfl ?_)))
  rfl
def makeR (t : Tree) (kind tag : Int) : Tree × Int × Int :=
  if mayB t = false then ([], 0, 1)
  else if ¬ ((kind = 1 ∧ 0 ≤ tag ∧ tag ≤ 4) ∨ (kind = 2 ∧ tag = 0)) then (t, 0, 3)
  else if t.length = 64 then (t, 0, 4) else (t ++ [newN kind tag], (t.length : Int), 0)
theorem tree_Make (t : Tree) (kind tag : Int) (hs : SmallT t) : Fn Tryz.prog 100 [.d (treeD t), .i kind, .i tag] (.tup [.d (treeD (makeR t kind tag).1), .i (makeR t kind tag).2.1, .i (makeR t kind tag).2.2]) := by
  refine Fn_of tt_ok Tryz.func100 rfl (by decide) Tryz.ntmps100 rfl ?_
  have hM := tree_may t
  have hin := tree_in tag 0 4
  have e7 : (List.map Node.cs t).length = t.length := by simp
  cases hm : mayB t
  · have e : makeR t kind tag = ([], 0, 1) := by unfold makeR; rw [if_pos hm]
    rw [hm] at hM
    rw [e]
    by_cases hk : kind = 1
    · subst hk
      repeat' ((conv => whnf); (first
       | (refine Fn.use (hin) rfl rfl ?_)
       | (refine Fn.use (hM) rfl rfl ?_)
       | (refine finD (F := []) (FV_tups ⟨.nsl, .same _ rfl, .same _ rfl, trivial⟩))))
    · repeat' ((conv => whnf); (first
     | (refine Br_false (beqF (by omega)) ?_)
     | (refine Fn.use (hM) rfl rfl ?_)
     | (refine finD (F := []) (FV_tups ⟨.nsl, .same _ rfl, .same _ rfl, trivial⟩))))
  rw [hm] at hM
  have hne : t ≠ [] := by rintro rfl; simp [mayB] at hm
  have hfr := tree_fresh kind tag
  by_cases hok : (kind = 1 ∧ 0 ≤ tag ∧ tag ≤ 4) ∨ (kind = 2 ∧ tag = 0)
  rotate_left
  · have e : makeR t kind tag = (t, 0, 3) := by unfold makeR; rw [if_neg (by rw [hm]; simp), if_pos hok]
    rw [e]
    by_cases hk : kind = 1
    · subst hk
      have hb : inB tag 0 4 = false := by unfold inB; simp at hok; simp; omega
      rw [hb] at hin
      repeat' ((conv => whnf); (first
       | (refine Fn.use (hin) rfl rfl ?_)
       | (refine Fn.use (hM) rfl rfl ?_)
       | (refine fin0 rfl ?_)))
      all_goals (first | rfl | (exfalso; omega))
    · by_cases hk2 : kind = 2
      · subst hk2
        repeat' ((conv => whnf); (first
         | (refine Br_true (bneT (by omega)) ?_)
         | (refine Fn.use (hM) rfl rfl ?_)
         | (refine fin0 rfl ?_)))
        all_goals (first | rfl | (exfalso; omega))
      · repeat' ((conv => whnf); (first
       | (refine Br_false (beqF (by omega)) ?_)
       | (refine Br_true (bneT (by omega)) ?_)
       | (refine Fn.use (hM) rfl rfl ?_)
       | (refine fin0 rfl ?_)))
        all_goals (first | rfl | (exfalso; omega))
  have eS : makeR t kind tag = if t.length = 64 then (t, 0, 4) else (t ++ [newN kind tag], (t.length : Int), 0) := by unfold makeR; rw [if_neg (by rw [hm]; simp), if_neg (fun h => h hok)]
  rw [eS]
  have hcp := copyT t hne hs
  by_cases h64 : t.length = 64
  · rw [if_pos h64]
    rcases hok with ⟨rfl, h1, h2⟩ | ⟨rfl, rfl⟩
    · have hb : inB tag 0 4 = true := by unfold inB; simp; omega
      rw [hb] at hin
      repeat' ((conv => whnf); (first
       | (refine Br_true (beqT (by omega)) ?_)
       | (refine Len_in (fun hlen => ?_))
       | (refine Fn.use (hin) rfl rfl ?_)
       | (refine Fn.use (hM) rfl rfl ?_)
       | (refine fin0 rfl ?_)))
      all_goals (first | rfl | (exfalso; omega))
    · repeat' ((conv => whnf); (first
     | (refine Br_true (beqT (by omega)) ?_)
     | (refine Len_in (fun hlen => ?_))
     | (refine Fn.use (hM) rfl rfl ?_)
     | (refine fin0 rfl ?_)))
      all_goals (first | rfl | (exfalso; omega))
  · rw [if_neg h64]
    have hl := may_len64 hm
    have hN : Node.cs (newN kind tag) = [.int .i64 kind, .int .i64 tag, .int .i64 (-1), ints [], .int .i64 (-1), .int .i64 (-1), attrsD []] := rfl
    rcases hok with ⟨rfl, h1, h2⟩ | ⟨rfl, rfl⟩
    · have hb : inB tag 0 4 = true := by unfold inB; simp; omega
      rw [hb] at hin
      rw [show treeD (t ++ [newN 1 tag]) = .sl (t.map Node.cs ++ [(newN 1 tag).cs]) by simp [treeD]]
      repeat' ((conv => whnf); (first
       | (refine App_msl (t.map Node.cs) [(newN 1 tag).cs] (by simpa using hne) (by simp) rfl rfl rfl rfl (by simp) cs7 (by intro r hr; simp at hr; subst hr; rfl) (by simp; omega) (Nat.le_of_ble_eq_true rfl) ?_)
       | (refine Br_false (beqF (by omega)) ?_)
       | (refine Len_in (fun hlen => ?_))
       | (refine Fn.use (hin) rfl rfl ?_)
       | (refine Fn.use (hM) rfl rfl ?_)
       | (refine Tri.tab (l := (t.map Node.cs).flatten) hcp rfl ?_)
       | (refine Fn.use (hfr) rfl rfl ?_)
       | (refine Ch_r ?_)))
      conv => whnf
      exact finD (F := [1]) (FV_tups ⟨FV_tab _ rfl rfl (by simp) (by intro r hr; rcases List.mem_append.1 hr with hr | hr; exact cs7 r hr; simp at hr; subst hr; rfl), sameI (by simp), .same _ rfl, trivial⟩)
    · rw [show treeD (t ++ [newN 2 0]) = .sl (t.map Node.cs ++ [(newN 2 0).cs]) by simp [treeD]]
      repeat' ((conv => whnf); (first
       | (refine App_msl (t.map Node.cs) [(newN 2 0).cs] (by simpa using hne) (by simp) rfl rfl rfl rfl (by simp) cs7 (by intro r hr; simp at hr; subst hr; rfl) (by simp; omega) (Nat.le_of_ble_eq_true rfl) ?_)
       | (refine Br_false (beqF (by omega)) ?_)
       | (refine Len_in (fun hlen => ?_))
       | (refine Fn.use (hM) rfl rfl ?_)
       | (refine Tri.tab (l := (t.map Node.cs).flatten) hcp rfl ?_)
       | (refine Fn.use (hfr) rfl rfl ?_)
       | (refine Ch_r ?_)))
      conv => whnf
      exact finD (F := [1]) (FV_tups ⟨FV_tab _ rfl rfl (by simp) (by intro r hr; rcases List.mem_append.1 hr with hr | hr; exact cs7 r hr; simp at hr; subst hr; rfl), sameI (by simp), .same _ rfl, trivial⟩)
end Go.Eng
set_option maxRecDepth 100000
set_option linter.unusedVariables false
set_option linter.unusedSimpArgs false
namespace Go.Eng
open Go Go.Proofs
def backXs {α : Type} (f : α → AV) (l : List α) : List AV := l.reverse.zipIdx.map fun x => .tup [.i ((l.length : Int) - 1 - (x.2 : Int)), f x.1]
theorem backXs_len {α : Type} (f : α → AV) (l : List α) : (backXs f l).length = l.length := by unfold backXs; simp
theorem backXs_get {α : Type} (f : α → AV) (l : List α) {k : Nat} (h : k < l.length) : (backXs f l)[k]? = some (.tup [.i ((l.length : Int) - 1 - (k : Int)), f (l.reverse[k]'(by simpa using h))]) := by
  unfold backXs
  rw [List.getElem?_map, List.getElem?_zipIdx, List.getElem?_eq_getElem (by simpa using h)]
  simp
theorem backXs_args {α : Type} (f : α → AV) (hf : ∀ x, dat (f x) = true) (l : List α) : ∀ (k : Nat) (x : AV), (backXs f l)[k]? = some x → (argsY x).length = 2 ∧ ∀ y ∈ argsY x, dat y = true := by
  intro k x hx
  have hk : k < l.length := by have := (List.getElem?_eq_some_iff.1 hx).1; rwa [backXs_len] at this
  rw [backXs_get f l hk] at hx
  injection hx with hx
  subst hx
  refine ⟨rfl, fun y hy => ?_⟩
  simp [argsY] at hy
  rcases hy with rfl | rfl
  · rfl
  · exact hf _
theorem rev_at {α : Type} {l : List α} {k : Nat} (h : k < l.length) : l[((l.length : Int) - 1 - (k : Int)).toNat]? = some (l.reverse[k]'(by simpa using h)) := by
  rw [show ((l.length : Int) - 1 - (k : Int)).toNat = l.length - 1 - k by omega, List.getElem_reverse, List.getElem?_eq_getElem (by omega)]
theorem back_int (l : List Int) : Tri Tryz.prog 245 [.d (ints l)] [] fun v H => v = .clos (.func 306) [] [.ptr 0 0] ∧ H = [some (.row [.d (ints l)])] := by
  refine Tri_of (m := 0) tt_ok Tryz.func245 rfl (by decide) Tryz.ntmps245 (by rfl) rfl ?_
  repeat' ((conv => whnf); (first
   | (refine finR ?_)))
  rfl
theorem back_seq (l : List Int) (Y : Ysp) (hx : Y.xs = backXs AV.i l) (hY : YLaw Tryz.prog Y) :
    Tri Tryz.prog 306 ([] ++ [.clos (.yield Y.l) [] []] ++ [.ptr 0 0]) ([some (.row [.d (ints l)])] ++ [some (.yl Y 0)]) fun v H1 => noY (H1.set 1 none) = true ∧
      ((H1[1]? = some (some (.yl Y (backXs AV.i l).length)) ∧ H1.set 1 none = [some (.row [.d (ints l)]), none]) ∨ (H1[1]? = some (some (.yz Y)) ∧ H1.set 1 none = [some (.row [.d (ints l)]), none])) := by
  rw [backXs_len]
  refine Tri_of (m := 2) tt_ok Tryz.func306 rfl (by decide) Tryz.ntmps306 (by rfl) rfl ?_
  have hkl : (List.map intCs l).length = l.length := by simp
  repeat' ((conv => whnf); (first
   | (refine Len_in (fun hlen => ?_))
   | (refine ArK_in (wrap_i64 (by omega) (by omega)) ?_)))
  refine W_loop (fun μ s => ∃ (k : Nat), k ≤ l.length ∧ μ = l.length - k ∧
      s = ⟨[(0, .clos (.yield Y.l) [] []), (1, .ptr 0 0), (3, .i ((l.length : Int) - 1 - (k : Int)))], 19, [some (.row [.d (ints l)]), some (.yl Y k)], 2, []⟩) l.length
    ⟨_, ?_, 0, by omega, by omega, rfl⟩ ?_
  · refine Wk_env ⟨rfl, rfl, ?_, trivial⟩
    show AV.i (((List.map intCs l).length : Int) - 1) = AV.i _
    rw [hkl]
    simp
  rintro μ s1 ⟨k, hk, rfl, rfl⟩
  refine W_run tt_ok ?_
  by_cases hlt : k < l.length
  · have hat : (l.map intCs)[((l.length : Int) - 1 - (k : Int)).toNat]? = some (intCs (l.reverse[k]'(by simpa using hlt))) := by rw [List.getElem?_map, rev_at hlt]; rfl
    have hxk := backXs_get AV.i l hlt
    rw [← hx] at hxk
    have e : (l.length : Int) - 1 - (k : Int) - 1 = (l.length : Int) - 1 - ((k + 1 : Nat) : Int) := by omega
    generalize l.reverse[k]'(by simpa using hlt) = c at *
    repeat' ((conv => whnf); (first
     | (refine Br_true (decide_eq_true (by omega)) ?_)
     | (refine Idx_in _ hat (by omega) rfl ?_)
     | (refine Yield_in 1 Y k (.tup [.i ((l.length : Int) - 1 - (k : Int)), .i c]) rfl rfl hY rfl rfl hxk ?_ ?_)
     | (refine Back_in _ _ ⟨k + 1, by omega, rfl, rfl⟩ (by omega) ?_)
     | (refine finQ ⟨rfl, .inr ⟨rfl, rfl⟩⟩)
     | (refine ArK_in (wrap_i64 (by omega) (by omega)) ?_)))
    refine Wk_env ⟨rfl, rfl, ?_, trivial⟩
    show AV.i ((l.length : Int) - 1 - (k : Int) - 1) = AV.i _
    rw [e]
  · have hkl2 : k = l.length := by omega
    subst hkl2
    repeat' ((conv => whnf); (first
     | (refine Br_false (decide_eq_false (by omega)) ?_)
     | (refine finQ ⟨rfl, .inl ⟨rfl, rfl⟩⟩)))
end Go.Eng
set_option maxRecDepth 100000
set_option linter.unusedVariables false
set_option linter.unusedSimpArgs false
namespace Go.Eng
open Go Go.Proofs
theorem bitsLen0 (n : Int) : Fn Tryz.prog 235 [.d (.int .u64 n)] .any := bitsLen n
theorem pdq_nil (x : AV) (hx : lowL 0 [x] = true) : Fn Tryz.prog 394 [.d (ints []), .i 0, .i 0, .any] (.tup []) := by
  refine Fn_of tt_ok Tryz.func394 rfl (by decide) Tryz.ntmps394 rfl ?_
  refine W_loop (fun μ s => s = ⟨[(0, .d (ints [])), (1, .i 0), (2, .i 0), (3, .any)], 134, [], 0, []⟩) 0 ⟨_, ?_, rfl⟩ ?_
  · exact Wk_env (by repeat (first | exact trivial | refine ⟨rfl, ?_⟩))
  rintro μ s1 rfl
  refine W_run tt_ok ?_
  repeat' ((conv => whnf); (first
   | (refine Fn.use (insSort_nil) rfl rfl ?_)
   | (refine fin0 rfl ?_)
   | (refine ArK_in (wrap_i64 (by omega) (by omega)) ?_)))
  rfl
theorem sort_nil : Fn Tryz.prog 372 [.d (ints [])] (.tup []) := by
  refine Fn_of tt_ok Tryz.func372 rfl (by decide) Tryz.ntmps372 rfl ?_
  repeat' ((conv => whnf); (first
   | (refine Len_in (fun hlen => ?_))
   | (refine ArK_any ?_)
   | (refine Fn.use (bitsLen0 _) rfl rfl ?_)
   | (refine Fn.use (pdq_nil .any rfl) rfl rfl ?_)
   | (refine fin0 rfl ?_)))
  rfl
theorem sorted_nil : Tri Tryz.prog 350 [.clos (.func 373) [] [.ptr 0 0]] [some (.row [.d (ints [])])] fun v H => v = .d (ints []) ∧ H = [none] := by
  refine Tri_of (m := 1) tt_ok Tryz.func350 rfl (by decide) Tryz.ntmps350 (by rfl) rfl ?_
  have h := collect1_int 373 (ints []) [] (values_seq []) (by simp)
  repeat' ((conv => whnf); (first
   | (refine Tri.use h ?_)
   | (refine Fn.use (sort_nil) rfl rfl ?_)
   | (refine finQ ⟨rfl, rfl⟩)))
theorem compact_nil : Fn Tryz.prog 374 [.d (ints [])] (.d (ints [])) := by
  refine Fn_of tt_ok Tryz.func374 rfl (by decide) Tryz.ntmps374 rfl ?_
  repeat' ((conv => whnf); (first
   | (refine Len_in (fun hlen => ?_))
   | (refine fin0 rfl ?_)))
  rfl
theorem equal_nil : Fn Tryz.prog 353 [.d (ints []), .d (ints [])] (.b true) := by
  refine Fn_of tt_ok Tryz.func353 rfl (by decide) Tryz.ntmps353 rfl ?_
  repeat' ((conv => whnf); (first
   | (refine Len_in (fun hlen => ?_))))
  refine W_loop (fun μ s => s = ⟨[(0, .d (ints [])), (1, .d (ints [])), (12, .i 0), (13, .i 0)], 26, [], 0, []⟩) 0 ⟨_, ?_, rfl⟩ ?_
  · exact Wk_env (by repeat (first | exact trivial | refine ⟨rfl, ?_⟩))
  rintro μ s1 rfl
  refine W_run tt_ok ?_
  repeat' ((conv => whnf); (first
   | (refine fin0 rfl ?_)))
  rfl
theorem apart_nil : Fn Tryz.prog 352 [.d (ints [])] (.b true) := by
  refine Fn_of tt_ok Tryz.func352 rfl (by decide) Tryz.ntmps352 rfl ?_
  repeat' ((conv => whnf); (first
   | (refine Len_in (fun hlen => ?_))
   | (refine Fn.use (clone_ints [] (by simp)) rfl rfl ?_)
   | (refine Fn.use (sort_nil) rfl rfl ?_)
   | (refine Fn.use (compact_nil) rfl rfl ?_)
   | (refine fin0 rfl ?_)))
  rfl
theorem concat2 : Fn Tryz.prog 224 [.d (.sl [[ints []], [ints []]])] (.d (ints [])) := concat_nil _ (by simp) (by simp)
theorem concat3 : Fn Tryz.prog 224 [.d (.sl [[ints []], [ints []], [ints []]])] (.d (ints [])) := concat_nil _ (by simp) (by simp)
theorem each_nil : Fn Tryz.prog 225 [.d (shnD []), .d (.fn 226)] (.d (ints [])) := top_each [] (by simp)
theorem top_high (t : Tree) : Fn Tryz.prog 222 [aggD (pv t)] (.d (ints [])) := by
  refine Fn_of tt_ok Tryz.func222 rfl (by decide) Tryz.ntmps222 rfl ?_
  repeat' ((conv => whnf); (first
   | (refine W_draw 0 tt_ok mixed (by kernel_rfl) ?_)
   | (refine CallF_in (each_nil) rfl rfl ?_)
   | (refine CallF_in (concat2) rfl rfl ?_)
   | (refine fin0 rfl ?_)))
  rfl
theorem top_may (t : Tree) : Fn Tryz.prog 316 [aggD (pv t)] (.b true) := by
  refine Fn_of tt_ok Tryz.func316 rfl (by decide) Tryz.ntmps316 rfl ?_
  have ho : ∀ g, Tri Tryz.prog 217 [.d (ints []), .clos (.func g) [] [.ptr 0 0]] [some (.row [.d (treeD t)])] fun v H' => v = .tup [.d (ints []), .d (ints [])] ∧ H' = [some (.row [.d (treeD t)])] := fun g => only_int [] (treeD t) g (fun _ => true) (by simp) (by simp)
  have hs : ∀ g, Tri Tryz.prog 218 [.d (shnD []), .clos (.func g) [] [.ptr 0 0]] [some (.row [.d (treeD t)])] fun v H' => v = .tup [.d (shnD []), .d (shnD [])] ∧ H' = [some (.row [.d (treeD t)])] := fun g => only_shn [] (treeD t) g (fun _ => true) (by simp) (by simp)
  have h1 := ho 348
  have h2 := hs 349
  have h3 := top_high t
  have hv := values_int []
  repeat' ((conv => whnf); (first
   | (refine Len_in (fun hlen => ?_))
   | (refine Ch_r ?_)
   | (refine Fn.use (concat2) rfl rfl ?_)
   | (refine Tri.call h1 [1] rfl rfl ⟨⟨rfl, rfl⟩, trivial⟩ rfl rfl rfl rfl rfl rfl ?_)
   | (refine Tri.call h2 [1] rfl rfl ⟨⟨rfl, rfl⟩, trivial⟩ rfl rfl rfl rfl rfl rfl ?_)
   | (refine Fn.use (h3) rfl rfl ?_)
   | (refine Fn.use (apart_nil) rfl rfl ?_)
   | (refine Fn.use (equal_nil) rfl rfl ?_)
   | (refine Tri.call hv [] rfl rfl trivial rfl rfl rfl rfl rfl rfl ?_)
   | (refine Tri.call sorted_nil [2] rfl rfl ⟨⟨rfl, rfl⟩, trivial⟩ rfl rfl rfl rfl rfl rfl ?_)
   | (refine Tri.call sorted_nil [3] rfl rfl ⟨⟨rfl, rfl⟩, trivial⟩ rfl rfl rfl rfl rfl rfl ?_)
   | (refine fin0 rfl ?_)))
  rfl
theorem top_Check (t : Tree) : Fn Tryz.prog 258 [aggD (pv t)] (.i (if mayB t then 0 else 1)) := by
  refine Fn_of tt_ok Tryz.func258 rfl (by decide) Tryz.ntmps258 rfl ?_
  have h1 := tree_Check t
  have h2 := top_may t
  cases hm : mayB t
  · rw [hm] at h1
    repeat' ((conv => whnf); (first
     | (refine Fn.use (h1) rfl rfl ?_)
     | (refine fin0 rfl ?_)))
    rfl
  · rw [hm] at h1
    repeat' ((conv => whnf); (first
     | (refine Fn.use (h1) rfl rfl ?_)
     | (refine Fn.use (h2) rfl rfl ?_)
     | (refine fin0 rfl ?_)))
    rfl
theorem clone_shn0 : Fn Tryz.prog 76 [.d (shnD [])] (.d (shnD [])) := by
  refine Fn_of tt_ok Tryz.func76 rfl (by decide) Tryz.ntmps76 rfl ?_
  refine Nil_in fun b hb => ?_
  cases b
  · skip
    refine Ch_r ?_
    skip
    refine Ch_r (Need_in ⟨Nat.le_of_ble_eq_true rfl, by unfold LB; simp, by simp⟩ ?_)
    repeat' ((conv => whnf); (first
     | (refine fin0 rfl ?_)))
    rfl
  · repeat' ((conv => whnf); (first
   | (refine finD (F := []) .nsl)))
theorem top_Copy (t : Tree) (hne : t ≠ []) (hs : SmallT t) : Fn Tryz.prog 54 [aggD (pv t)] (aggD (pv t)) := by
  refine Fn_of tt_ok Tryz.func54 rfl (by decide) Tryz.ntmps54 rfl ?_
  repeat' ((conv => whnf); (first
   | (refine W_draw 0 tt_ok mixed (by kernel_rfl) ?_)
   | (refine CallF_in (tree_Copy t hne hs) rfl rfl ?_)
   | (refine CallF_in (clone_ints [] (by simp)) rfl rfl ?_)
   | (refine CallF_in (clone_shn0) rfl rfl ?_)
   | (refine fin0 rfl ?_)))
  rfl
theorem top_Fix (t : Tree) (hm : mayB t = true) (hs : SmallT t) : Fn Tryz.prog 164 [aggD (pv t)] (.tup [aggD (pv t), .d (ints []), .i 0]) := by
  refine Fn_of tt_ok Tryz.func164 rfl (by decide) Tryz.ntmps164 rfl ?_
  have hne : t ≠ [] := by rintro rfl; simp [mayB] at hm
  have hC := tree_Check t
  rw [hm] at hC
  have hcp := tree_Copy t hne hs
  have h1 : Tri Tryz.prog 217 [.d (ints []), .clos (.func 215) [] [.ptr 0 0]] [some (.row [.d (treeD t)])] fun v H' => v = .tup [.d (ints []), .d (ints [])] ∧ H' = [some (.row [.d (treeD t)])] := only_int [] (treeD t) _ (fun _ => true) (by simp) (by simp)
  have h2 : Tri Tryz.prog 218 [.d (shnD []), .clos (.func 219) [] [.ptr 0 0]] [some (.row [.d (treeD t)])] fun v H' => v = .tup [.d (shnD []), .d (shnD [])] ∧ H' = [some (.row [.d (treeD t)])] := only_shn [] (treeD t) _ (fun _ => true) (by simp) (by simp)
  have h3 : Tri Tryz.prog 217 [.d (ints []), .clos (.func 223) [] [.ptr 0 0]] [some (.row [.d (ints [])])] fun v H' => v = .tup [.d (ints []), .d (ints [])] ∧ H' = [some (.row [.d (ints [])])] := only_int [] (ints []) _ (fun _ => true) (by simp) (by simp)
  have h4 := top_high t
  repeat' ((conv => whnf); (first
   | (refine Len_in (fun hlen => ?_))
   | (refine Fn.use (hC) rfl rfl ?_)
   | (refine Fn.use (hcp) rfl rfl ?_)
   | (refine Tri.call h1 [2] rfl rfl ⟨⟨rfl, rfl⟩, trivial⟩ rfl rfl rfl rfl rfl rfl ?_)
   | (refine Tri.call h2 [2] rfl rfl ⟨⟨rfl, rfl⟩, trivial⟩ rfl rfl rfl rfl rfl rfl ?_)))
  refine W_loop (fun μ s => s = ⟨[(1, .ptr 0 0), (2, .ptr 1 0), (5, .ptr 2 0), (6, .ptr 3 0), (8, .d (ints [])), (9, .d (ints [])), (10, .d (shnD [])), (50, .i 0), (51, .i 0)], 86,
      [some (.row ((pv t).map .d)), some (.row [.nsl, .nsl, .nsl, .nsl, .nsl]), some (.row [.d (treeD t)]), some (.row ((pv t).map .d))], 0, []⟩) 0 ⟨_, ?_, rfl⟩ ?_
  · exact Wk_fz [0, 1, 2, 3] [] rfl rfl rfl ⟨⟨_, rfl, FB_rows ⟨.same _ rfl, .same _ rfl, .same _ rfl, .same _ rfl, .same _ rfl, trivial⟩⟩, ⟨_, rfl, FB_rows ⟨.same _ rfl, .same _ rfl, .same _ rfl, .same _ rfl, .same _ rfl, trivial⟩⟩,
      ⟨_, rfl, FB_rows ⟨.same _ rfl, trivial⟩⟩, ⟨_, rfl, FB_rows ⟨.same _ rfl, .same _ rfl, .same _ rfl, .same _ rfl, .nsl, trivial⟩⟩, trivial⟩
      ⟨.ptr _ _ _ rfl, .ptr _ _ _ rfl, .ptr _ _ _ rfl, .ptr _ _ _ rfl, .same _ rfl, .same _ rfl, .same _ rfl, .same _ rfl, .same _ rfl, trivial⟩ (by omega) (by omega)
  rintro μ s1 rfl
  refine W_run tt_ok ?_
  repeat' ((conv => whnf); (first
   | (refine Fn.use (h4) rfl rfl ?_)
   | (refine Tri.call h3 [4] rfl rfl ⟨⟨rfl, rfl⟩, trivial⟩ rfl rfl rfl rfl rfl rfl ?_)
   | (refine W_draw 0 tt_ok mixed (by kernel_rfl) ?_)
   | (refine CallF_in (each_nil) rfl rfl ?_)
   | (refine CallF_in (concat3) rfl rfl ?_)
   | (refine fin0 rfl ?_)))
  rfl
theorem top_Highest (t : Tree) (hm : mayB t = true) : Fn Tryz.prog 405 [aggD (pv t)] (.i (-1)) := by
  refine Fn_of tt_ok Tryz.func405 rfl (by decide) Tryz.ntmps405 rfl ?_
  have h1 := top_Check t
  rw [hm] at h1
  repeat' ((conv => whnf); (first
   | (refine Fn.use (h1) rfl rfl ?_)
   | (refine Tri.call (back_int []) [] rfl rfl trivial rfl rfl rfl rfl rfl rfl ?_)))
  refine W_rangeG [2] (fs0 := []) (cs0 := [.ptr 0 0]) (H0 := [some (.row [.d (ints [])])]) (ps := [11, 12]) (backXs AV.i []) (fun _ H => H = [some (.row ((pv t).map .d)), some (.row [.i 0]), none, some .dfr]) (fun _ _ => False) rfl rfl rfl
    (by repeat (first | exact trivial | refine ⟨⟨rfl, rfl⟩, ?_⟩)) rfl rfl rfl rfl (by decide) rfl (backXs_args AV.i (fun _ => rfl) []) (fun _ H => H = [some (.row [.d (ints [])]), none]) (fun Y hx hY => back_seq [] Y hx hY) rfl ?_ ?_ ?_
  · intro l k x H' hx
    simp [backXs] at hx
  · rintro H' H1 rfl rfl _ _
    repeat' ((conv => whnf); (first
     | (refine fin0 rfl ?_)))
    rfl
  · intro e H' H1 c _ h
    exact h.elim
end Go.Eng
set_option maxRecDepth 100000
set_option linter.unusedVariables false
set_option linter.unusedSimpArgs false
namespace Go.Eng
open Go Go.Proofs
theorem render_may (t : Tree) (n : Int) : Fn Tryz.prog 382 [aggD (pv t), .i n] (.b (allOk t n)) := by
  refine Fn_of tt_ok Tryz.func382 rfl (by decide) Tryz.ntmps382 rfl ?_
  have h := top_Check t
  have e : (List.map Node.cs t).length = t.length := by simp
  have hi : isN t n = decide (0 ≤ n ∧ n < t.length) := by unfold isN; rfl
  unfold allOk
  rw [hi]
  cases hm : mayB t
  all_goals rw [hm] at h
  all_goals repeat' ((conv => whnf); (first
   | (refine Br_dec (fun h => ?_) (fun h => ?_))
   | (refine Len_in (fun hlen => ?_))
   | (refine Fn.use (h) rfl rfl ?_)
   | (refine fin0 rfl ?_)))
  all_goals (simp only [AV.d.injEq, D.bool.injEq] at *; grind)
theorem inert_may (t : Tree) (n : Int) : Fn Tryz.prog 386 [aggD (pv t), .i n] (.b (allOk t n)) := by
  refine Fn_of tt_ok Tryz.func386 rfl (by decide) Tryz.ntmps386 rfl ?_
  have h := top_Check t
  have e : (List.map Node.cs t).length = t.length := by simp
  have hi : isN t n = decide (0 ≤ n ∧ n < t.length) := by unfold isN; rfl
  unfold allOk
  rw [hi]
  cases hm : mayB t
  all_goals rw [hm] at h
  all_goals repeat' ((conv => whnf); (first
   | (refine Br_dec (fun h => ?_) (fun h => ?_))
   | (refine Len_in (fun hlen => ?_))
   | (refine Fn.use (h) rfl rfl ?_)
   | (refine fin0 rfl ?_)))
  all_goals (simp only [AV.d.injEq, D.bool.injEq] at *; grind)
theorem indexFunc_shn0 (g : FuncId) (fs cs : List AV) (H : Heap) : Tri Tryz.prog 333 [.d (shnD []), .clos (.func g) fs cs] H fun v H' => v = .i (-1) ∧ H' = H := by
  refine Tri_of (m := H.length) tt_ok Tryz.func333 rfl (by decide) Tryz.ntmps333 (by rfl) rfl ?_
  repeat' ((conv => whnf); (first
   | (refine Len_in (fun hlen => ?_))))
  refine W_loop (fun μ s => s = ⟨[(7, .i 0), (8, .i 0)], 19, H, H.length, []⟩) 0 ⟨_, ?_, rfl⟩ ?_
  · exact Wk_env (by repeat (first | exact trivial | refine ⟨rfl, ?_⟩))
  rintro μ s1 rfl
  refine W_run tt_ok ?_
  repeat' ((conv => whnf); (first
   | (refine finR ?_)))
  rfl
theorem containsFunc_shn0 (g : FuncId) (fs cs : List AV) (H : Heap) : Tri Tryz.prog 278 [.d (shnD []), .clos (.func g) fs cs] H fun v H' => v = .b false ∧ H' = H := by
  refine Tri_of (m := H.length) tt_ok Tryz.func278 rfl (by decide) Tryz.ntmps278 (by rfl) rfl ?_
  repeat' ((conv => whnf); (first
   | (refine Tri.use (indexFunc_shn0 g fs cs H) ?_)
   | (refine finR ?_)))
  rfl
theorem render_own (t : Tree) (n : Int) (hn : isN t n = true) : Fn Tryz.prog 385 [aggD (pv t), .i n] (.b (ownB t n)) := by
  refine Fn_of tt_ok Tryz.func385 rfl (by decide) Tryz.ntmps385 rfl ?_
  have h2 := attr_Has t n 2
  have h6 := attr_Has t n 6
  have hc := contains_int [] n
  unfold ownB tagB
  generalize (getP t n 2).2 = b2 at *
  generalize (getP t n 6).2 = b6 at *
  cases b2
  · by_cases hk : (nd t n).kind = 1
    · by_cases hg : (nd t n).tag = 2
      · repeat' ((conv => whnf); (first
       | (refine Br_true (beqT (by omega)) ?_)
       | (refine Fn.use (h2) rfl rfl ?_)
       | (refine Fn.use (hc) rfl rfl ?_)
       | (refine Idx_nd hn rfl ?_)
       | (refine fin0 rfl ?_)))
        all_goals (first | (simp [hk, hg]; done) | (exfalso; omega))
      · cases b6
        all_goals repeat' ((conv => whnf); (first
         | (refine Br_true (beqT (by omega)) ?_)
         | (refine Br_false (beqF (by omega)) ?_)
         | (refine Fn.use (h2) rfl rfl ?_)
         | (refine Fn.use (hc) rfl rfl ?_)
         | (refine Idx_nd hn rfl ?_)
         | (refine Fn.use (h6) rfl rfl ?_)
         | (refine Tri.use (containsFunc_shn0 _ _ _ _) ?_)
         | (refine fin0 rfl ?_)))
        all_goals (first | (simp [hk, hg]; done) | (exfalso; omega))
    · cases b6
      all_goals repeat' ((conv => whnf); (first
       | (refine Br_false (beqF (by omega)) ?_)
       | (refine Fn.use (h2) rfl rfl ?_)
       | (refine Fn.use (hc) rfl rfl ?_)
       | (refine Idx_nd hn rfl ?_)
       | (refine Fn.use (h6) rfl rfl ?_)
       | (refine Tri.use (containsFunc_shn0 _ _ _ _) ?_)
       | (refine fin0 rfl ?_)))
      all_goals (first | (simp [hk]; done) | (exfalso; omega))
  · repeat' ((conv => whnf); (first
   | (refine Fn.use (h2) rfl rfl ?_)
   | (refine fin0 rfl ?_)))
    rfl
theorem render_Is1 (t : Tree) (k : Int) (hk : isN t k = true) : Tri Tryz.prog 384 ([] ++ [.i k] ++ [.ptr 0 0]) [some (.row ((pv t).map .d))] fun v H' => v = .b (!ownB t k) ∧ H' = [some (.row ((pv t).map .d))] := by
  refine Tri_of (m := 1) tt_ok Tryz.func384 rfl (by decide) Tryz.ntmps384 (by rfl) rfl ?_
  repeat' ((conv => whnf); (first
   | (refine Fn.use (render_own t k hk) rfl rfl ?_)
   | (refine finT rfl rfl (by repeat (first | exact trivial | refine ⟨⟨rfl, rfl⟩, ?_⟩)) ?_)))
  rfl
theorem render_Is (t : Tree) (n : Int) (L : List Int) (hL : FUp t n L) (hN : ∀ k ∈ L, isN t k = true) : Fn Tryz.prog 362 [aggD (pv t), .i n] (.b (rendB t n L)) := by
  refine Fn_of tt_ok Tryz.func362 rfl (by decide) Tryz.ntmps362 rfl ?_
  have h1 := render_may t n
  have h2 := flat_Has t n L hL
  have h3 := flat_Up t n L hL
  have h4 := containsFunc_int L 384 [] [.ptr 0 0] [some (.row ((pv t).map .d))] (fun k => !ownB t k) (fun k hk => render_Is1 t k (hN k hk))
  unfold rendB
  cases ha : allOk t n
  · rw [ha] at h1
    repeat' ((conv => whnf); (first
     | (refine Fn.use (h1) rfl rfl ?_)
     | (refine fin0 rfl ?_)))
    rfl
  rw [ha] at h1
  cases h0 : L.any (· == 0)
  · rw [h0] at h2
    repeat' ((conv => whnf); (first
     | (refine Fn.use (h1) rfl rfl ?_)
     | (refine Fn.use (h2) rfl rfl ?_)
     | (refine fin0 rfl ?_)))
    rfl
  rw [h0] at h2
  have e : L.all (ownB t) = !(L.any fun k => !ownB t k) := by simp [List.all_eq_not_any_not]
  rw [e]
  generalize (L.any fun k => !ownB t k) = b at *
  repeat' ((conv => whnf); (first
   | (refine Fn.use (h1) rfl rfl ?_)
   | (refine Fn.use (h2) rfl rfl ?_)
   | (refine Fn.use (h3) rfl rfl ?_)
   | (refine Tri.use h4 ?_)
   | (refine fin0 rfl ?_)))
  rfl
theorem inert_Blocked (t : Tree) (n : Int) : Fn Tryz.prog 387 [aggD (pv t), .i n] (.b false) := by
  refine Fn_of tt_ok Tryz.func387 rfl (by decide) Tryz.ntmps387 rfl ?_
  have h1 := inert_may t n
  cases ha : allOk t n
  · rw [ha] at h1
    repeat' ((conv => whnf); (first
     | (refine Fn.use (h1) rfl rfl ?_)
     | (refine fin0 rfl ?_)))
    rfl
  rw [ha] at h1
  have hm : mayB t = true := by unfold allOk at ha; simp at ha; exact ha.1
  have h2 := top_Highest t hm
  repeat' ((conv => whnf); (first
   | (refine Br_beq (fun h => ?_) (fun h => ?_))
   | (refine Fn.use (h1) rfl rfl ?_)
   | (refine Fn.use (h2) rfl rfl ?_)
   | (refine fin0 rfl ?_)))
  all_goals rfl
theorem inert_marked (t : Tree) (n : Int) (hm : mayB t = true) (L : List Int) (hL : FUp t n L) (hl : L.length ≤ 1000) (hN : ∀ k ∈ L, isN t k = true) : Fn Tryz.prog 388 [aggD (pv t), .i n] (.b (L.any fun k => (getP t k 3).2)) := by
  refine Fn_of tt_ok Tryz.func388 rfl (by decide) Tryz.ntmps388 rfl ?_
  have h1 := top_Highest t hm
  have h2 := flat_Up t n L hL
  have hkl : (List.map intCs L).length = L.length := by simp
  refine W_scope 0 (fun _ _ => False) rfl ?_ (fun _ _ h => h.elim)
  refine W_run tt_ok ?_
  repeat' ((conv => whnf); (first
   | (refine Len_in (fun hlen => ?_))
   | (refine Fn.use (h1) rfl rfl ?_)
   | (refine Fn.use (h2) rfl rfl ?_)))
  refine W_loop (fun μ s => ∃ (j : Nat) (b : Bool), j ≤ L.length ∧ μ = L.length - j ∧ (L.take j).any (fun k => (getP t k 3).2) = false ∧ b = false ∧
      s = ⟨[(2, .ptr 0 0), (5, .i (-1)), (6, .b b), (14, .d (ints L)), (15, .i (List.map intCs L).length), (16, .i j)], 32, [some (.row ((pv t).map .d))], 0, []⟩) L.length
    ⟨_, ?_, 0, false, by omega, by omega, by simp, rfl, rfl⟩ ?_
  · exact Wk_env (by repeat (first | exact trivial | refine ⟨rfl, ?_⟩))
  rintro μ s1 ⟨j, b, hj, rfl, hno, rfl, rfl⟩
  refine W_run tt_ok ?_
  by_cases hlt : j < L.length
  · have hidx : (L.map intCs)[(j : Int).toNat]? = some (intCs L[j]) := by simp [hlt]
    have htk : L.take (j + 1) = L.take j ++ [L[j]] := List.take_succ_eq_append_getElem hlt
    have hA := attr_Has t L[j] 3
    have hp := nd_pos (hN _ (List.getElem_mem hlt))
    have hany : (getP t L[j] 3).2 = true → L.any (fun k => (getP t k 3).2) = true := fun h => List.any_eq_true.2 ⟨_, List.getElem_mem hlt, h⟩
    generalize hq : (getP t L[j] 3).2 = q at *
    cases q
    · have hno' : (L.take (j + 1)).any (fun k => (getP t k 3).2) = false := by rw [htk, List.any_append, hno]; simp [hq]
      repeat' ((conv => whnf); (first
       | (refine Br_false (beqF (by omega)) ?_)
       | (refine Br_true (decide_eq_true (by omega)) ?_)
       | (refine Idx_in _ hidx (by omega) rfl ?_)
       | (refine Fn.use (hA) rfl rfl ?_)
       | (refine Back_in _ _ ⟨j + 1, false, by omega, rfl, hno', rfl, rfl⟩ (by omega) (Wk_env (by repeat (first | exact trivial | refine ⟨rfl, ?_⟩))))
       | (refine ArK_in (wrap_i64 (by omega) (by omega)) ?_)))
      all_goals (exfalso; omega)
    · rw [hany rfl]
      repeat' ((conv => whnf); (first
       | (refine Br_true (decide_eq_true (by omega)) ?_)
       | (refine Idx_in _ hidx (by omega) rfl ?_)
       | (refine Fn.use (hA) rfl rfl ?_)
       | (refine fin0 rfl ?_)))
      all_goals rfl
  · have : L.take j = L := List.take_of_length_le (by omega)
    rw [this] at hno
    rw [hno]
    repeat' ((conv => whnf); (first
     | (refine Br_false (decide_eq_false (by omega)) ?_)
     | (refine fin0 rfl ?_)))
    rfl
theorem inert_Is (t : Tree) (n : Int) (L : List Int) (hL : FUp t n L) (hl : L.length ≤ 1000) (hN : ∀ k ∈ L, isN t k = true) : Fn Tryz.prog 363 [aggD (pv t), .i n] (.b (inertB t n L)) := by
  refine Fn_of tt_ok Tryz.func363 rfl (by decide) Tryz.ntmps363 rfl ?_
  have h1 := inert_may t n
  have h2 := inert_Blocked t n
  unfold inertB
  cases ha : allOk t n
  · rw [ha] at h1
    repeat' ((conv => whnf); (first
     | (refine Fn.use (h1) rfl rfl ?_)
     | (refine fin0 rfl ?_)))
    rfl
  rw [ha] at h1
  have hm : mayB t = true := by unfold allOk at ha; simp at ha; exact ha.1
  have h3 := inert_marked t n hm L hL hl hN
  repeat' ((conv => whnf); (first
   | (refine Fn.use (h1) rfl rfl ?_)
   | (refine Fn.use (h2) rfl rfl ?_)
   | (refine Fn.use (h3) rfl rfl ?_)
   | (refine fin0 rfl ?_)))
  rfl
end Go.Eng
set_option maxRecDepth 100000
set_option linter.unusedVariables false
set_option linter.unusedSimpArgs false
namespace Go.Eng
open Go Go.Proofs
theorem indexFunc_fns (cs : List AV) (bs : List Bool) (hlen : cs.length = bs.length) (hl : cs.length ≤ 100) (g : FuncId)
    (hc : ∀ (k : Nat) (h : k < cs.length), Tri Tryz.prog g [cs[k]] [some (.row cs)] fun v H => v = .b (bs[k]'(by omega)) ∧ H = [some (.row cs)]) :
    Tri Tryz.prog 359 [.msl 0 0 cs.length cs.length 1, .d (.fn g)] [some (.row cs)] fun v H => v = .i (ix id bs) ∧ H = [some (.row cs)] := by
  refine Tri_of (m := 1) tt_ok Tryz.func359 rfl (by decide) Tryz.ntmps359 (by rfl) rfl ?_
  repeat' ((conv => whnf); (first
   | (refine Len_in (fun hlen => ?_))))
  refine W_loop (fun μ s => ∃ (k : Nat), k ≤ cs.length ∧ μ = cs.length - k ∧ (∀ j (h : j < bs.length), j < k → id bs[j] = false) ∧
      s = ⟨[(0, .msl 0 0 cs.length cs.length 1), (1, .d (.fn g)), (7, .i cs.length), (8, .i k)], 19, [some (.row cs)], 1, []⟩) cs.length
    ⟨_, ?_, 0, by simp, by simp, by simp, rfl⟩ ?_
  · exact Wk_env (by repeat (first | exact trivial | refine ⟨rfl, ?_⟩))
  rintro μ s1 ⟨k, hk, rfl, hno, rfl⟩
  refine W_run tt_ok ?_
  by_cases hlt : k < cs.length
  · have hcell : cs[0 + (k : Int).toNat * 1]? = some cs[k] := by
      rw [show 0 + (k : Int).toNat * 1 = k by omega]; exact List.getElem?_eq_getElem hlt
    have h1 := hc k hlt
    have hd := ix_drop id bs k hno (by omega)
    rw [List.drop_eq_getElem_cons (by omega)] at hd
    generalize hb : bs[k]'(by omega) = b at *
    cases b
    · have hno' : ∀ j (h : j < bs.length), j < k + 1 → id bs[j] = false := fun j hj hjk => by
        rcases Nat.lt_succ_iff_lt_or_eq.1 hjk with h1 | h1
        · exact hno j hj h1
        · subst h1; exact hb
      repeat' ((conv => whnf); (first
       | (refine Br_true (decide_eq_true (by omega)) ?_)
       | (refine Cell_in _ hcell ?_)
       | (refine Tri.use h1 ?_)
       | (refine Back_in _ _ ⟨k + 1, by omega, rfl, hno', rfl⟩ (by omega) (Wk_env (by repeat (first | exact trivial | refine ⟨rfl, ?_⟩))))
       | (refine ArK_in (wrap_i64 (by omega) (by omega)) ?_)
       | (refine force_in ?_)))
    · repeat' ((conv => whnf); (first
     | (refine Br_true (decide_eq_true (by omega)) ?_)
     | (refine Cell_in _ hcell ?_)
     | (refine Tri.use h1 ?_)
     | (refine finR ?_)
     | (refine force_in ?_)))
      simp only [AV.d.injEq, D.int.injEq, true_and, hd, ix]
      simp
  · have hd := ix_drop id bs k hno (by omega)
    rw [List.drop_eq_nil_of_le (by omega)] at hd
    repeat' ((conv => whnf); (first
     | (refine Br_false (decide_eq_false (by omega)) ?_)
     | (refine finR ?_)))
    simp [hd, ix]
theorem containsFunc_fns (cs : List AV) (bs : List Bool) (hlen : cs.length = bs.length) (hl : cs.length ≤ 100) (g : FuncId)
    (hc : ∀ (k : Nat) (h : k < cs.length), Tri Tryz.prog g [cs[k]] [some (.row cs)] fun v H => v = .b (bs[k]'(by omega)) ∧ H = [some (.row cs)]) :
    Tri Tryz.prog 321 [.msl 0 0 cs.length cs.length 1, .d (.fn g)] [some (.row cs)] fun v H => v = .b (decide (0 ≤ ix id bs)) ∧ H = [some (.row cs)] := by
  refine Tri_of (m := 1) tt_ok Tryz.func321 rfl (by decide) Tryz.ntmps321 (by rfl) rfl ?_
  have h := indexFunc_fns cs bs hlen hl g hc
  generalize ix id bs = i at *
  repeat' ((conv => whnf); (first
   | (refine Tri.use h ?_)
   | (refine finR ?_)))
  rfl
theorem area_is1 (f : FuncId) (t : Tree) (n : Int) (b : Bool) (h : Fn Tryz.prog f [aggD (ndC t n)] (.b b)) : Fn Tryz.prog 327 [.clos (.func f) [aggD (ndC t n)] []] (.b b) := by
  refine Fn_of tt_ok Tryz.func327 rfl (by decide) Tryz.ntmps327 rfl ?_
  repeat' ((conv => whnf); (first
   | (refine Fn.use (h) rfl rfl ?_)
   | (refine fin0 rfl ?_)))
  rfl
theorem area_unseen (t : Tree) (n : Int) (L : List Int) (hL : FUp t n L) (hN : ∀ k ∈ L, isN t k = true) : Fn Tryz.prog 325 [aggD (ndC t n)] (.b (!rendB t n L)) := by
  refine Fn_of tt_ok Tryz.func325 rfl (by decide) Tryz.ntmps325 rfl ?_
  have h := render_Is t n L hL hN
  repeat' ((conv => whnf); (first
   | (refine Fn.use (h) rfl rfl ?_)
   | (refine fin0 rfl ?_)))
  rfl
theorem area_inert (t : Tree) (n : Int) (L : List Int) (hL : FUp t n L) (hl : L.length ≤ 1000) (hN : ∀ k ∈ L, isN t k = true) : Fn Tryz.prog 326 [aggD (ndC t n)] (.b (inertB t n L)) := by
  refine Fn_of tt_ok Tryz.func326 rfl (by decide) Tryz.ntmps326 rfl ?_
  have h := inert_Is t n L hL hl hN
  repeat' ((conv => whnf); (first
   | (refine Fn.use (h) rfl rfl ?_)
   | (refine fin0 rfl ?_)))
  rfl
theorem area_is (t : Tree) (n : Int) (ha : allOk t n = true) (L : List Int) (hL : FUp t n L) (hl : L.length ≤ 1000) (hN : ∀ k ∈ L, isN t k = true) : Fn Tryz.prog 269 [aggD (ndC t n)] (.b (areaB t n L)) := by
  refine Fn_of tt_ok Tryz.func269 rfl (by decide) Tryz.ntmps269 rfl ?_
  have hn : isN t n = true := by unfold allOk at ha; simp at ha; exact ha.2
  have h1 := area_is1 _ t n _ (area_plain t n hn)
  have h2 := area_is1 _ t n _ (area_disabled t n hn)
  have h3 := area_is1 _ t n _ (area_delegates t n hn)
  have h4 := area_is1 _ t n _ (area_unseen t n L hL hN)
  have h5 := area_is1 _ t n _ (area_inert t n L hL hl hN)
  have hb : areaB t n L = !decide (0 ≤ ix id [!tixB t n, disB t n, delB t n, !rendB t n L, inertB t n L]) := by
    unfold areaB
    rw [ha]
    cases tixB t n <;> cases disB t n <;> cases delB t n <;> cases rendB t n L <;> cases inertB t n L <;> rfl
  have hc := containsFunc_fns [.clos (.func 322) [aggD (ndC t n)] [], .clos (.func 323) [aggD (ndC t n)] [], .clos (.func 324) [aggD (ndC t n)] [],
      .clos (.func 325) [aggD (ndC t n)] [], .clos (.func 326) [aggD (ndC t n)] []] [!tixB t n, disB t n, delB t n, !rendB t n L, inertB t n L] rfl (by simp) 327 (fun k h => by
    match k, h with
    | 0, _ => exact Fn.use h1 rfl rfl ⟨rfl, rfl⟩
    | 1, _ => exact Fn.use h2 rfl rfl ⟨rfl, rfl⟩
    | 2, _ => exact Fn.use h3 rfl rfl ⟨rfl, rfl⟩
    | 3, _ => exact Fn.use h4 rfl rfl ⟨rfl, rfl⟩
    | 4, _ => exact Fn.use h5 rfl rfl ⟨rfl, rfl⟩
    | k + 5, h => exact absurd h (by simp))
  rw [hb]
  generalize decide (0 ≤ ix id [!tixB t n, disB t n, delB t n, !rendB t n L, inertB t n L]) = b at *
  skip
  refine Ch_l ?_
  repeat' ((conv => whnf); (first
   | (refine Tri.call hc [1] rfl rfl ⟨⟨rfl, rfl⟩, trivial⟩ rfl rfl rfl rfl rfl rfl ?_)
   | (refine fin0 rfl ?_)))
  rfl
theorem area_Is (t : Tree) (n : Int) (L : List Int) (hL : FUp t n L) (hl : L.length ≤ 1000) (hN : ∀ k ∈ L, isN t k = true) : Fn Tryz.prog 195 [aggD (pv t), .i n] (.b (areaB t n L)) := by
  refine Fn_of tt_ok Tryz.func195 rfl (by decide) Tryz.ntmps195 rfl ?_
  have h1 := area_of t n
  have h2 := top_Check t
  cases ha : allOk t n
  · have e : areaB t n L = false := by unfold areaB; rw [ha]; rfl
    rw [ha] at h1
    rw [e]
    repeat' ((conv => whnf); (first
     | (refine Fn.use (h1) rfl rfl ?_)
     | (refine fin0 rfl ?_)))
    rfl
  rw [ha] at h1
  have hm : mayB t = true := by unfold allOk at ha; simp at ha; exact ha.1
  rw [hm] at h2
  have h3 := area_is t n ha L hL hl hN
  generalize areaB t n L = b at *
  repeat' ((conv => whnf); (first
   | (refine Fn.use (h1) rfl rfl ?_)
   | (refine Fn.use (h2) rfl rfl ?_)
   | (refine Fn.use (h3) rfl rfl ?_)
   | (refine fin0 rfl ?_)))
  rfl
def giveR (t : Tree) (n : Int) (L : List Int) : Int := if areaB t n L then n else -1
def givC (t : Tree) (b : Nat) : List AV := (pv t).map .d ++ [.mp b]
theorem giver_area (t : Tree) (n : Int) (L : List Int) (hL : FUp t n L) (hl : L.length ≤ 1000) (hN : ∀ k ∈ L, isN t k = true) (hd : areaB t n L = true ∨ (allOk t n && delB t n) = false) :
    Tri Tryz.prog 243 [.agg (givC t 0), .i n] [some (.mp [] [])] fun v H => v = .i (giveR t n L) ∧ H = [some (.mp [] [])] := by
  refine Tri_of (m := 1) tt_ok Tryz.func243 rfl (by decide) Tryz.ntmps243 (by rfl) rfl ?_
  have h1 := area_Is t n L hL hl hN
  have h2 := area_Delegates t n
  unfold giveR
  cases ha : areaB t n L
  · rw [ha] at h1
    rw [hd.resolve_left (by rw [ha]; simp)] at h2
    repeat' ((conv => whnf); (first
     | (refine Fn.use (h1) rfl rfl ?_)
     | (refine Fn.use (h2) rfl rfl ?_)
     | (refine finT rfl rfl (by repeat (first | exact trivial | refine ⟨⟨rfl, rfl⟩, ?_⟩)) ?_)))
    rfl
  · rw [ha] at h1
    repeat' ((conv => whnf); (first
     | (refine Fn.use (h1) rfl rfl ?_)
     | (refine finT rfl rfl (by repeat (first | exact trivial | refine ⟨⟨rfl, rfl⟩, ?_⟩)) ?_)))
    rfl
theorem give_to (t : Tree) (n : Int) (L : List Int) (hL : FUp t n L) (hl : L.length ≤ 1000) (hN : ∀ k ∈ L, isN t k = true) (hd : areaB t n L = true ∨ (allOk t n && delB t n) = false) :
    Fn Tryz.prog 242 [aggD (pv t), .i n, .d (.fn 243)] (.i (giveR t n L)) := by
  refine Fn_of tt_ok Tryz.func242 rfl (by decide) Tryz.ntmps242 rfl ?_
  have h1 := top_Check t
  have h2 := giver_area t n L hL hl hN hd
  have e : (List.map Node.cs t).length = t.length := by simp
  by_cases ha : allOk t n = true
  · have ha' := ha
    unfold allOk at ha'
    simp only [Bool.and_eq_true] at ha'
    rw [ha'.1] at h1
    have hn := nd_pos ha'.2
    have hl2 := (nd_get ha'.2).1
    repeat' ((conv => whnf); (first
     | (refine Br_false (decide_eq_false (by omega)) ?_)
     | (refine Len_in (fun hlen => ?_))
     | (refine Fn.use (h1) rfl rfl ?_)
     | (refine Tri.call h2 [1] rfl rfl ⟨⟨rfl, rfl⟩, trivial⟩ rfl rfl rfl rfl rfl rfl ?_)
     | (refine fin0 rfl ?_)))
    all_goals (first | rfl | (exfalso; omega))
  · have hf : allOk t n = false := by simpa using ha
    have e2 : giveR t n L = -1 := by unfold giveR areaB; rw [hf]; rfl
    rw [e2]
    unfold allOk at hf
    cases hm : mayB t
    · rw [hm] at h1
      repeat' ((conv => whnf); (first
       | (refine Fn.use (h1) rfl rfl ?_)
       | (refine fin0 rfl ?_)))
      all_goals rfl
    · rw [hm] at h1 hf
      have hi : ¬ (0 ≤ n ∧ n < t.length) := by unfold isN at hf; simpa using hf
      repeat' ((conv => whnf); (first
       | (refine Br_true (decide_eq_true (by omega)) ?_)
       | (refine Br_dec (fun h => ?_) (fun h => ?_))
       | (refine Len_in (fun hlen => ?_))
       | (refine Fn.use (h1) rfl rfl ?_)
       | (refine fin0 rfl ?_)))
      all_goals (first | rfl | (exfalso; omega))
theorem give_Area (t : Tree) (n : Int) (L : List Int) (hL : FUp t n L) (hl : L.length ≤ 1000) (hN : ∀ k ∈ L, isN t k = true) (hd : areaB t n L = true ∨ (allOk t n && delB t n) = false) :
    Fn Tryz.prog 184 [aggD (pv t), .i n] (.i (giveR t n L)) := by
  refine Fn_of tt_ok Tryz.func184 rfl (by decide) Tryz.ntmps184 rfl ?_
  have h := give_to t n L hL hl hN hd
  repeat' ((conv => whnf); (first
   | (refine Fn.use (h) rfl rfl ?_)
   | (refine fin0 rfl ?_)))
  rfl
end Go.Eng
set_option maxRecDepth 100000
set_option linter.unusedVariables false
set_option linter.unusedSimpArgs false
namespace Go.Eng
open Go Go.Proofs
theorem chain_is (t : Tree) (a b : Int) : Fn Tryz.prog 84 [.d (treeD t), .i a, .i b] (.b (allOk t a && allOk t b)) := by
  refine Fn_of tt_ok Tryz.func84 rfl (by decide) Tryz.ntmps84 rfl ?_
  have h1 := order_Top t a
  have h2 := order_Top t b
  cases ha : allOk t a
  · rw [topR_none ha] at h1
    repeat' ((conv => whnf); (first
     | (refine Fn.use (h1) rfl rfl ?_)
     | (refine fin0 rfl ?_)))
    rfl
  have p1 := nd_pos (topR_isN ha)
  cases hb : allOk t b
  · rw [topR_none hb] at h2
    repeat' ((conv => whnf); (first
     | (refine Br_true (bneT (by omega)) ?_)
     | (refine Fn.use (h1) rfl rfl ?_)
     | (refine Fn.use (h2) rfl rfl ?_)
     | (refine fin0 rfl ?_)))
    all_goals (first | rfl | (exfalso; omega))
  have p2 := nd_pos (topR_isN hb)
  generalize topR t a = x at *
  generalize topR t b = y at *
  have hx : x ≠ -1 := by omega
  have hy : y ≠ -1 := by omega
  repeat' ((conv => whnf); (first
   | (refine Br_true (bneT (by omega)) ?_)
   | (refine Fn.use (h1) rfl rfl ?_)
   | (refine Fn.use (h2) rfl rfl ?_)
   | (refine fin0 rfl ?_)))
  all_goals (first | rfl | (exfalso; omega) | (simp; omega) | simp_all)
def chainR (t : Tree) (n : Int) : List Int := if allOk t n = false then [] else if n = 0 then [0] else [n, 0]
theorem chain_Chain (t : Tree) (n : Int) : Fn Tryz.prog 61 [.d (treeD t), .i n] (.d (ints (chainR t n))) := by
  refine Fn_of tt_ok Tryz.func61 rfl (by decide) Tryz.ntmps61 rfl ?_
  have h1 := chain_is t n n
  unfold chainR
  cases ha : allOk t n
  · rw [ha] at h1
    repeat' ((conv => whnf); (first
     | (refine Fn.use (h1) rfl rfl ?_)
     | (refine finD (F := []) .nsl)))
  rw [ha] at h1
  rw [if_neg (by simp)]
  by_cases h0 : n = 0
  · subst h0
    rw [if_pos rfl]
    repeat' ((conv => whnf); (first
     | (refine Fn.use (h1) rfl rfl ?_)
     | (refine Need_in ⟨Nat.le_of_ble_eq_true rfl, Nat.le_of_ble_eq_true rfl, by omega, by omega⟩ ?_)))
    conv => whnf
    refine finD (F := [0]) (.frz 0 1 1 1 1 [.i 0, .i 0] [intCs 0] (by simp) rfl rfl ?_ ?_ ?_)
    · intro r hr
      simp at hr
      subst hr
      rfl
    · simp
    · intro i x y hi hx hy
      match i with
      | 0 => simp [intCs] at hx hy; subst hx hy; exact .same _ rfl
      | i + 1 => simp [intCs] at hy
  · rw [if_neg h0]
    repeat' ((conv => whnf); (first
     | (refine Br_false (beqF (by omega)) ?_)
     | (refine Fn.use (h1) rfl rfl ?_)
     | (refine Need_in (Nat.le_of_ble_eq_true rfl) ?_)
     | (refine finD (F := [0]) (FV_tab ([n, 0].map intCs) rfl rfl rfl cs1))))
abbrev evsD (l : List Ev) : D := .sl (l.map Ev.cs)
theorem cs6e {l : List Ev} : ∀ r ∈ l.map Ev.cs, r.length = 6 := by
  intro r hr; obtain ⟨x, _, rfl⟩ := List.mem_map.1 hr; rfl
def relR (n : Int) : Int := if n = 0 then -1 else n
def pairR (k0 k1 tg rl : Int) : List Ev := [⟨k0, tg, relR rl, false, false, true⟩, ⟨k1, tg, relR rl, true, false, true⟩]
abbrev evC (k tg rl : Int) (b : Bool) : List AV := [.i k, .i tg, .i rl, .b b, .b false, .b true]
abbrev evZ : List AV := [.i 0, .i 0, .i 0, .b false, .b false, .b false]
theorem chain_pair (k0 k1 tg rl : Int) : Fn Tryz.prog 244 [.agg [.i k0, .i k1], .i tg, .i rl] (.d (evsD (pairR k0 k1 tg rl))) := by
  refine Fn_of tt_ok Tryz.func244 rfl (by decide) Tryz.ntmps244 rfl ?_
  unfold pairR
  by_cases hr : rl = 0
  all_goals
    repeat' ((conv => whnf); (first
     | (refine Br_true (beqT (by omega)) ?_)
     | (refine Br_false (beqF (by omega)) ?_)))
    refine W_loop (fun μ s => (μ = 2 ∧ s = ⟨[(1, .i tg), (2, .i (relR rl)), (7, .ptr 1 0), (12, .agg [.i k0, .i k1]), (13, .i 0)], 27, [some (.row [.i k0, .i k1]), some (.row (evZ ++ evZ))], 0, []⟩) ∨
      (μ = 1 ∧ s = ⟨[(1, .i tg), (2, .i (relR rl)), (7, .ptr 1 0), (12, .agg [.i k0, .i k1]), (13, .i 1)], 27, [some (.row [.i k0, .i k1]), some (.row (evC k0 tg (relR rl) false ++ evZ))], 0, []⟩) ∨
      (μ = 0 ∧ s = ⟨[(1, .i tg), (2, .i (relR rl)), (7, .ptr 1 0), (12, .agg [.i k0, .i k1]), (13, .i 2)], 27, [some (.row [.i k0, .i k1]), some (.row (evC k0 tg (relR rl) false ++ evC k1 tg (relR rl) true))], 0, []⟩)) 2 ⟨_, ?_, .inl ⟨rfl, rfl⟩⟩ ?_
    · have e : relR rl = (if rl = 0 then -1 else rl) := rfl
      rw [e]
      first
        | rw [if_pos hr]
        | rw [if_neg hr]
      exact Wk_env (by repeat (first | exact trivial | refine ⟨rfl, ?_⟩))
    generalize relR rl = r
    rintro μ s1 (⟨rfl, rfl⟩ | ⟨rfl, rfl⟩ | ⟨rfl, rfl⟩)
    · refine W_run tt_ok ?_
      repeat' ((conv => whnf); (first
       | (refine Back_in _ 1 (.inr (.inl ⟨rfl, rfl⟩)) (by omega) (Wk_env (by repeat (first | exact trivial | refine ⟨rfl, ?_⟩))))
       | (refine ArK_in (wrap_i64 (by omega) (by omega)) ?_)))
    · refine W_run tt_ok ?_
      repeat' ((conv => whnf); (first
       | (refine Back_in _ 0 (.inr (.inr ⟨rfl, rfl⟩)) (by omega) (Wk_env (by repeat (first | exact trivial | refine ⟨rfl, ?_⟩))))
       | (refine ArK_in (wrap_i64 (by omega) (by omega)) ?_)))
    · refine W_run tt_ok ?_
      repeat' ((conv => whnf); (first
       | (refine Need_in (Nat.le_of_ble_eq_true rfl) ?_)))
      conv => whnf
      exact finD (F := [1]) (FV_tab (sz := 6) [[.int .i64 k0, .int .i64 tg, .int .i64 r, .bool false, .bool false, .bool true], [.int .i64 k1, .int .i64 tg, .int .i64 r, .bool true, .bool false, .bool true]] rfl rfl rfl (by intro x hx; simp at hx; rcases hx with rfl | rfl <;> rfl))
end Go.Eng
set_option maxRecDepth 100000
set_option linter.unusedVariables false
set_option linter.unusedSimpArgs false
namespace Go.Eng
open Go Go.Proofs
def evtsR (t : Tree) (old next : Int) : List Ev :=
  if (allOk t old && allOk t next) = false then [] else
    (if old ≠ next ∧ old ≠ 0 then pairR 1 3 old next else []) ++ (if old ≠ next ∧ next ≠ 0 then pairR 0 2 next old else [])
theorem chain_Events (t : Tree) (old next : Int) : Fn Tryz.prog 185 [.d (treeD t), .i old, .i next] (.d (evsD (evtsR t old next))) := by
  refine Fn_of tt_ok Tryz.func185 rfl (by decide) Tryz.ntmps185 rfl ?_
  have h1 := chain_is t old next
  unfold evtsR
  cases hb : (allOk t old && allOk t next)
  · rw [hb] at h1
    repeat' ((conv => whnf); (first
     | (refine Fn.use (h1) rfl rfl ?_)
     | (refine finD (F := []) .nsl)))
  rw [hb] at h1
  rw [if_neg (by simp)]
  simp only [Bool.and_eq_true] at hb
  have hA := chain_Chain t old
  have hB := chain_Chain t next
  have hp1 := chain_pair 1 3 old next
  have hp2 := chain_pair 0 2 next old
  have eA : chainR t old = if old = 0 then [0] else [old, 0] := by unfold chainR; rw [if_neg (by rw [hb.1]; simp)]
  have eB : chainR t next = if next = 0 then [0] else [next, 0] := by unfold chainR; rw [if_neg (by rw [hb.2]; simp)]
  rw [eA] at hA
  rw [eB] at hB
  by_cases h0 : old = 0
  · by_cases hn : next = 0
    · subst h0 hn
      rw [if_neg (by simp), if_neg (by simp)]
      rw [if_pos rfl] at hA hB
      have e1 : (List.map intCs [0]).length = 1 := rfl
      have e2 : (List.map intCs []).length = 0 := rfl
      repeat' ((conv => whnf); (first
       | (refine Fn.use (h1) rfl rfl ?_)
       | (refine Fn.use (hA) rfl rfl ?_)))
      refine W_loop (fun μ s => (μ = 1 ∧ s = ⟨[(2, .i 0), (4, .ptr 0 0), (7, .d (ints [0])), (8, .d (ints [0]))], 82, [some (.row [.i 0])], 0, []⟩) ∨ (μ = 0 ∧ s = ⟨[(2, .i 0), (4, .ptr 0 0), (7, .d (ints [])), (8, .d (ints []))], 82, [some (.row [.i 0])], 0, []⟩)) 1 ⟨_, ?_, (.inl ⟨rfl, rfl⟩)⟩ ?_
      · exact Wk_env (by repeat (first | exact trivial | refine ⟨rfl, ?_⟩))
      rintro μ s1 (⟨rfl, rfl⟩ | ⟨rfl, rfl⟩)
      · refine W_run tt_ok ?_
        repeat' ((conv => whnf); (first
         | (refine W_draw 0 tt_ok mixed (by kernel_rfl) ?_)
         | (refine Idx_in _ rfl (by first | decide | simp | omega) rfl ?_)
         | (refine Need_in ⟨by simp, by simp, by simp, cs1⟩ ?_)
         | (refine Back_in _ 0 (.inr (⟨rfl, rfl⟩)) (by omega) (Wk_env (by repeat (first | exact trivial | refine ⟨rfl, ?_⟩))))
         | (refine ArK_in (wrap_i64 (by omega) (by omega)) ?_)))
      refine W_run tt_ok ?_
      repeat' ((conv => whnf); (first
       | (refine Len_in (fun hlen => ?_))
       | (refine W_draw 0 tt_ok mixed (by kernel_rfl) ?_)))
      refine W_loop (fun μ s => μ = 0 ∧ s = ⟨[(2, .i 0), (4, .ptr 0 0), (8, .d (ints [])), (9, .ptr 1 0), (58, .d (ints [])), (59, .i 0), (60, .i 0)], 82, [some (.row [.i 0]), some (.row [.nsl])], 0, []⟩) 0 ⟨_, ?_, ⟨rfl, rfl⟩⟩ ?_
      · exact Wk_env (by repeat (first | exact trivial | refine ⟨rfl, ?_⟩))
      rintro μ s1 ⟨rfl, rfl⟩
      refine W_run tt_ok ?_
      repeat' ((conv => whnf); (first
       | (refine Tri.call (back_int []) [] rfl rfl trivial rfl rfl rfl rfl rfl rfl ?_)))
      refine W_rangeG [2] (fs0 := []) (cs0 := [.ptr 0 0]) (H0 := [some (.row [.d (ints [])])]) (ps := [73, 74]) (backXs AV.i []) (fun k H => H = [some (.row [.i 0]), some (.row [.nsl]), none, some .dfr]) (fun _ _ => False) rfl rfl rfl
        (by repeat (first | exact trivial | refine ⟨⟨rfl, rfl⟩, ?_⟩)) rfl rfl rfl rfl (by decide) rfl (backXs_args AV.i (fun _ => rfl) []) (fun _ H => H = [some (.row [.d (ints [])]), none]) (fun Y hx hY => back_seq [] Y hx hY) rfl ?_ ?_ ?_
      · intro l k x H' hx
        simp [backXs] at hx
      · rintro H' H1 rfl rfl _ _
        repeat' ((conv => whnf); (first
         | (refine finD (F := []) .nsl)))
      · intro e H' H1 c _ h
        exact h.elim
    · subst h0
      rw [if_neg (by simp), if_pos ⟨fun h => hn h.symm, hn⟩]
      rw [if_pos rfl] at hA
      rw [if_neg hn] at hB
      have e1 : (List.map intCs [0]).length = 1 := rfl
      have e2 : (List.map intCs [next, 0]).length = 2 := rfl
      have e3 : (List.map intCs []).length = 0 := rfl
      have e4 : (List.map intCs [next]).length = 1 := rfl
      repeat' ((conv => whnf); (first
       | (refine Fn.use (h1) rfl rfl ?_)
       | (refine Fn.use (hA) rfl rfl ?_)
       | (refine Fn.use (hB) rfl rfl ?_)))
      refine W_loop (fun μ s => (μ = 1 ∧ s = ⟨[(2, .i next), (4, .ptr 0 0), (7, .d (ints [0])), (8, .d (ints [next, 0]))], 82, [some (.row [.i 0])], 0, []⟩) ∨ (μ = 0 ∧ s = ⟨[(2, .i next), (4, .ptr 0 0), (7, .d (ints [])), (8, .d (ints [next]))], 82, [some (.row [.i 0])], 0, []⟩)) 1 ⟨_, ?_, (.inl ⟨rfl, rfl⟩)⟩ ?_
      · exact Wk_env (by repeat (first | exact trivial | refine ⟨rfl, ?_⟩))
      rintro μ s1 (⟨rfl, rfl⟩ | ⟨rfl, rfl⟩)
      · refine W_run tt_ok ?_
        repeat' ((conv => whnf); (first
         | (refine W_draw 0 tt_ok mixed (by kernel_rfl) ?_)
         | (refine Idx_in _ rfl (by first | decide | simp | omega) rfl ?_)
         | (refine Need_in ⟨by simp, by simp, by simp, cs1⟩ ?_)
         | (refine Back_in _ 0 (.inr (⟨rfl, rfl⟩)) (by omega) (Wk_env (by repeat (first | exact trivial | refine ⟨rfl, ?_⟩))))
         | (refine ArK_in (wrap_i64 (by omega) (by omega)) ?_)))
      refine W_run tt_ok ?_
      repeat' ((conv => whnf); (first
       | (refine Len_in (fun hlen => ?_))
       | (refine W_draw 0 tt_ok mixed (by kernel_rfl) ?_)))
      refine W_loop (fun μ s => μ = 0 ∧ s = ⟨[(2, .i next), (4, .ptr 0 0), (8, .d (ints [next])), (9, .ptr 1 0), (58, .d (ints [])), (59, .i 0), (60, .i 0)], 82, [some (.row [.i 0]), some (.row [.nsl])], 0, []⟩) 0 ⟨_, ?_, ⟨rfl, rfl⟩⟩ ?_
      · exact Wk_env (by repeat (first | exact trivial | refine ⟨rfl, ?_⟩))
      rintro μ s1 ⟨rfl, rfl⟩
      refine W_run tt_ok ?_
      repeat' ((conv => whnf); (first
       | (refine Tri.call (back_int [next]) [] rfl rfl trivial rfl rfl rfl rfl rfl rfl ?_)))
      refine W_rangeG [2] (fs0 := []) (cs0 := [.ptr 0 0]) (H0 := [some (.row [.d (ints [next])])]) (ps := [73, 74]) (backXs AV.i [next]) (fun k H => (k = 0 ∧ H = [some (.row [.i 0]), some (.row [.nsl]), none, some .dfr]) ∨ (k = 1 ∧ H = [some (.row [.i 0]), some (.row [.msl 4 0 2 2 6]), none, some .dfr, some (.row (((pairR 0 2 next 0).map Ev.cs).flatten.map .d))])) (fun _ _ => False) rfl rfl rfl
        (by repeat (first | exact trivial | refine ⟨⟨rfl, rfl⟩, ?_⟩)) rfl rfl rfl rfl (by decide) rfl (backXs_args AV.i (fun _ => rfl) [next]) (fun _ H => H = [some (.row [.d (ints [next])]), none]) (fun Y hx hY => back_seq [next] Y hx hY) (.inl ⟨rfl, rfl⟩) ?_ ?_ ?_
      · rintro lp k x H' hx hJ hlen hY
        obtain ⟨rfl, rfl⟩ : k = 0 ∧ x = .tup [.i 0, .i next] := by
          have hk := (List.getElem?_eq_some_iff.1 hx).1
          rw [backXs_len] at hk
          simp at hk
          subst hk
          rw [backXs_get AV.i [next] (by simp)] at hx
          simp at hx
          exact ⟨rfl, hx.symm⟩
        rcases hJ with ⟨_, rfl⟩ | ⟨h, _⟩
        rotate_left
        · simp at h
        refine W_run tt_ok ?_
        skip
        refine Need_in rfl ?_
        refine W_run tt_ok ?_
        repeat' ((conv => whnf); (first
         | (refine App_nsl ((pairR 0 2 next 0).map Ev.cs) rfl rfl (by simp [pairR]) cs6e (by simp [pairR]) (Nat.le_of_ble_eq_true rfl) ?_)
         | (refine W_draw 0 tt_ok mixed (by kernel_rfl) ?_)
         | (refine CallF_in (hp2) rfl rfl ?_)))
        conv => whnf
        exact Rd_next [some (.row [.i 0]), some (.row [.msl 4 0 2 2 6]), none, some .dfr, some (.row (((pairR 0 2 next 0).map Ev.cs).flatten.map .d))] (Wk_env (by repeat (first | exact trivial | refine ⟨rfl, ?_⟩))) rfl (Nat.le_of_ble_eq_true rfl) (.inr ⟨rfl, rfl⟩)
      · rintro H' H1 hJ rfl _ _
        rcases hJ with ⟨h, _⟩ | ⟨_, rfl⟩
        · simp [backXs_len] at h
        skip
        conv => whnf
        exact finD (F := [4]) (FV_tab (sz := 6) ((pairR 0 2 next 0).map Ev.cs) rfl rfl rfl cs6e)
      · intro e H' H1 c _ h
        exact h.elim
  · by_cases hn : next = 0
    · subst hn
      rw [if_pos ⟨h0, h0⟩, if_neg (by simp)]
      rw [if_neg h0] at hA
      rw [if_pos rfl] at hB
      have e1 : (List.map intCs [old, 0]).length = 2 := rfl
      have e2 : (List.map intCs [0]).length = 1 := rfl
      have e3 : (List.map intCs [old]).length = 1 := rfl
      have e4 : (List.map intCs []).length = 0 := rfl
      repeat' ((conv => whnf); (first
       | (refine Fn.use (h1) rfl rfl ?_)
       | (refine Fn.use (hA) rfl rfl ?_)
       | (refine Fn.use (hB) rfl rfl ?_)))
      refine W_loop (fun μ s => (μ = 1 ∧ s = ⟨[(2, .i 0), (4, .ptr 0 0), (7, .d (ints [old, 0])), (8, .d (ints [0]))], 82, [some (.row [.i old])], 0, []⟩) ∨ (μ = 0 ∧ s = ⟨[(2, .i 0), (4, .ptr 0 0), (7, .d (ints [old])), (8, .d (ints []))], 82, [some (.row [.i old])], 0, []⟩)) 1 ⟨_, ?_, (.inl ⟨rfl, rfl⟩)⟩ ?_
      · exact Wk_env (by repeat (first | exact trivial | refine ⟨rfl, ?_⟩))
      rintro μ s1 (⟨rfl, rfl⟩ | ⟨rfl, rfl⟩)
      · refine W_run tt_ok ?_
        repeat' ((conv => whnf); (first
         | (refine W_draw 0 tt_ok mixed (by kernel_rfl) ?_)
         | (refine Idx_in _ rfl (by first | decide | simp | omega) rfl ?_)
         | (refine Need_in ⟨by simp, by simp, by simp, cs1⟩ ?_)
         | (refine Back_in _ 0 (.inr (⟨rfl, rfl⟩)) (by omega) (Wk_env (by repeat (first | exact trivial | refine ⟨rfl, ?_⟩))))
         | (refine ArK_in (wrap_i64 (by omega) (by omega)) ?_)))
      refine W_run tt_ok ?_
      repeat' ((conv => whnf); (first
       | (refine Len_in (fun hlen => ?_))
       | (refine W_draw 0 tt_ok mixed (by kernel_rfl) ?_)))
      refine W_loop (fun μ s => (μ = 1 ∧ s = ⟨[(2, .i 0), (4, .ptr 0 0), (8, .d (ints [])), (9, .ptr 1 0), (58, .d (ints [old])), (59, .i 1), (60, .i 0)], 82, [some (.row [.i old]), some (.row [.nsl])], 0, []⟩) ∨ (μ = 0 ∧ s = ⟨[(2, .i 0), (4, .ptr 0 0), (8, .d (ints [])), (9, .ptr 1 0), (58, .d (ints [old])), (59, .i 1), (60, .i 1)], 82, [some (.row [.i old]), some (.row [.msl 2 0 2 2 6]), some (.row (((pairR 1 3 old 0).map Ev.cs).flatten.map .d))], 0, []⟩)) 1 ⟨_, ?_, .inl ⟨rfl, rfl⟩⟩ ?_
      · exact Wk_env (by repeat (first | exact trivial | refine ⟨rfl, ?_⟩))
      rintro μ s1 (⟨rfl, rfl⟩ | ⟨rfl, rfl⟩)
      · refine W_run tt_ok ?_
        repeat' ((conv => whnf); (first
         | (refine App_nsl ((pairR 1 3 old 0).map Ev.cs) rfl rfl (by simp [pairR]) cs6e (by simp [pairR]) (Nat.le_of_ble_eq_true rfl) ?_)
         | (refine W_draw 0 tt_ok mixed (by kernel_rfl) ?_)
         | (refine Idx_in _ rfl (by first | decide | simp | omega) rfl ?_)
         | (refine CallF_in (hp1) rfl rfl ?_)
         | (refine Back_in _ 0 (.inr ⟨rfl, rfl⟩) (by omega) (Wk_env (by repeat (first | exact trivial | refine ⟨rfl, ?_⟩))))
         | (refine ArK_in (wrap_i64 (by omega) (by omega)) ?_)))
      refine W_run tt_ok ?_
      repeat' ((conv => whnf); (first
       | (refine Tri.call (back_int []) [] rfl rfl trivial rfl rfl rfl rfl rfl rfl ?_)))
      refine W_rangeG [3] (fs0 := []) (cs0 := [.ptr 0 0]) (H0 := [some (.row [.d (ints [])])]) (ps := [73, 74]) (backXs AV.i []) (fun k H => H = [some (.row [.i old]), some (.row [.msl 2 0 2 2 6]), some (.row (((pairR 1 3 old 0).map Ev.cs).flatten.map .d)), none, some .dfr]) (fun _ _ => False) rfl rfl rfl
        (by repeat (first | exact trivial | refine ⟨⟨rfl, rfl⟩, ?_⟩)) rfl rfl rfl rfl (by decide) rfl (backXs_args AV.i (fun _ => rfl) []) (fun _ H => H = [some (.row [.d (ints [])]), none]) (fun Y hx hY => back_seq [] Y hx hY) rfl ?_ ?_ ?_
      · intro l k x H' hx
        simp [backXs] at hx
      · rintro H' H1 rfl rfl _ _
        skip
        conv => whnf
        exact finD (F := [2]) (FV_tab (sz := 6) ((pairR 1 3 old 0).map Ev.cs) rfl rfl rfl cs6e)
      · intro e H' H1 c _ h
        exact h.elim
    · by_cases he : old = next
      · subst he
        rw [if_neg (by simp), if_neg (by simp)]
        rw [if_neg h0] at hA hB
        have e1 : (List.map intCs [old, 0]).length = 2 := rfl
        have e2 : (List.map intCs [old]).length = 1 := rfl
        have e3 : (List.map intCs []).length = 0 := rfl
        repeat' ((conv => whnf); (first
         | (refine Fn.use (h1) rfl rfl ?_)
         | (refine Fn.use (hA) rfl rfl ?_)))
        refine W_loop (fun μ s => (μ = 2 ∧ s = ⟨[(2, .i old), (4, .ptr 0 0), (7, .d (ints [old, 0])), (8, .d (ints [old, 0]))], 82, [some (.row [.i old])], 0, []⟩) ∨ (μ = 1 ∧ s = ⟨[(2, .i old), (4, .ptr 0 0), (7, .d (ints [old])), (8, .d (ints [old]))], 82, [some (.row [.i old])], 0, []⟩) ∨ (μ = 0 ∧ s = ⟨[(2, .i old), (4, .ptr 0 0), (7, .d (ints [])), (8, .d (ints []))], 82, [some (.row [.i old])], 0, []⟩)) 2 ⟨_, ?_, (.inl ⟨rfl, rfl⟩)⟩ ?_
        · exact Wk_env (by repeat (first | exact trivial | refine ⟨rfl, ?_⟩))
        rintro μ s1 (⟨rfl, rfl⟩ | ⟨rfl, rfl⟩ | ⟨rfl, rfl⟩)
        · refine W_run tt_ok ?_
          repeat' ((conv => whnf); (first
           | (refine W_draw 0 tt_ok mixed (by kernel_rfl) ?_)
           | (refine Idx_in _ rfl (by first | decide | simp | omega) rfl ?_)
           | (refine Need_in ⟨by simp, by simp, by simp, cs1⟩ ?_)
           | (refine Back_in _ 1 (.inr (.inl ⟨rfl, rfl⟩)) (by omega) (Wk_env (by repeat (first | exact trivial | refine ⟨rfl, ?_⟩))))
           | (refine ArK_in (wrap_i64 (by omega) (by omega)) ?_)))
        · refine W_run tt_ok ?_
          repeat' ((conv => whnf); (first
           | (refine Br_true (beqT (by omega)) ?_)
           | (refine W_draw 0 tt_ok mixed (by kernel_rfl) ?_)
           | (refine Idx_in _ rfl (by first | decide | simp | omega) rfl ?_)
           | (refine Need_in ⟨by simp, by simp, by simp, cs1⟩ ?_)
           | (refine Back_in _ 0 (.inr (.inr (⟨rfl, rfl⟩))) (by omega) (Wk_env (by repeat (first | exact trivial | refine ⟨rfl, ?_⟩))))
           | (refine ArK_in (wrap_i64 (by omega) (by omega)) ?_)))
        refine W_run tt_ok ?_
        repeat' ((conv => whnf); (first
         | (refine Len_in (fun hlen => ?_))
         | (refine W_draw 0 tt_ok mixed (by kernel_rfl) ?_)))
        refine W_loop (fun μ s => μ = 0 ∧ s = ⟨[(2, .i old), (4, .ptr 0 0), (8, .d (ints [])), (9, .ptr 1 0), (58, .d (ints [])), (59, .i 0), (60, .i 0)], 82, [some (.row [.i old]), some (.row [.nsl])], 0, []⟩) 0 ⟨_, ?_, ⟨rfl, rfl⟩⟩ ?_
        · exact Wk_env (by repeat (first | exact trivial | refine ⟨rfl, ?_⟩))
        rintro μ s1 ⟨rfl, rfl⟩
        refine W_run tt_ok ?_
        repeat' ((conv => whnf); (first
         | (refine Tri.call (back_int []) [] rfl rfl trivial rfl rfl rfl rfl rfl rfl ?_)))
        refine W_rangeG [2] (fs0 := []) (cs0 := [.ptr 0 0]) (H0 := [some (.row [.d (ints [])])]) (ps := [73, 74]) (backXs AV.i []) (fun k H => H = [some (.row [.i old]), some (.row [.nsl]), none, some .dfr]) (fun _ _ => False) rfl rfl rfl
          (by repeat (first | exact trivial | refine ⟨⟨rfl, rfl⟩, ?_⟩)) rfl rfl rfl rfl (by decide) rfl (backXs_args AV.i (fun _ => rfl) []) (fun _ H => H = [some (.row [.d (ints [])]), none]) (fun Y hx hY => back_seq [] Y hx hY) rfl ?_ ?_ ?_
        · intro l k x H' hx
          simp [backXs] at hx
        · rintro H' H1 rfl rfl _ _
          repeat' ((conv => whnf); (first
           | (refine finD (F := []) .nsl)))
        · intro e H' H1 c _ h
          exact h.elim
      · rw [if_pos ⟨he, h0⟩, if_pos ⟨he, hn⟩]
        rw [if_neg h0] at hA
        rw [if_neg hn] at hB
        have e1 : (List.map intCs [old, 0]).length = 2 := rfl
        have e2 : (List.map intCs [next, 0]).length = 2 := rfl
        have e3 : (List.map intCs [old]).length = 1 := rfl
        have e4 : (List.map intCs [next]).length = 1 := rfl
        repeat' ((conv => whnf); (first
         | (refine Fn.use (h1) rfl rfl ?_)
         | (refine Fn.use (hA) rfl rfl ?_)
         | (refine Fn.use (hB) rfl rfl ?_)))
        refine W_loop (fun μ s => (μ = 1 ∧ s = ⟨[(2, .i next), (4, .ptr 0 0), (7, .d (ints [old, 0])), (8, .d (ints [next, 0]))], 82, [some (.row [.i old])], 0, []⟩) ∨ (μ = 0 ∧ s = ⟨[(2, .i next), (4, .ptr 0 0), (7, .d (ints [old])), (8, .d (ints [next]))], 82, [some (.row [.i old])], 0, []⟩)) 1 ⟨_, ?_, (.inl ⟨rfl, rfl⟩)⟩ ?_
        · exact Wk_env (by repeat (first | exact trivial | refine ⟨rfl, ?_⟩))
        rintro μ s1 (⟨rfl, rfl⟩ | ⟨rfl, rfl⟩)
        · refine W_run tt_ok ?_
          repeat' ((conv => whnf); (first
           | (refine W_draw 0 tt_ok mixed (by kernel_rfl) ?_)
           | (refine Idx_in _ rfl (by first | decide | simp | omega) rfl ?_)
           | (refine Need_in ⟨by simp, by simp, by simp, cs1⟩ ?_)
           | (refine Back_in _ 0 (.inr (⟨rfl, rfl⟩)) (by omega) (Wk_env (by repeat (first | exact trivial | refine ⟨rfl, ?_⟩))))
           | (refine ArK_in (wrap_i64 (by omega) (by omega)) ?_)))
        refine W_run tt_ok ?_
        repeat' ((conv => whnf); (first
         | (refine Br_false (beqF (by omega)) ?_)
         | (refine Len_in (fun hlen => ?_))
         | (refine W_draw 0 tt_ok mixed (by kernel_rfl) ?_)
         | (refine Idx_in _ rfl (by first | decide | simp | omega) rfl ?_)
         | (refine ArK_in (wrap_i64 (by omega) (by omega)) ?_)))
        refine W_loop (fun μ s => (μ = 1 ∧ s = ⟨[(2, .i next), (4, .ptr 0 0), (8, .d (ints [next])), (9, .ptr 1 0), (58, .d (ints [old])), (59, .i 1), (60, .i 0)], 82, [some (.row [.i old]), some (.row [.nsl])], 0, []⟩) ∨ (μ = 0 ∧ s = ⟨[(2, .i next), (4, .ptr 0 0), (8, .d (ints [next])), (9, .ptr 1 0), (58, .d (ints [old])), (59, .i 1), (60, .i 1)], 82, [some (.row [.i old]), some (.row [.msl 2 0 2 2 6]), some (.row (((pairR 1 3 old next).map Ev.cs).flatten.map .d))], 0, []⟩)) 1 ⟨_, ?_, .inl ⟨rfl, rfl⟩⟩ ?_
        · exact Wk_env (by repeat (first | exact trivial | refine ⟨rfl, ?_⟩))
        rintro μ s1 (⟨rfl, rfl⟩ | ⟨rfl, rfl⟩)
        · refine W_run tt_ok ?_
          repeat' ((conv => whnf); (first
           | (refine App_nsl ((pairR 1 3 old next).map Ev.cs) rfl rfl (by simp [pairR]) cs6e (by simp [pairR]) (Nat.le_of_ble_eq_true rfl) ?_)
           | (refine W_draw 0 tt_ok mixed (by kernel_rfl) ?_)
           | (refine Idx_in _ rfl (by first | decide | simp | omega) rfl ?_)
           | (refine CallF_in (hp1) rfl rfl ?_)
           | (refine Back_in _ 0 (.inr ⟨rfl, rfl⟩) (by omega) (Wk_env (by repeat (first | exact trivial | refine ⟨rfl, ?_⟩))))
           | (refine ArK_in (wrap_i64 (by omega) (by omega)) ?_)))
        refine W_run tt_ok ?_
        repeat' ((conv => whnf); (first
         | (refine Tri.call (back_int [next]) [] rfl rfl trivial rfl rfl rfl rfl rfl rfl ?_)))
        refine W_rangeG [3] (fs0 := []) (cs0 := [.ptr 0 0]) (H0 := [some (.row [.d (ints [next])])]) (ps := [73, 74]) (backXs AV.i [next]) (fun k H => (k = 0 ∧ H = [some (.row [.i old]), some (.row [.msl 2 0 2 2 6]), some (.row (((pairR 1 3 old next).map Ev.cs).flatten.map .d)), none, some .dfr]) ∨ (k = 1 ∧ H = [some (.row [.i old]), some (.row [.msl 5 0 4 4 6]), none, none, some .dfr, some (.row (((pairR 1 3 old next).map Ev.cs ++ (pairR 0 2 next old).map Ev.cs).flatten.map .d))])) (fun _ _ => False) rfl rfl rfl
          (by repeat (first | exact trivial | refine ⟨⟨rfl, rfl⟩, ?_⟩)) rfl rfl rfl rfl (by decide) rfl (backXs_args AV.i (fun _ => rfl) [next]) (fun _ H => H = [some (.row [.d (ints [next])]), none]) (fun Y hx hY => back_seq [next] Y hx hY) (.inl ⟨rfl, rfl⟩) ?_ ?_ ?_
        · rintro lp k x H' hx hJ hlen hY
          obtain ⟨rfl, rfl⟩ : k = 0 ∧ x = .tup [.i 0, .i next] := by
            have hk := (List.getElem?_eq_some_iff.1 hx).1
            rw [backXs_len] at hk
            simp at hk
            subst hk
            rw [backXs_get AV.i [next] (by simp)] at hx
            simp at hx
            exact ⟨rfl, hx.symm⟩
          rcases hJ with ⟨_, rfl⟩ | ⟨h, _⟩
          rotate_left
          · simp at h
          refine W_run tt_ok ?_
          skip
          refine Need_in rfl ?_
          refine W_run tt_ok ?_
          repeat' ((conv => whnf); (first
           | (refine App_msl ((pairR 1 3 old next).map Ev.cs) ((pairR 0 2 next old).map Ev.cs) (by simp [pairR]) (by simp [pairR]) rfl rfl rfl rfl (by simp [pairR]) cs6e cs6e (by simp [pairR]) (Nat.le_of_ble_eq_true rfl) ?_)
           | (refine W_draw 0 tt_ok mixed (by kernel_rfl) ?_)
           | (refine CallF_in (hp2) rfl rfl ?_)))
          conv => whnf
          exact Rd_next [some (.row [.i old]), some (.row [.msl 5 0 4 4 6]), none, none, some .dfr, some (.row (((pairR 1 3 old next).map Ev.cs ++ (pairR 0 2 next old).map Ev.cs).flatten.map .d))] (Wk_env (by repeat (first | exact trivial | refine ⟨rfl, ?_⟩))) rfl (Nat.le_of_ble_eq_true rfl) (.inr ⟨rfl, rfl⟩)
        · rintro H' H1 hJ rfl _ _
          rcases hJ with ⟨h, _⟩ | ⟨_, rfl⟩
          · simp [backXs_len] at h
          skip
          conv => whnf
          exact finD (F := [5]) (FV_tab (sz := 6) ((pairR 1 3 old next).map Ev.cs ++ (pairR 0 2 next old).map Ev.cs) rfl rfl rfl (by intro r hr; rcases List.mem_append.1 hr with hr | hr <;> exact cs6e r hr))
        · intro e H' H1 c _ h
          exact h.elim
end Go.Eng
set_option linter.unusedVariables false
set_option linter.unusedSimpArgs false
namespace Go.Eng
open Go
def dfFix (g : List Nat) : List DF → Bool
  | [] => true
  | .mk b :: t => (Nat.blt b g.length && Nat.beq (gOf g b) b) && dfFix g t
  | .fn _ caps :: t => (caps.all fun x => Nat.blt x.1 g.length && Nat.beq (gOf g x.1) x.1) && dfFix g t
theorem DRel.fix {g : List Nat} {σ σ' : List Nat} (hs : ∀ i, i < g.length → σ'[i]? = σ[gOf g i]?) : ∀ (df : List DF) (ds : List Deferred), dfFix g df = true → DRel σ df ds → DRel σ' df ds := by
  have one : ∀ b, (Nat.blt b g.length && Nat.beq (gOf g b) b) = true → σ'[b]? = σ[b]? := fun b h => by
    simp only [Bool.and_eq_true] at h
    have h1 : b < g.length := by simpa [Nat.blt_eq] using h.1
    have h2 := Nat.eq_of_beq_eq_true h.2
    rw [hs b h1, h2]
  intro df
  induction df with
  | nil => intro ds _ h; cases ds with
    | nil => trivial
    | cons d ds => exact h.elim
  | cons x t ih =>
    intro ds hf h
    cases ds with
    | nil => cases x <;> exact h.elim
    | cons d ds =>
      cases x with
      | mk b =>
        simp only [dfFix, Bool.and_eq_true] at hf
        obtain ⟨⟨r, h1, h2⟩, h3⟩ := h
        exact ⟨⟨r, (one b (by simp only [Bool.and_eq_true]; exact hf.1)).trans h1, h2⟩, ih ds hf.2 h3⟩
      | fn f caps =>
        simp only [dfFix, Bool.and_eq_true] at hf
        obtain ⟨⟨cs, h1, h2, h3⟩, h4⟩ := h
        refine ⟨⟨cs, h1, h2, fun i x v hx hv => ?_⟩, ih ds hf.2 h4⟩
        obtain ⟨r, e1, e2⟩ := h3 i x v hx hv
        exact ⟨r, (one x.1 (List.all_eq_true.1 hf.1 x (List.mem_of_getElem? hx))).trans e1, e2⟩
theorem Wk_renD (g : List Nat) {ρ ρ' : Env} {n m : Nat} {H H' : Heap} {df : List DF} (hlt : (g.all fun x => Nat.blt x H.length) = true) (hnd : noDup g = true) (hle : HLe g g.length H H' g) (hρ : EnvLe g g.length ρ ρ') (hm : m ≤ g.length)
    (hid : ∀ i, i < m → gOf g i = i) (hdf : dfFix g df = true) : Wk ⟨ρ, n, H, m, df⟩ ⟨ρ', n, H', m, df⟩ := by
  rw [Wk_eq]
  refine ⟨rfl, rfl, fun p σ a w hR => ?_⟩
  have hlt' : ∀ x ∈ g, x < H.length := fun x hx => by simpa [Nat.blt_eq] using List.all_eq_true.1 hlt x hx
  have hlen := hR.heap.len
  simp only at hlen
  have hs := renS_get (σ := σ) (g := g) rfl (by rw [hlen]; exact hlt')
  obtain ⟨hl, _⟩ := HLe_get H' g hle
  refine ⟨p, renS g σ, .refl p w, fun i hi => by rw [hs i (Nat.lt_of_lt_of_le hi hm), hid i hi], hR.size, hR.df.fix hs _ _ hdf, fun t => ?_, hR.heap.ren hlt' hnd hle, by simp only; omega⟩
  rcases EnvLe_get ρ' hρ t with h | ⟨h1, h2⟩
  · rw [h]; exact .any _
  · have := hR.env t
    simp only at this
    exact this.ren hs _ h1 h2
theorem HLe_cell {g : List Nat} {k : Nat} {H H' : Heap} {g' : List Nat} {j b b' sz : Nat} {rows : List (List D)} (hj : H[j]? = some (some (.row [AccV b sz rows]))) (hg : gOf g b' = b) (hb : b' < k) (h : HLe g k H H' g') :
    HLe g k H (some (.row [AccV b' sz rows]) :: H') (j :: g') := by
  refine ⟨⟨?_, ?_⟩, h⟩
  · rw [hj]
    show _ = some (some (Blk.row [Eng.ren (gOf g) (AccV b' sz rows)]))
    rw [← ren_acc hg]
  · show (low k (AccV b' sz rows) && true) = true
    rw [low_acc hb]
    rfl
end Go.Eng
