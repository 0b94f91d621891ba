/- What the seat's proofs lean on, part 8: the executor over abstract values, its soundness, and what the program's functions answer (Lwt2, Lwt3, Lwt4, Lwt5, Lwt6, Eng35, SeatW). -/
import Derived.Test.YtdngkocecdikcaaDoorEng07
import Derived.Lib.LaidTab
import Derived.Test.YtdngkocecdikcaaDoorChecked
import Derived.KernelRfl
set_option linter.all false
set_option linter.unusedVariables false
set_option linter.unusedSimpArgs false
set_option maxRecDepth 100000
set_option linter.unusedVariables false
set_option linter.unusedSimpArgs false
namespace Go.Eng
open Go Go.Proofs
theorem ba_same (b : ByteArray) : (b.toList == b.toList) = true := by simp
theorem ba_same' (b : ByteArray) : (!(b.toList == b.toList)) = false := by simp
theorem int_same (n : Int) : (n == n) = true := by simp
theorem row_same (r : TRow) : allB [r.kind == r.kind, r.prog == r.prog, r.type == r.type, r.node == r.node, r.target == r.target, r.related == r.related, r.phase == r.phase, r.err == r.err] = true := by simp [allB]
theorem row_eqv (a b : TRow) : allB [a.kind == b.kind, a.prog == b.prog, a.type == b.type, a.node == b.node, a.target == b.target, a.related == b.related, a.phase == b.phase, a.err == b.err] = decide (a = b) := by
  rw [allB_eq, Bool.eq_iff_iff]
  obtain ⟨a1, a2, a3, a4, a5, a6, a7, a8⟩ := a
  obtain ⟨b1, b2, b3, b4, b5, b6, b7, b8⟩ := b
  simp [and_assoc]
set_option maxHeartbeats 2000000 in
theorem law_TellRows (r : TRow) (hr : rngR r) (s : List UInt8) : Fn Tryd.prog 3 [aggD r.cs, .d (str s)] (.b true) := by
  refine Fn_of tt_ok Tryd.func3 rfl (by decide) Tryd.ntmps3 rfl ?_
  have es := str_size s
  by_cases g : s.length > 200
  · have z : decide (((⟨s.toArray⟩ : ByteArray).size : Int) > 200) = true := decide_eq_true (by rw [es]; omega)
    repeat' ((conv => whnf); (first
      | (refine Br_true z ?_)
      | (refine Br_true (by assumption) ?_)
      | (refine Br_false (by assumption) ?_)
      | (refine Br_true (beqT (by omega)) ?_)
      | (refine Br_false (beqF (by omega)) ?_)
      | (refine Br_beq (fun h => ?_) (fun h => ?_))
      | (refine Br_true (bneT (by omega)) ?_)
      | (refine Br_false (bneF (by omega)) ?_)
      | (refine Br_bne (fun h => ?_) (fun h => ?_))
      | (refine Br_true (decide_eq_true (by omega)) ?_)
      | (refine Br_false (decide_eq_false (by omega)) ?_)
      | (refine Br_dec (fun h => ?_) (fun h => ?_))
      | (refine Br_not ?_)
      | (refine Len_in (fun hlen => ?_))
      | (refine Len_in (fun _ => ?_))
      | (refine Fn.use (live23_true) rfl rfl ?_)
      | (refine CallF_in (live23_true) rfl rfl ?_)
      | (refine Br_split (fun h => ?_) (fun h => ?_))
      | (refine fin0 rfl ?_)
      | (refine ArK_in (wrap_i64 (by omega) (by omega)) ?_)
      | (refine force_in ?_)))
    rfl
  have z : decide (((⟨s.toArray⟩ : ByteArray).size : Int) > 200) = false := decide_eq_false (by rw [es]; omega)
  have h1 := tell_Read s (by omega)
  have h2 := ref23_Read s (by omega)
  rw [doc_same] at h2
  have h3 := tell_Row r hr
  have h4 := ref23_Row r hr
  have h5 := tell_Event r.type
  have h6 := ref23_Event r.type
  have hs := row_same (readR s).1
  generalize readR s = R at *
  obtain ⟨k, e⟩ := R
  dsimp only at *
  generalize rowV r = v at *
  generalize evV r.type = w at *
  repeat' ((conv => whnf); (first
    | (refine Br_false z ?_)
    | (refine Br_true (ba_same _) ?_)
    | (refine Br_true hs ?_)
    | (refine Br_true (int_same _) ?_)
    | (refine Br_true (by assumption) ?_)
    | (refine Br_false (by assumption) ?_)
    | (refine Br_true (beqT (by omega)) ?_)
    | (refine Br_false (beqF (by omega)) ?_)
    | (refine Br_beq (fun h => ?_) (fun h => ?_))
    | (refine Br_true (bneT (by omega)) ?_)
    | (refine Br_false (bneF (by omega)) ?_)
    | (refine Br_bne (fun h => ?_) (fun h => ?_))
    | (refine Br_true (decide_eq_true (by omega)) ?_)
    | (refine Br_false (decide_eq_false (by omega)) ?_)
    | (refine Br_dec (fun h => ?_) (fun h => ?_))
    | (refine Br_not ?_)
    | (refine Len_in (fun hlen => ?_))
    | (refine Len_in (fun _ => ?_))
    | (refine W_draw 0 tt_ok mixed (by kernel_rfl) ?_)
    | (refine Fn.use (h1) rfl rfl ?_)
    | (refine CallF_in (h1) rfl rfl ?_)
    | (refine Fn.use (h2) rfl rfl ?_)
    | (refine CallF_in (h2) rfl rfl ?_)
    | (refine Fn.use (h3) rfl rfl ?_)
    | (refine CallF_in (h3) rfl rfl ?_)
    | (refine Fn.use (h4) rfl rfl ?_)
    | (refine CallF_in (h4) rfl rfl ?_)
    | (refine Fn.use (h5) rfl rfl ?_)
    | (refine CallF_in (h5) rfl rfl ?_)
    | (refine Fn.use (h6) rfl rfl ?_)
    | (refine CallF_in (h6) rfl rfl ?_)
    | (refine Fn.use (live23_true) rfl rfl ?_)
    | (refine CallF_in (live23_true) rfl rfl ?_)
    | (refine Br_split (fun h => ?_) (fun h => ?_))
    | (refine fin0 rfl ?_)
    | (refine ArK_in (wrap_i64 (by omega) (by omega)) ?_)
    | (refine force_in ?_)))
  rfl
set_option maxHeartbeats 2000000 in
theorem law_TellBack (r : TRow) (hr : rngR r) (s : List UInt8) : Fn Tryd.prog 5 [aggD r.cs, .d (str s)] (.b true) := by
  refine Fn_of tt_ok Tryd.func5 rfl (by decide) Tryd.ntmps5 rfl ?_
  have es := str_size s
  by_cases g : s.length > 200
  · have z : decide (((⟨s.toArray⟩ : ByteArray).size : Int) > 200) = true := decide_eq_true (by rw [es]; omega)
    repeat' ((conv => whnf); (first
      | (refine Br_true z ?_)
      | (refine Br_true (by assumption) ?_)
      | (refine Br_false (by assumption) ?_)
      | (refine Br_true (beqT (by omega)) ?_)
      | (refine Br_false (beqF (by omega)) ?_)
      | (refine Br_beq (fun h => ?_) (fun h => ?_))
      | (refine Br_true (bneT (by omega)) ?_)
      | (refine Br_false (bneF (by omega)) ?_)
      | (refine Br_bne (fun h => ?_) (fun h => ?_))
      | (refine Br_true (decide_eq_true (by omega)) ?_)
      | (refine Br_false (decide_eq_false (by omega)) ?_)
      | (refine Br_dec (fun h => ?_) (fun h => ?_))
      | (refine Br_not ?_)
      | (refine Len_in (fun hlen => ?_))
      | (refine Len_in (fun _ => ?_))
      | (refine Fn.use (live23_true) rfl rfl ?_)
      | (refine CallF_in (live23_true) rfl rfl ?_)
      | (refine Br_split (fun h => ?_) (fun h => ?_))
      | (refine fin0 rfl ?_)
      | (refine ArK_in (wrap_i64 (by omega) (by omega)) ?_)
      | (refine force_in ?_)))
    rfl
  have z : decide (((⟨s.toArray⟩ : ByteArray).size : Int) > 200) = false := decide_eq_false (by rw [es]; omega)
  have hsh := law23_short r
  have htl := rowV_len hr
  cases hs : shortB r <;> rw [hs] at hsh
  · repeat' ((conv => whnf); (first
    | (refine Br_false z ?_)
    | (refine Br_true (by assumption) ?_)
    | (refine Br_false (by assumption) ?_)
    | (refine Br_true (beqT (by omega)) ?_)
    | (refine Br_false (beqF (by omega)) ?_)
    | (refine Br_beq (fun h => ?_) (fun h => ?_))
    | (refine Br_true (bneT (by omega)) ?_)
    | (refine Br_false (bneF (by omega)) ?_)
    | (refine Br_bne (fun h => ?_) (fun h => ?_))
    | (refine Br_true (decide_eq_true (by omega)) ?_)
    | (refine Br_false (decide_eq_false (by omega)) ?_)
    | (refine Br_dec (fun h => ?_) (fun h => ?_))
    | (refine Br_not ?_)
    | (refine Len_in (fun hlen => ?_))
    | (refine Len_in (fun _ => ?_))
    | (refine Fn.use (hsh) rfl rfl ?_)
    | (refine CallF_in (hsh) rfl rfl ?_)
    | (refine Fn.use (live23_true) rfl rfl ?_)
    | (refine CallF_in (live23_true) rfl rfl ?_)
    | (refine Br_split (fun h => ?_) (fun h => ?_))
    | (refine fin0 rfl ?_)
    | (refine ArK_in (wrap_i64 (by omega) (by omega)) ?_)
    | (refine force_in ?_)))
    rfl
  have h3 := tell_Row r hr
  have h1 := tell_Read s (by omega)
  have hbk : ∀ k, readR s = (k, 0) → rowV k = s := fun k hk => (read_iff.1 hk).2.2
  have hb2 : toldB r = true → readR (rowV r) = (r, 0) := fun ht => read_iff.2 ⟨ht, hs, rfl⟩
  have h2 := tell_Read (rowV r) (by omega)
  have hvn : toldB r = true → rowV r ≠ [] := rowV_ne
  have hvz : toldB r = false → rowV r = [] := fun h => by unfold rowV; rw [h]; rfl
  have hsame : (!(allB [r.kind == r.kind, r.prog == r.prog, r.type == r.type, r.node == r.node, r.target == r.target, r.related == r.related, r.phase == r.phase, r.err == r.err])) = false := by rw [row_same]; rfl
  have hrk : ∀ k, rngR k → Fn Tryd.prog 12 [aggD k.cs] (.d (str (rowV k))) := fun k hk => tell_Row k hk
  have hrd : rngR (readR s).1 := by
    unfold readR
    split
    · exact rng_small _ (by decide)
    · exact parse_rng _
  have hrk := tell_Row _ hrd
  clear hrd
  generalize readR s = R at *
  obtain ⟨k, e⟩ := R
  dsimp only at *
  have c0 := str_beq (rowV r) []
  have tail : e = 0 → rowV k = s := fun he => hbk k (by rw [he])
  clear hbk
  cases ht : toldB r
  · rw [hvz ht] at c0 h3
    have c0' : (!((⟨([] : List UInt8).toArray⟩ : ByteArray).toList == (⟨#[]⟩ : ByteArray).toList)) = false := by rw [str_beq [] []]; simp
    by_cases he : e = 0
    · subst he
      rw [tail rfl] at hrk
      repeat' ((conv => whnf); (first
        | (refine Br_false z ?_)
        | (refine Br_false c0' ?_)
        | (refine Br_true (ba_same _) ?_)
        | (refine Br_true (by assumption) ?_)
        | (refine Br_false (by assumption) ?_)
        | (refine Br_true (beqT (by omega)) ?_)
        | (refine Br_false (beqF (by omega)) ?_)
        | (refine Br_beq (fun h => ?_) (fun h => ?_))
        | (refine Br_true (bneT (by omega)) ?_)
        | (refine Br_false (bneF (by omega)) ?_)
        | (refine Br_bne (fun h => ?_) (fun h => ?_))
        | (refine Br_true (decide_eq_true (by omega)) ?_)
        | (refine Br_false (decide_eq_false (by omega)) ?_)
        | (refine Br_dec (fun h => ?_) (fun h => ?_))
        | (refine Br_not ?_)
        | (refine Len_in (fun hlen => ?_))
        | (refine Len_in (fun _ => ?_))
        | (refine Fn.use (hsh) rfl rfl ?_)
        | (refine CallF_in (hsh) rfl rfl ?_)
        | (refine Fn.use (h3) rfl rfl ?_)
        | (refine CallF_in (h3) rfl rfl ?_)
        | (refine Fn.use (h1) rfl rfl ?_)
        | (refine CallF_in (h1) rfl rfl ?_)
        | (refine Fn.use (hrk) rfl rfl ?_)
        | (refine CallF_in (hrk) rfl rfl ?_)
        | (refine Fn.use (live23_true) rfl rfl ?_)
        | (refine CallF_in (live23_true) rfl rfl ?_)
        | (refine Br_split (fun h => ?_) (fun h => ?_))
        | (refine fin0 rfl ?_)
        | (refine ArK_in (wrap_i64 (by omega) (by omega)) ?_)
        | (refine force_in ?_)))
      rfl
    · have y : (!(e == 0)) = true := by simpa using he
      repeat' ((conv => whnf); (first
        | (refine Br_false z ?_)
        | (refine Br_false c0' ?_)
        | (refine Br_true y ?_)
        | (refine Br_true (by assumption) ?_)
        | (refine Br_false (by assumption) ?_)
        | (refine Br_true (beqT (by omega)) ?_)
        | (refine Br_false (beqF (by omega)) ?_)
        | (refine Br_beq (fun h => ?_) (fun h => ?_))
        | (refine Br_true (bneT (by omega)) ?_)
        | (refine Br_false (bneF (by omega)) ?_)
        | (refine Br_bne (fun h => ?_) (fun h => ?_))
        | (refine Br_true (decide_eq_true (by omega)) ?_)
        | (refine Br_false (decide_eq_false (by omega)) ?_)
        | (refine Br_dec (fun h => ?_) (fun h => ?_))
        | (refine Br_not ?_)
        | (refine Len_in (fun hlen => ?_))
        | (refine Len_in (fun _ => ?_))
        | (refine Fn.use (hsh) rfl rfl ?_)
        | (refine CallF_in (hsh) rfl rfl ?_)
        | (refine Fn.use (h3) rfl rfl ?_)
        | (refine CallF_in (h3) rfl rfl ?_)
        | (refine Fn.use (h1) rfl rfl ?_)
        | (refine CallF_in (h1) rfl rfl ?_)
        | (refine Fn.use (live23_true) rfl rfl ?_)
        | (refine CallF_in (live23_true) rfl rfl ?_)
        | (refine Br_split (fun h => ?_) (fun h => ?_))
        | (refine fin0 rfl ?_)
        | (refine ArK_in (wrap_i64 (by omega) (by omega)) ?_)
        | (refine force_in ?_)))
      rfl
  · have c0' : (!((⟨(rowV r).toArray⟩ : ByteArray).toList == (⟨#[]⟩ : ByteArray).toList)) = true := by rw [str_beq (rowV r) []]; simp [hvn ht]
    rw [hb2 ht] at h2
    clear hvn hvz hb2 c0
    generalize rowV r = v at *
    by_cases he : e = 0
    · subst he
      rw [tail rfl] at hrk
      repeat' ((conv => whnf); (first
        | (refine Br_false z ?_)
        | (refine Br_true c0' ?_)
        | (refine Br_true (ba_same _) ?_)
        | (refine Br_false hsame ?_)
        | (refine Br_true (by assumption) ?_)
        | (refine Br_false (by assumption) ?_)
        | (refine Br_true (beqT (by omega)) ?_)
        | (refine Br_false (beqF (by omega)) ?_)
        | (refine Br_beq (fun h => ?_) (fun h => ?_))
        | (refine Br_true (bneT (by omega)) ?_)
        | (refine Br_false (bneF (by omega)) ?_)
        | (refine Br_bne (fun h => ?_) (fun h => ?_))
        | (refine Br_true (decide_eq_true (by omega)) ?_)
        | (refine Br_false (decide_eq_false (by omega)) ?_)
        | (refine Br_dec (fun h => ?_) (fun h => ?_))
        | (refine Br_not ?_)
        | (refine Len_in (fun hlen => ?_))
        | (refine Len_in (fun _ => ?_))
        | (refine Fn.use (hsh) rfl rfl ?_)
        | (refine CallF_in (hsh) rfl rfl ?_)
        | (refine Fn.use (h3) rfl rfl ?_)
        | (refine CallF_in (h3) rfl rfl ?_)
        | (refine Fn.use (h2) rfl rfl ?_)
        | (refine CallF_in (h2) rfl rfl ?_)
        | (refine Fn.use (h1) rfl rfl ?_)
        | (refine CallF_in (h1) rfl rfl ?_)
        | (refine Fn.use (hrk) rfl rfl ?_)
        | (refine CallF_in (hrk) rfl rfl ?_)
        | (refine Fn.use (live23_true) rfl rfl ?_)
        | (refine CallF_in (live23_true) rfl rfl ?_)
        | (refine Br_split (fun h => ?_) (fun h => ?_))
        | (refine fin0 rfl ?_)
        | (refine ArK_in (wrap_i64 (by omega) (by omega)) ?_)
        | (refine force_in ?_)))
      rfl
    · have y : (!(e == 0)) = true := by simpa using he
      repeat' ((conv => whnf); (first
        | (refine Br_false z ?_)
        | (refine Br_true c0' ?_)
        | (refine Br_false hsame ?_)
        | (refine Br_true y ?_)
        | (refine Br_true (by assumption) ?_)
        | (refine Br_false (by assumption) ?_)
        | (refine Br_true (beqT (by omega)) ?_)
        | (refine Br_false (beqF (by omega)) ?_)
        | (refine Br_beq (fun h => ?_) (fun h => ?_))
        | (refine Br_true (bneT (by omega)) ?_)
        | (refine Br_false (bneF (by omega)) ?_)
        | (refine Br_bne (fun h => ?_) (fun h => ?_))
        | (refine Br_true (decide_eq_true (by omega)) ?_)
        | (refine Br_false (decide_eq_false (by omega)) ?_)
        | (refine Br_dec (fun h => ?_) (fun h => ?_))
        | (refine Br_not ?_)
        | (refine Len_in (fun hlen => ?_))
        | (refine Len_in (fun _ => ?_))
        | (refine Fn.use (hsh) rfl rfl ?_)
        | (refine CallF_in (hsh) rfl rfl ?_)
        | (refine Fn.use (h3) rfl rfl ?_)
        | (refine CallF_in (h3) rfl rfl ?_)
        | (refine Fn.use (h2) rfl rfl ?_)
        | (refine CallF_in (h2) rfl rfl ?_)
        | (refine Fn.use (h1) rfl rfl ?_)
        | (refine CallF_in (h1) rfl rfl ?_)
        | (refine Fn.use (live23_true) rfl rfl ?_)
        | (refine CallF_in (live23_true) rfl rfl ?_)
        | (refine Br_split (fun h => ?_) (fun h => ?_))
        | (refine fin0 rfl ?_)
        | (refine ArK_in (wrap_i64 (by omega) (by omega)) ?_)
        | (refine force_in ?_)))
      rfl
set_option maxHeartbeats 2000000 in
theorem law_TellApart (a b : TRow) (ha : rngR a) (hb : rngR b) : Fn Tryd.prog 8 [aggD a.cs, aggD b.cs] (.b true) := by
  refine Fn_of tt_ok Tryd.func8 rfl (by decide) Tryd.ntmps8 rfl ?_
  have sa := law23_short a
  have sb := law23_short b
  cases hsa : shortB a <;> rw [hsa] at sa
  · repeat' ((conv => whnf); (first
    | (refine Br_true (by assumption) ?_)
    | (refine Br_false (by assumption) ?_)
    | (refine Br_true (beqT (by omega)) ?_)
    | (refine Br_false (beqF (by omega)) ?_)
    | (refine Br_beq (fun h => ?_) (fun h => ?_))
    | (refine Br_true (bneT (by omega)) ?_)
    | (refine Br_false (bneF (by omega)) ?_)
    | (refine Br_bne (fun h => ?_) (fun h => ?_))
    | (refine Br_true (decide_eq_true (by omega)) ?_)
    | (refine Br_false (decide_eq_false (by omega)) ?_)
    | (refine Br_dec (fun h => ?_) (fun h => ?_))
    | (refine Br_not ?_)
    | (refine Len_in (fun hlen => ?_))
    | (refine Fn.use (sa) rfl rfl ?_)
    | (refine CallF_in (sa) rfl rfl ?_)
    | (refine Fn.use (live23_true) rfl rfl ?_)
    | (refine CallF_in (live23_true) rfl rfl ?_)
    | (refine Br_split (fun h => ?_) (fun h => ?_))
    | (refine fin0 rfl ?_)
    | (refine ArK_in (wrap_i64 (by omega) (by omega)) ?_)
    | (refine force_in ?_)))
    rfl
  cases hsb : shortB b <;> rw [hsb] at sb
  · repeat' ((conv => whnf); (first
    | (refine Br_true (by assumption) ?_)
    | (refine Br_false (by assumption) ?_)
    | (refine Br_true (beqT (by omega)) ?_)
    | (refine Br_false (beqF (by omega)) ?_)
    | (refine Br_beq (fun h => ?_) (fun h => ?_))
    | (refine Br_true (bneT (by omega)) ?_)
    | (refine Br_false (bneF (by omega)) ?_)
    | (refine Br_bne (fun h => ?_) (fun h => ?_))
    | (refine Br_true (decide_eq_true (by omega)) ?_)
    | (refine Br_false (decide_eq_false (by omega)) ?_)
    | (refine Br_dec (fun h => ?_) (fun h => ?_))
    | (refine Br_not ?_)
    | (refine Len_in (fun hlen => ?_))
    | (refine Fn.use (sa) rfl rfl ?_)
    | (refine CallF_in (sa) rfl rfl ?_)
    | (refine Fn.use (sb) rfl rfl ?_)
    | (refine CallF_in (sb) rfl rfl ?_)
    | (refine Fn.use (live23_true) rfl rfl ?_)
    | (refine CallF_in (live23_true) rfl rfl ?_)
    | (refine Br_split (fun h => ?_) (fun h => ?_))
    | (refine fin0 rfl ?_)
    | (refine ArK_in (wrap_i64 (by omega) (by omega)) ?_)
    | (refine force_in ?_)))
    rfl
  have h1 := tell_Row a ha
  have h2 := tell_Row b hb
  have c0 := str_beq (rowV a) []
  have c1 := str_beq (rowV a) (rowV b)
  have c2 := row_eqv a b
  have hinj : toldB a = true → rowV a = rowV b → a = b := fun h => row_inj h hsa hsb
  have hz : toldB a = false → rowV a = [] := fun h => by unfold rowV; rw [h]; rfl
  have hn : toldB a = true → rowV a ≠ [] := rowV_ne
  have hab : a = b → rowV a = rowV b := fun h => by rw [h]
  generalize rowV a = v at *
  generalize rowV b = w at *
  cases ht : toldB a
  · have hv := hz ht
    have c0' : ((⟨v.toArray⟩ : ByteArray).toList == (⟨#[]⟩ : ByteArray).toList) = true := by rw [str_beq v []]; simp [hv]
    repeat' ((conv => whnf); (first
      | (refine Br_true c0' ?_)
      | (refine Br_true (by assumption) ?_)
      | (refine Br_false (by assumption) ?_)
      | (refine Br_true (beqT (by omega)) ?_)
      | (refine Br_false (beqF (by omega)) ?_)
      | (refine Br_beq (fun h => ?_) (fun h => ?_))
      | (refine Br_true (bneT (by omega)) ?_)
      | (refine Br_false (bneF (by omega)) ?_)
      | (refine Br_bne (fun h => ?_) (fun h => ?_))
      | (refine Br_true (decide_eq_true (by omega)) ?_)
      | (refine Br_false (decide_eq_false (by omega)) ?_)
      | (refine Br_dec (fun h => ?_) (fun h => ?_))
      | (refine Br_not ?_)
      | (refine Len_in (fun hlen => ?_))
      | (refine Fn.use (sa) rfl rfl ?_)
      | (refine CallF_in (sa) rfl rfl ?_)
      | (refine Fn.use (sb) rfl rfl ?_)
      | (refine CallF_in (sb) rfl rfl ?_)
      | (refine Fn.use (h1) rfl rfl ?_)
      | (refine CallF_in (h1) rfl rfl ?_)
      | (refine Fn.use (h2) rfl rfl ?_)
      | (refine CallF_in (h2) rfl rfl ?_)
      | (refine Fn.use (live23_true) rfl rfl ?_)
      | (refine CallF_in (live23_true) rfl rfl ?_)
      | (refine Br_split (fun h => ?_) (fun h => ?_))
      | (refine fin0 rfl ?_)
      | (refine ArK_in (wrap_i64 (by omega) (by omega)) ?_)
      | (refine force_in ?_)))
    rfl
  · have c0' : ((⟨v.toArray⟩ : ByteArray).toList == (⟨#[]⟩ : ByteArray).toList) = false := by rw [str_beq v []]; simp [hn ht]
    have hq : (((⟨v.toArray⟩ : ByteArray).toList == (⟨w.toArray⟩ : ByteArray).toList) == allB [a.kind == b.kind, a.prog == b.prog, a.type == b.type, a.node == b.node, a.target == b.target, a.related == b.related, a.phase == b.phase, a.err == b.err]) = true := by
      rw [c1, c2, beq_iff_eq, decide_eq_decide]
      exact ⟨hinj ht, hab⟩
    repeat' ((conv => whnf); (first
      | (refine Br_false c0' ?_)
      | (refine Br_true hq ?_)
      | (refine Br_true (by assumption) ?_)
      | (refine Br_false (by assumption) ?_)
      | (refine Br_true (beqT (by omega)) ?_)
      | (refine Br_false (beqF (by omega)) ?_)
      | (refine Br_beq (fun h => ?_) (fun h => ?_))
      | (refine Br_true (bneT (by omega)) ?_)
      | (refine Br_false (bneF (by omega)) ?_)
      | (refine Br_bne (fun h => ?_) (fun h => ?_))
      | (refine Br_true (decide_eq_true (by omega)) ?_)
      | (refine Br_false (decide_eq_false (by omega)) ?_)
      | (refine Br_dec (fun h => ?_) (fun h => ?_))
      | (refine Br_not ?_)
      | (refine Len_in (fun hlen => ?_))
      | (refine Fn.use (sa) rfl rfl ?_)
      | (refine CallF_in (sa) rfl rfl ?_)
      | (refine Fn.use (sb) rfl rfl ?_)
      | (refine CallF_in (sb) rfl rfl ?_)
      | (refine Fn.use (h1) rfl rfl ?_)
      | (refine CallF_in (h1) rfl rfl ?_)
      | (refine Fn.use (h2) rfl rfl ?_)
      | (refine CallF_in (h2) rfl rfl ?_)
      | (refine Fn.use (live23_true) rfl rfl ?_)
      | (refine CallF_in (live23_true) rfl rfl ?_)
      | (refine Br_split (fun h => ?_) (fun h => ?_))
      | (refine fin0 rfl ?_)
      | (refine ArK_in (wrap_i64 (by omega) (by omega)) ?_)
      | (refine force_in ?_)))
    rfl
end Go.Eng
set_option maxRecDepth 100000
set_option linter.unusedVariables false
set_option linter.unusedSimpArgs false
namespace Go.Eng
open Go Go.Proofs
structure rngP (o : TOut) : Prop where
  h1 : i64B o.number
  h2 : i64B o.err
  h3 : i64B o.focus
  h4 : ∀ a ∈ o.acts, i64B a.1 ∧ i64B a.2
theorem rngP.to {o : TOut} (h : rngP o) (h5 : o.acts.length ≤ 1000) : rngO o := ⟨h.h1, h.h2, h.h3, h.h4, h5⟩
theorem out_sz {l : List TOut} : ∀ r ∈ l.map TOut.cs, r.length = 4 := by
  intro r hr; obtain ⟨x, _, rfl⟩ := List.mem_map.1 hr; rfl
theorem trow_sz {l : List TRow} : ∀ r ∈ l.map TRow.cs, r.length = 8 := by
  intro r hr; obtain ⟨x, _, rfl⟩ := List.mem_map.1 hr; rfl
set_option maxHeartbeats 4000000 in
theorem law_TellTraces (outs : List TOut) (rows : List TRow) (ho : ∀ o ∈ outs, rngP o) (hr : ∀ r ∈ rows, rngR r) : Fn Tryd.prog 4 [.d (.sl (outs.map TOut.cs)), .d (.sl (rows.map TRow.cs))] (.b true) := by
  refine Fn_of tt_ok Tryd.func4 rfl (by decide) Tryd.ntmps4 rfl ?_
  have hol : (outs.map TOut.cs).length = outs.length := by simp
  have hrl : (rows.map TRow.cs).length = rows.length := by simp
  repeat' ((conv => whnf); (first
    | (refine Br_true (by assumption) ?_)
    | (refine Br_false (by assumption) ?_)
    | (refine Br_true (beqT (by omega)) ?_)
    | (refine Br_false (beqF (by omega)) ?_)
    | (refine Br_beq (fun h => ?_) (fun h => ?_))
    | (refine Br_true (bneT (by omega)) ?_)
    | (refine Br_false (bneF (by omega)) ?_)
    | (refine Br_bne (fun h => ?_) (fun h => ?_))
    | (refine Br_true (decide_eq_true (by omega)) ?_)
    | (refine Br_false (decide_eq_false (by omega)) ?_)
    | (refine Br_dec (fun h => ?_) (fun h => ?_))
    | (refine Br_not ?_)
    | (refine Len_in (fun hlen => ?_))
    | (refine Br_split (fun h => ?_) (fun h => ?_))
    | (refine fin0 rfl ?_)
    | (refine ArK_in (wrap_i64 (by omega) (by omega)) ?_)
    | (refine force_in ?_)))
  refine W_loop (fun μ s => ∃ (k : Nat) (w : List TOut), k ≤ outs.length ∧ μ = outs.length - k ∧ w = outs.take k ∧ (∀ o ∈ w, o.acts.length ≤ 30) ∧ (k = 0 ∨ outs.length ≤ 30) ∧ s = ⟨[(0, .d (.sl (outs.map TOut.cs))), (1, .d (.sl (rows.map TRow.cs))), (5, .ptr 0 0), (6, .i k)], 78, [some (.row [AccV 1 4 (w.map TOut.cs), .nsl]), AccB (w.map TOut.cs)], 0, []⟩) outs.length
    ⟨⟨[(0, .d (.sl (outs.map TOut.cs))), (1, .d (.sl (rows.map TRow.cs))), (5, .ptr 0 0), (6, .i 0)], 78, [some (.row [.nsl, .nsl]), none], 0, []⟩, ?_, 0, [], by omega, by omega, by simp, by simp, .inl rfl, by simp [AccV_nil, AccB_nil]⟩ ?_
  · exact Wk.trans Wk_pad (Wk_env (by repeat (first | exact trivial | refine ⟨rfl, ?_⟩)))
  rintro μ s1 ⟨k, w, hk, rfl, hw, hw30, hk30, rfl⟩
  have hwl : w.length = k := by rw [hw]; simp; omega
  refine W_run tt_ok ?_
  refine Len_in (fun _ => ?_)
  refine Br_dec (fun h => ?_) (fun h => ?_)
  · have hlt : k < outs.length := by rw [hol] at h; omega
    have hi : (outs.map TOut.cs)[(k : Int).toNat]? = some (outs[k]).cs := by simp [hlt]
    have htk : outs.take (k + 1) = w ++ [outs[k]] := by rw [hw]; exact List.take_succ_eq_append_getElem hlt
    have hP := ho _ (List.getElem_mem hlt)
    generalize outs[k] = o at *
    have hal : (o.acts.map actC).length = o.acts.length := by simp
    by_cases g1 : outs.length > 30
    · have z : decide ((((outs.map TOut.cs).length : Nat) : Int) > 30) = true := decide_eq_true (by rw [hol]; omega)
      repeat' ((conv => whnf); (first
        | (refine Br_true z ?_)
        | (refine Br_true (by assumption) ?_)
        | (refine Br_false (by assumption) ?_)
        | (refine Br_true (beqT (by omega)) ?_)
        | (refine Br_false (beqF (by omega)) ?_)
        | (refine Br_beq (fun h => ?_) (fun h => ?_))
        | (refine Br_true (bneT (by omega)) ?_)
        | (refine Br_false (bneF (by omega)) ?_)
        | (refine Br_bne (fun h => ?_) (fun h => ?_))
        | (refine Br_true (decide_eq_true (by omega)) ?_)
        | (refine Br_false (decide_eq_false (by omega)) ?_)
        | (refine Br_dec (fun h => ?_) (fun h => ?_))
        | (refine Br_not ?_)
        | (refine Len_in (fun hlen => ?_))
        | (refine Len_in (fun _ => ?_))
        | (refine Fn.use (live23_true) rfl rfl ?_)
        | (refine CallF_in (live23_true) rfl rfl ?_)
        | (refine Br_split (fun h => ?_) (fun h => ?_))
        | (refine fin0 rfl ?_)
        | (refine ArK_in (wrap_i64 (by omega) (by omega)) ?_)
        | (refine force_in ?_)))
      rfl
    have z1 : decide ((((outs.map TOut.cs).length : Nat) : Int) > 30) = false := decide_eq_false (by rw [hol]; omega)
    by_cases g2 : o.acts.length > 30
    · have z : decide ((((o.acts.map actC).length : Nat) : Int) > 30) = true := decide_eq_true (by rw [hal]; omega)
      repeat' ((conv => whnf); (first
        | (refine Br_false z1 ?_)
        | (refine Br_true z ?_)
        | (refine Br_true (by assumption) ?_)
        | (refine Br_false (by assumption) ?_)
        | (refine Br_true (beqT (by omega)) ?_)
        | (refine Br_false (beqF (by omega)) ?_)
        | (refine Br_beq (fun h => ?_) (fun h => ?_))
        | (refine Br_true (bneT (by omega)) ?_)
        | (refine Br_false (bneF (by omega)) ?_)
        | (refine Br_bne (fun h => ?_) (fun h => ?_))
        | (refine Br_true (decide_eq_true (by omega)) ?_)
        | (refine Br_false (decide_eq_false (by omega)) ?_)
        | (refine Br_dec (fun h => ?_) (fun h => ?_))
        | (refine Br_not ?_)
        | (refine Len_in (fun hlen => ?_))
        | (refine Len_in (fun _ => ?_))
        | (refine Idx_in _ hi (by omega) rfl ?_)
        | (refine Fn.use (live23_true) rfl rfl ?_)
        | (refine CallF_in (live23_true) rfl rfl ?_)
        | (refine Br_split (fun h => ?_) (fun h => ?_))
        | (refine fin0 rfl ?_)
        | (refine ArK_in (wrap_i64 (by omega) (by omega)) ?_)
        | (refine force_in ?_)))
      rfl
    have z2 : decide ((((o.acts.map actC).length : Nat) : Int) > 30) = false := decide_eq_false (by rw [hal]; omega)
    have hO := hP.to (by omega)
    have hown := law23_own o (by omega)
    have hn30 : ∀ q ∈ w ++ [o], q.acts.length ≤ 30 := fun q hq => by
      rcases List.mem_append.1 hq with h1 | h1
      · exact hw30 q h1
      · simp at h1; subst h1; omega
    have ha := Acc_app (b := 1) (sz := 4) (rows := w.map TOut.cs) (new := [o.cs]) (by simp)
    have hol30 : outs.length ≤ 30 := by omega
    repeat' ((conv => whnf); (first
      | (refine Br_false z1 ?_)
      | (refine Br_false z2 ?_)
      | (refine Br_true (by assumption) ?_)
      | (refine Br_false (by assumption) ?_)
      | (refine Br_true (beqT (by omega)) ?_)
      | (refine Br_false (beqF (by omega)) ?_)
      | (refine Br_beq (fun h => ?_) (fun h => ?_))
      | (refine Br_true (bneT (by omega)) ?_)
      | (refine Br_false (bneF (by omega)) ?_)
      | (refine Br_bne (fun h => ?_) (fun h => ?_))
      | (refine Br_true (decide_eq_true (by omega)) ?_)
      | (refine Br_false (decide_eq_false (by omega)) ?_)
      | (refine Br_dec (fun h => ?_) (fun h => ?_))
      | (refine Br_not ?_)
      | (refine Len_in (fun hlen => ?_))
      | (refine W_draw 0 tt_ok mixed (by kernel_rfl) ?_)
      | (refine Idx_in _ hi (by omega) rfl ?_)
      | (refine Len_in (fun _ => ?_))
      | (refine Fn.use (hown) rfl rfl ?_)
      | (refine CallF_in (hown) rfl rfl ?_)
      | (refine Cell_in _ rfl (force_in ?_))
      | (refine Br_split (fun h => ?_) (fun h => ?_))
      | (refine fin0 rfl ?_)
      | (refine ArK_in (wrap_i64 (by omega) (by omega)) ?_)
      | (refine force_in ?_)))
    refine App_acc (w.map TOut.cs) [o.cs] rfl rfl rfl rfl (by simp) out_sz (by intro r hr; simp at hr; subst hr; rfl) (by simp only [List.length_map, List.length_cons, List.length_nil]; omega) (Nat.le_of_ble_eq_true rfl) ?_
    have hO1 := tell_Out o hO
    have hO2 := ref23_Out o hO
    generalize outV o = ov at *
    repeat' ((conv => whnf); (first
      | (refine Br_false (ba_same' _) ?_)
      | (refine Br_true (by assumption) ?_)
      | (refine Br_false (by assumption) ?_)
      | (refine Br_true (beqT (by omega)) ?_)
      | (refine Br_false (beqF (by omega)) ?_)
      | (refine Br_beq (fun h => ?_) (fun h => ?_))
      | (refine Br_true (bneT (by omega)) ?_)
      | (refine Br_false (bneF (by omega)) ?_)
      | (refine Br_bne (fun h => ?_) (fun h => ?_))
      | (refine Br_true (decide_eq_true (by omega)) ?_)
      | (refine Br_false (decide_eq_false (by omega)) ?_)
      | (refine Br_dec (fun h => ?_) (fun h => ?_))
      | (refine Br_not ?_)
      | (refine Len_in (fun hlen => ?_))
      | (refine W_draw 0 tt_ok mixed (by kernel_rfl) ?_)
      | (refine Idx_in _ hi (by omega) rfl ?_)
      | (refine Fn.use (hown) rfl rfl ?_)
      | (refine CallF_in (hown) rfl rfl ?_)
      | (refine Fn.use (hO1) rfl rfl ?_)
      | (refine CallF_in (hO1) rfl rfl ?_)
      | (refine Fn.use (hO2) rfl rfl ?_)
      | (refine CallF_in (hO2) rfl rfl ?_)
      | (refine Br_split (fun h => ?_) (fun h => ?_))
      | (refine fin0 rfl ?_)
      | (refine ArK_in (wrap_i64 (by omega) (by omega)) ?_)
      | (refine force_in ?_)))
    repeat' ((conv => whnf); (first
      | (refine Br_true (by assumption) ?_)
      | (refine Br_false (by assumption) ?_)
      | (refine Br_true (beqT (by omega)) ?_)
      | (refine Br_false (beqF (by omega)) ?_)
      | (refine Br_beq (fun h => ?_) (fun h => ?_))
      | (refine Br_true (bneT (by omega)) ?_)
      | (refine Br_false (bneF (by omega)) ?_)
      | (refine Br_bne (fun h => ?_) (fun h => ?_))
      | (refine Br_true (decide_eq_true (by omega)) ?_)
      | (refine Br_false (decide_eq_false (by omega)) ?_)
      | (refine Br_dec (fun h => ?_) (fun h => ?_))
      | (refine Br_not ?_)
      | (refine Len_in (fun hlen => ?_))
      | (refine Back_in ⟨[(0, .d (.sl (outs.map TOut.cs))), (1, .d (.sl (rows.map TRow.cs))), (5, .ptr 0 0), (6, .i (k + 1 : Nat))], 78, [some (.row [.msl 1 0 ((w.map TOut.cs).length + 1) ((w.map TOut.cs).length + 1) 4, .nsl]), some (.row ((w.map TOut.cs ++ [o.cs]).flatten.map .d))], 0, []⟩ _ ⟨k + 1, w ++ [o], by omega, rfl, htk.symm, hn30, .inr hol30, ?_⟩ (by omega) (Wk_ren [0, 2] rfl rfl ⟨⟨rfl, rfl⟩, ⟨by rw [renB_row]; rfl, lowB_row _ _⟩, trivial⟩ (by repeat (first | exact trivial | refine ⟨⟨rfl, rfl⟩, ?_⟩)) (by decide) (by omega)))
      | (refine Br_split (fun h => ?_) (fun h => ?_))
      | (refine fin0 rfl ?_)
      | (refine ArK_in (wrap_i64 (by omega) (by omega)) ?_)
      | (refine force_in ?_)))
    rw [List.map_append, show [o].map TOut.cs = [o.cs] from rfl, ha.1, ha.2]
    rfl
  have hkl : outs.length ≤ k := by rw [hol] at h; omega
  have hw' : w = outs := by rw [hw]; exact List.take_of_length_le hkl
  rw [hw'] at hw30
  rw [hw']
  have hO : ∀ o ∈ outs, rngO o := fun o hq => (ho o hq).to (by have := hw30 o hq; omega)
  have ho30 : outs.length ≤ 30 := by omega
  clear hw hw' hwl h hk30 hkl hk
  repeat' ((conv => whnf); (first
    | (refine Br_true (by assumption) ?_)
    | (refine Br_false (by assumption) ?_)
    | (refine Br_true (beqT (by omega)) ?_)
    | (refine Br_false (beqF (by omega)) ?_)
    | (refine Br_beq (fun h => ?_) (fun h => ?_))
    | (refine Br_true (bneT (by omega)) ?_)
    | (refine Br_false (bneF (by omega)) ?_)
    | (refine Br_bne (fun h => ?_) (fun h => ?_))
    | (refine Br_true (decide_eq_true (by omega)) ?_)
    | (refine Br_false (decide_eq_false (by omega)) ?_)
    | (refine Br_dec (fun h => ?_) (fun h => ?_))
    | (refine Br_not ?_)
    | (refine Len_in (fun hlen => ?_))
    | (refine Br_split (fun h => ?_) (fun h => ?_))
    | (refine fin0 rfl ?_)
    | (refine ArK_in (wrap_i64 (by omega) (by omega)) ?_)
    | (refine force_in ?_)))
  refine W_loop (fun μ s => ∃ (j : Nat) (w2 : List TRow), j ≤ rows.length ∧ μ = rows.length - j ∧ w2 = rows.take j ∧ (j = 0 ∨ rows.length ≤ 60) ∧ s = ⟨[(0, .d (.sl (outs.map TOut.cs))), (1, .d (.sl (rows.map TRow.cs))), (5, .ptr 0 0), (7, .i j)], 78, [some (.row [.d (.sl (outs.map TOut.cs)), AccV 1 8 (w2.map TRow.cs)]), AccB (w2.map TRow.cs)], 0, []⟩) rows.length
    ⟨⟨[(0, .d (.sl (outs.map TOut.cs))), (1, .d (.sl (rows.map TRow.cs))), (5, .ptr 0 0), (7, .i 0)], 78, [some (.row [.d (.sl (outs.map TOut.cs)), .nsl]), none], 0, []⟩, ?_, 0, [], by omega, by omega, by simp, .inl rfl, by simp [AccV_nil, AccB_nil]⟩ ?_
  · exact Wk.trans (Wk_fz (ρ' := [(0, .d (.sl (outs.map TOut.cs))), (1, .d (.sl (rows.map TRow.cs))), (5, .ptr 0 0), (7, .i 0)]) (H' := [some (.row [.d (.sl (outs.map TOut.cs)), .nsl])]) [0] [1] rfl rfl rfl ⟨⟨_, rfl, FB_rows ⟨FV_accF _ (by simp) rfl out_sz, .same _ rfl, trivial⟩⟩, trivial⟩ ⟨.same _ rfl, .same _ rfl, .ptr 0 0 0 rfl, .same _ rfl, trivial⟩ (by decide) (fun i h => by omega)) Wk_pad
  rintro μ s1 ⟨j, w2, hj, rfl, hw2, hj60, rfl⟩
  have hwl2 : w2.length = j := by rw [hw2]; simp; omega
  by_cases hjl : j < rows.length
  · refine W_run tt_ok ?_
    have hi : (rows.map TRow.cs)[(j : Int).toNat]? = some (rows[j]).cs := by simp [hjl]
    have htk : rows.take (j + 1) = w2 ++ [rows[j]] := by rw [hw2]; exact List.take_succ_eq_append_getElem hjl
    generalize rows[j] = r at *
    have zj : decide ((j : Int) < (((rows.map TRow.cs).length : Nat) : Int)) = true := decide_eq_true (by rw [hrl]; omega)
    by_cases g3 : rows.length > 60
    · have z : decide ((((rows.map TRow.cs).length : Nat) : Int) > 60) = true := decide_eq_true (by rw [hrl]; omega)
      repeat' ((conv => whnf); (first
        | (refine Br_true zj ?_)
        | (refine Br_true z ?_)
        | (refine Br_true (by assumption) ?_)
        | (refine Br_false (by assumption) ?_)
        | (refine Br_true (beqT (by omega)) ?_)
        | (refine Br_false (beqF (by omega)) ?_)
        | (refine Br_beq (fun h => ?_) (fun h => ?_))
        | (refine Br_true (bneT (by omega)) ?_)
        | (refine Br_false (bneF (by omega)) ?_)
        | (refine Br_bne (fun h => ?_) (fun h => ?_))
        | (refine Br_true (decide_eq_true (by omega)) ?_)
        | (refine Br_false (decide_eq_false (by omega)) ?_)
        | (refine Br_dec (fun h => ?_) (fun h => ?_))
        | (refine Br_not ?_)
        | (refine Len_in (fun hlen => ?_))
        | (refine Len_in (fun _ => ?_))
        | (refine Fn.use (live23_true) rfl rfl ?_)
        | (refine CallF_in (live23_true) rfl rfl ?_)
        | (refine Br_split (fun h => ?_) (fun h => ?_))
        | (refine fin0 rfl ?_)
        | (refine ArK_in (wrap_i64 (by omega) (by omega)) ?_)
        | (refine force_in ?_)))
      rfl
    have z60 : decide ((((rows.map TRow.cs).length : Nat) : Int) > 60) = false := decide_eq_false (by rw [hrl]; omega)
    have hr60 : rows.length ≤ 60 := by omega
    have ha := Acc_app (b := 1) (sz := 8) (rows := w2.map TRow.cs) (new := [r.cs]) (by simp)
    repeat' ((conv => whnf); (first
      | (refine Br_true zj ?_)
      | (refine Br_false z60 ?_)
      | (refine Br_true (by assumption) ?_)
      | (refine Br_false (by assumption) ?_)
      | (refine Br_true (beqT (by omega)) ?_)
      | (refine Br_false (beqF (by omega)) ?_)
      | (refine Br_beq (fun h => ?_) (fun h => ?_))
      | (refine Br_true (bneT (by omega)) ?_)
      | (refine Br_false (bneF (by omega)) ?_)
      | (refine Br_bne (fun h => ?_) (fun h => ?_))
      | (refine Br_true (decide_eq_true (by omega)) ?_)
      | (refine Br_false (decide_eq_false (by omega)) ?_)
      | (refine Br_dec (fun h => ?_) (fun h => ?_))
      | (refine Br_not ?_)
      | (refine Len_in (fun hlen => ?_))
      | (refine W_draw 0 tt_ok mixed (by kernel_rfl) ?_)
      | (refine Len_in (fun _ => ?_))
      | (refine Idx_in _ hi (by omega) rfl ?_)
      | (refine Cell_in _ rfl (force_in ?_))
      | (refine Br_split (fun h => ?_) (fun h => ?_))
      | (refine fin0 rfl ?_)
      | (refine ArK_in (wrap_i64 (by omega) (by omega)) ?_)
      | (refine force_in ?_)))
    refine App_acc (w2.map TRow.cs) [r.cs] rfl rfl rfl rfl (by simp) trow_sz (by intro r hr; simp at hr; subst hr; rfl) (by simp only [List.length_map, List.length_cons, List.length_nil]; omega) (Nat.le_of_ble_eq_true rfl) ?_
    repeat' ((conv => whnf); (first
      | (refine Br_true (by assumption) ?_)
      | (refine Br_false (by assumption) ?_)
      | (refine Br_true (beqT (by omega)) ?_)
      | (refine Br_false (beqF (by omega)) ?_)
      | (refine Br_beq (fun h => ?_) (fun h => ?_))
      | (refine Br_true (bneT (by omega)) ?_)
      | (refine Br_false (bneF (by omega)) ?_)
      | (refine Br_bne (fun h => ?_) (fun h => ?_))
      | (refine Br_true (decide_eq_true (by omega)) ?_)
      | (refine Br_false (decide_eq_false (by omega)) ?_)
      | (refine Br_dec (fun h => ?_) (fun h => ?_))
      | (refine Br_not ?_)
      | (refine Len_in (fun hlen => ?_))
      | (refine Back_in ⟨[(0, .d (.sl (outs.map TOut.cs))), (1, .d (.sl (rows.map TRow.cs))), (5, .ptr 0 0), (7, .i (j + 1 : Nat))], 78, [some (.row [.d (.sl (outs.map TOut.cs)), .msl 1 0 ((w2.map TRow.cs).length + 1) ((w2.map TRow.cs).length + 1) 8]), some (.row ((w2.map TRow.cs ++ [r.cs]).flatten.map .d))], 0, []⟩ _ ⟨j + 1, w2 ++ [r], by omega, rfl, htk.symm, .inr hr60, ?_⟩ (by omega) (Wk_ren [0, 2] rfl rfl ⟨⟨rfl, rfl⟩, ⟨by rw [renB_row]; rfl, lowB_row _ _⟩, trivial⟩ (by repeat (first | exact trivial | refine ⟨⟨rfl, rfl⟩, ?_⟩)) (by decide) (by omega)))
      | (refine Br_split (fun h => ?_) (fun h => ?_))
      | (refine fin0 rfl ?_)
      | (refine ArK_in (wrap_i64 (by omega) (by omega)) ?_)
      | (refine force_in ?_)))
    rw [List.map_append, show [r].map TRow.cs = [r.cs] from rfl, ha.1, ha.2]
    rfl
  have hw2' : w2 = rows := by rw [hw2]; exact List.take_of_length_le (by omega)
  rw [hw2']
  have hr60 : rows.length ≤ 60 := by omega
  have zj : decide ((j : Int) < (((rows.map TRow.cs).length : Nat) : Int)) = false := decide_eq_false (by rw [hrl]; omega)
  refine W_wk (s' := ⟨[(0, .d (.sl (outs.map TOut.cs))), (1, .d (.sl (rows.map TRow.cs))), (5, .ptr 0 0), (7, .i j)], 78, [some (.row [.d (.sl (outs.map TOut.cs)), .d (.sl (rows.map TRow.cs))])], 0, []⟩) (Wk_fz [0] [1] rfl rfl rfl ⟨⟨_, rfl, FB_rows ⟨.same _ rfl, FV_accF _ (by simp) rfl trow_sz, trivial⟩⟩, trivial⟩ ⟨.same _ rfl, .same _ rfl, .ptr 0 0 0 rfl, .same _ rfl, trivial⟩ (by decide) (fun i h => by omega)) ?_
  clear hw2 hw2' hwl2 hj60 hjl hj
  refine W_run tt_ok ?_
  refine Len_in (fun _ => ?_)
  refine Br_false zj ?_
  clear zj
  have hT1 := tell_Trace outs rows hO hr (by omega) (by omega)
  have hT2 := ref23_Trace outs rows hO hr (by omega) (by omega)
  unfold traceC at hT1
  generalize traceV outs rows = tv at *
  repeat' ((conv => whnf); (first
    | (refine Br_true (ba_same _) ?_)
    | (refine Br_true (by assumption) ?_)
    | (refine Br_false (by assumption) ?_)
    | (refine Br_true (beqT (by omega)) ?_)
    | (refine Br_false (beqF (by omega)) ?_)
    | (refine Br_beq (fun h => ?_) (fun h => ?_))
    | (refine Br_true (bneT (by omega)) ?_)
    | (refine Br_false (bneF (by omega)) ?_)
    | (refine Br_bne (fun h => ?_) (fun h => ?_))
    | (refine Br_true (decide_eq_true (by omega)) ?_)
    | (refine Br_false (decide_eq_false (by omega)) ?_)
    | (refine Br_dec (fun h => ?_) (fun h => ?_))
    | (refine Br_not ?_)
    | (refine Len_in (fun hlen => ?_))
    | (refine Fn.use (hT1) rfl rfl ?_)
    | (refine CallF_in (hT1) rfl rfl ?_)
    | (refine Fn.use (hT2) rfl rfl ?_)
    | (refine CallF_in (hT2) rfl rfl ?_)
    | (refine Fn.use (live23_true) rfl rfl ?_)
    | (refine CallF_in (live23_true) rfl rfl ?_)
    | (refine Br_split (fun h => ?_) (fun h => ?_))
    | (refine fin0 rfl ?_)
    | (refine ArK_in (wrap_i64 (by omega) (by omega)) ?_)
    | (refine force_in ?_)))
  rfl
end Go.Eng
set_option maxRecDepth 100000
set_option linter.unusedVariables false
set_option linter.unusedSimpArgs false
namespace Go.Eng
open Go Go.Proofs
theorem nsl_of {f : FuncId} {x y : AV} {t : ByteArray} (h : Fn Tryd.prog f [y] (.d (.str t))) (hv : FV [] [] [] x y) : Fn Tryd.prog f [x] (.d (.str t)) := by
  unfold Fn
  exact Tri.peek h rfl [] rfl (FV_args1 hv) ⟨rfl, rfl⟩
theorem traceV_app (a b : List TOut) (r q : List TRow) : traceV (a ++ b) (r ++ q) = traceV a [] ++ traceV b r ++ traceV [] q := by
  unfold traceV; simp
theorem trace_len {outs : List TOut} {rows : List TRow} (ho : ∀ o ∈ outs, rngO o) (hr : ∀ r ∈ rows, rngR r) (hol : outs.length ≤ 1000) (hrl : rows.length ≤ 100000) : (traceV outs rows).length ≤ 100000000 := by
  have h1 := flat_len outs (fun o => lineV (outV o)) 70001 fun o ho' => by have := outV_len (ho o ho'); unfold lineV; simp; omega
  have h2 := flat_len rows (fun r => lineV (rowV r)) 201 fun o ho' => by have := rowV_len (hr o ho'); unfold lineV; simp; omega
  have h3 : outs.length * 70001 ≤ 1000 * 70001 := Nat.mul_le_mul_right _ hol
  have h4 : rows.length * 201 ≤ 100000 * 201 := Nat.mul_le_mul_right _ hrl
  unfold traceV
  rw [List.length_append]
  omega
set_option maxHeartbeats 4000000 in
theorem law_TellJoined (outs : List TOut) (rows : List TRow) (n : Int) (ho : ∀ o ∈ outs, rngP o) (hr : ∀ r ∈ rows, rngR r) : Fn Tryd.prog 6 [.d (.sl (outs.map TOut.cs)), .d (.sl (rows.map TRow.cs)), .i n] (.b true) := by
  refine Fn_of tt_ok Tryd.func6 rfl (by decide) Tryd.ntmps6 rfl ?_
  have hol : (outs.map TOut.cs).length = outs.length := by simp
  have hrl : (rows.map TRow.cs).length = rows.length := by simp
  by_cases g1 : outs.length > 30
  · have z : decide ((((outs.map TOut.cs).length : Nat) : Int) > 30) = true := decide_eq_true (by rw [hol]; omega)
    repeat' ((conv => whnf); (first
      | (refine Br_true z ?_)
      | (refine Br_true (by assumption) ?_)
      | (refine Br_false (by assumption) ?_)
      | (refine Br_true (beqT (by omega)) ?_)
      | (refine Br_false (beqF (by omega)) ?_)
      | (refine Br_beq (fun h => ?_) (fun h => ?_))
      | (refine Br_true (bneT (by omega)) ?_)
      | (refine Br_false (bneF (by omega)) ?_)
      | (refine Br_bne (fun h => ?_) (fun h => ?_))
      | (refine Br_true (decide_eq_true (by omega)) ?_)
      | (refine Br_false (decide_eq_false (by omega)) ?_)
      | (refine Br_dec (fun h => ?_) (fun h => ?_))
      | (refine Br_not ?_)
      | (refine Len_in (fun hlen => ?_))
      | (refine Len_in (fun _ => ?_))
      | (refine Fn.use (live23_true) rfl rfl ?_)
      | (refine CallF_in (live23_true) rfl rfl ?_)
      | (refine Br_split (fun h => ?_) (fun h => ?_))
      | (refine fin0 rfl ?_)
      | (refine ArK_in (wrap_i64 (by omega) (by omega)) ?_)
      | (refine force_in ?_)))
    rfl
  have z1 : decide ((((outs.map TOut.cs).length : Nat) : Int) > 30) = false := decide_eq_false (by rw [hol]; omega)
  by_cases g3 : rows.length > 60
  · have z : decide ((((rows.map TRow.cs).length : Nat) : Int) > 60) = true := decide_eq_true (by rw [hrl]; omega)
    repeat' ((conv => whnf); (first
      | (refine Br_false z1 ?_)
      | (refine Br_true z ?_)
      | (refine Br_true (by assumption) ?_)
      | (refine Br_false (by assumption) ?_)
      | (refine Br_true (beqT (by omega)) ?_)
      | (refine Br_false (beqF (by omega)) ?_)
      | (refine Br_beq (fun h => ?_) (fun h => ?_))
      | (refine Br_true (bneT (by omega)) ?_)
      | (refine Br_false (bneF (by omega)) ?_)
      | (refine Br_bne (fun h => ?_) (fun h => ?_))
      | (refine Br_true (decide_eq_true (by omega)) ?_)
      | (refine Br_false (decide_eq_false (by omega)) ?_)
      | (refine Br_dec (fun h => ?_) (fun h => ?_))
      | (refine Br_not ?_)
      | (refine Len_in (fun hlen => ?_))
      | (refine Len_in (fun _ => ?_))
      | (refine Fn.use (live23_true) rfl rfl ?_)
      | (refine CallF_in (live23_true) rfl rfl ?_)
      | (refine Br_split (fun h => ?_) (fun h => ?_))
      | (refine fin0 rfl ?_)
      | (refine ArK_in (wrap_i64 (by omega) (by omega)) ?_)
      | (refine force_in ?_)))
    rfl
  have z3 : decide ((((rows.map TRow.cs).length : Nat) : Int) > 60) = false := decide_eq_false (by rw [hrl]; omega)
  by_cases g4 : n < 0
  · have z : decide (n < 0) = true := decide_eq_true g4
    repeat' ((conv => whnf); (first
      | (refine Br_false z1 ?_)
      | (refine Br_false z3 ?_)
      | (refine Br_true z ?_)
      | (refine Br_true (by assumption) ?_)
      | (refine Br_false (by assumption) ?_)
      | (refine Br_true (beqT (by omega)) ?_)
      | (refine Br_false (beqF (by omega)) ?_)
      | (refine Br_beq (fun h => ?_) (fun h => ?_))
      | (refine Br_true (bneT (by omega)) ?_)
      | (refine Br_false (bneF (by omega)) ?_)
      | (refine Br_bne (fun h => ?_) (fun h => ?_))
      | (refine Br_true (decide_eq_true (by omega)) ?_)
      | (refine Br_false (decide_eq_false (by omega)) ?_)
      | (refine Br_dec (fun h => ?_) (fun h => ?_))
      | (refine Br_not ?_)
      | (refine Len_in (fun hlen => ?_))
      | (refine Len_in (fun _ => ?_))
      | (refine Fn.use (live23_true) rfl rfl ?_)
      | (refine CallF_in (live23_true) rfl rfl ?_)
      | (refine Br_split (fun h => ?_) (fun h => ?_))
      | (refine fin0 rfl ?_)
      | (refine ArK_in (wrap_i64 (by omega) (by omega)) ?_)
      | (refine force_in ?_)))
    rfl
  have z4 : decide (n < 0) = false := decide_eq_false g4
  by_cases g5 : n > outs.length
  · have z : decide (n > (((outs.map TOut.cs).length : Nat) : Int)) = true := decide_eq_true (by rw [hol]; omega)
    repeat' ((conv => whnf); (first
      | (refine Br_false z1 ?_)
      | (refine Br_false z3 ?_)
      | (refine Br_false z4 ?_)
      | (refine Br_true z ?_)
      | (refine Br_true (by assumption) ?_)
      | (refine Br_false (by assumption) ?_)
      | (refine Br_true (beqT (by omega)) ?_)
      | (refine Br_false (beqF (by omega)) ?_)
      | (refine Br_beq (fun h => ?_) (fun h => ?_))
      | (refine Br_true (bneT (by omega)) ?_)
      | (refine Br_false (bneF (by omega)) ?_)
      | (refine Br_bne (fun h => ?_) (fun h => ?_))
      | (refine Br_true (decide_eq_true (by omega)) ?_)
      | (refine Br_false (decide_eq_false (by omega)) ?_)
      | (refine Br_dec (fun h => ?_) (fun h => ?_))
      | (refine Br_not ?_)
      | (refine Len_in (fun hlen => ?_))
      | (refine Len_in (fun _ => ?_))
      | (refine Fn.use (live23_true) rfl rfl ?_)
      | (refine CallF_in (live23_true) rfl rfl ?_)
      | (refine Br_split (fun h => ?_) (fun h => ?_))
      | (refine fin0 rfl ?_)
      | (refine ArK_in (wrap_i64 (by omega) (by omega)) ?_)
      | (refine force_in ?_)))
    rfl
  have z5 : decide (n > (((outs.map TOut.cs).length : Nat) : Int)) = false := decide_eq_false (by rw [hol]; omega)
  by_cases g6 : n > rows.length
  · have z : decide (n > (((rows.map TRow.cs).length : Nat) : Int)) = true := decide_eq_true (by rw [hrl]; omega)
    repeat' ((conv => whnf); (first
      | (refine Br_false z1 ?_)
      | (refine Br_false z3 ?_)
      | (refine Br_false z4 ?_)
      | (refine Br_false z5 ?_)
      | (refine Br_true z ?_)
      | (refine Br_true (by assumption) ?_)
      | (refine Br_false (by assumption) ?_)
      | (refine Br_true (beqT (by omega)) ?_)
      | (refine Br_false (beqF (by omega)) ?_)
      | (refine Br_beq (fun h => ?_) (fun h => ?_))
      | (refine Br_true (bneT (by omega)) ?_)
      | (refine Br_false (bneF (by omega)) ?_)
      | (refine Br_bne (fun h => ?_) (fun h => ?_))
      | (refine Br_true (decide_eq_true (by omega)) ?_)
      | (refine Br_false (decide_eq_false (by omega)) ?_)
      | (refine Br_dec (fun h => ?_) (fun h => ?_))
      | (refine Br_not ?_)
      | (refine Len_in (fun hlen => ?_))
      | (refine Len_in (fun _ => ?_))
      | (refine Fn.use (live23_true) rfl rfl ?_)
      | (refine CallF_in (live23_true) rfl rfl ?_)
      | (refine Br_split (fun h => ?_) (fun h => ?_))
      | (refine fin0 rfl ?_)
      | (refine ArK_in (wrap_i64 (by omega) (by omega)) ?_)
      | (refine force_in ?_)))
    rfl
  have z6 : decide (n > (((rows.map TRow.cs).length : Nat) : Int)) = false := decide_eq_false (by rw [hrl]; omega)
  repeat' ((conv => whnf); (first
    | (refine Br_false z1 ?_)
    | (refine Br_false z3 ?_)
    | (refine Br_false z4 ?_)
    | (refine Br_false z5 ?_)
    | (refine Br_false z6 ?_)
    | (refine Br_true (by assumption) ?_)
    | (refine Br_false (by assumption) ?_)
    | (refine Br_true (beqT (by omega)) ?_)
    | (refine Br_false (beqF (by omega)) ?_)
    | (refine Br_beq (fun h => ?_) (fun h => ?_))
    | (refine Br_true (bneT (by omega)) ?_)
    | (refine Br_false (bneF (by omega)) ?_)
    | (refine Br_bne (fun h => ?_) (fun h => ?_))
    | (refine Br_true (decide_eq_true (by omega)) ?_)
    | (refine Br_false (decide_eq_false (by omega)) ?_)
    | (refine Br_dec (fun h => ?_) (fun h => ?_))
    | (refine Br_not ?_)
    | (refine Len_in (fun hlen => ?_))
    | (refine Len_in (fun _ => ?_))
    | (refine Br_split (fun h => ?_) (fun h => ?_))
    | (refine fin0 rfl ?_)
    | (refine ArK_in (wrap_i64 (by omega) (by omega)) ?_)
    | (refine force_in ?_)))
  refine W_loop (fun μ s => ∃ (k : Nat) (w : List TOut), k ≤ outs.length ∧ μ = outs.length - k ∧ w = outs.take k ∧ (∀ o ∈ w, o.acts.length ≤ 30) ∧ (k = 0 ∨ outs.length ≤ 30) ∧ s = ⟨[(0, .d (.sl (outs.map TOut.cs))), (1, .d (.sl (rows.map TRow.cs))), (2, .i n), (7, .ptr 0 0), (8, .i k)], 111, [some (.row [AccV 1 4 (w.map TOut.cs), .nsl]), AccB (w.map TOut.cs)], 0, []⟩) outs.length
    ⟨⟨[(0, .d (.sl (outs.map TOut.cs))), (1, .d (.sl (rows.map TRow.cs))), (2, .i n), (7, .ptr 0 0), (8, .i 0)], 111, [some (.row [.nsl, .nsl]), none], 0, []⟩, ?_, 0, [], by omega, by omega, by simp, by simp, .inl rfl, by simp [AccV_nil, AccB_nil]⟩ ?_
  · exact Wk.trans Wk_pad (Wk_env (by repeat (first | exact trivial | refine ⟨rfl, ?_⟩)))
  rintro μ s1 ⟨k, w, hk, rfl, hw, hw30, hk30, rfl⟩
  have hwl : w.length = k := by rw [hw]; simp; omega
  refine W_run tt_ok ?_
  refine Len_in (fun _ => ?_)
  refine Br_dec (fun h => ?_) (fun h => ?_)
  · have hlt : k < outs.length := by rw [hol] at h; omega
    have hi : (outs.map TOut.cs)[(k : Int).toNat]? = some (outs[k]).cs := by simp [hlt]
    have htk : outs.take (k + 1) = w ++ [outs[k]] := by rw [hw]; exact List.take_succ_eq_append_getElem hlt
    have hP := ho _ (List.getElem_mem hlt)
    generalize outs[k] = o at *
    have hal : (o.acts.map actC).length = o.acts.length := by simp
    by_cases g2 : o.acts.length > 30
    · have z : decide ((((o.acts.map actC).length : Nat) : Int) > 30) = true := decide_eq_true (by rw [hal]; omega)
      repeat' ((conv => whnf); (first
        | (refine Br_true z ?_)
        | (refine Br_true (by assumption) ?_)
        | (refine Br_false (by assumption) ?_)
        | (refine Br_true (beqT (by omega)) ?_)
        | (refine Br_false (beqF (by omega)) ?_)
        | (refine Br_beq (fun h => ?_) (fun h => ?_))
        | (refine Br_true (bneT (by omega)) ?_)
        | (refine Br_false (bneF (by omega)) ?_)
        | (refine Br_bne (fun h => ?_) (fun h => ?_))
        | (refine Br_true (decide_eq_true (by omega)) ?_)
        | (refine Br_false (decide_eq_false (by omega)) ?_)
        | (refine Br_dec (fun h => ?_) (fun h => ?_))
        | (refine Br_not ?_)
        | (refine Len_in (fun hlen => ?_))
        | (refine Len_in (fun _ => ?_))
        | (refine Idx_in _ hi (by omega) rfl ?_)
        | (refine Fn.use (live23_true) rfl rfl ?_)
        | (refine CallF_in (live23_true) rfl rfl ?_)
        | (refine Br_split (fun h => ?_) (fun h => ?_))
        | (refine fin0 rfl ?_)
        | (refine ArK_in (wrap_i64 (by omega) (by omega)) ?_)
        | (refine force_in ?_)))
      rfl
    have z2 : decide ((((o.acts.map actC).length : Nat) : Int) > 30) = false := decide_eq_false (by rw [hal]; omega)
    have hO := hP.to (by omega)
    have hown := law23_own o (by omega)
    have hn30 : ∀ q ∈ w ++ [o], q.acts.length ≤ 30 := fun q hq => by
      rcases List.mem_append.1 hq with h1 | h1
      · exact hw30 q h1
      · simp at h1; subst h1; omega
    have ha := Acc_app (b := 1) (sz := 4) (rows := w.map TOut.cs) (new := [o.cs]) (by simp)
    have hol30 : outs.length ≤ 30 := by omega
    repeat' ((conv => whnf); (first
      | (refine Br_false z2 ?_)
      | (refine Br_true (by assumption) ?_)
      | (refine Br_false (by assumption) ?_)
      | (refine Br_true (beqT (by omega)) ?_)
      | (refine Br_false (beqF (by omega)) ?_)
      | (refine Br_beq (fun h => ?_) (fun h => ?_))
      | (refine Br_true (bneT (by omega)) ?_)
      | (refine Br_false (bneF (by omega)) ?_)
      | (refine Br_bne (fun h => ?_) (fun h => ?_))
      | (refine Br_true (decide_eq_true (by omega)) ?_)
      | (refine Br_false (decide_eq_false (by omega)) ?_)
      | (refine Br_dec (fun h => ?_) (fun h => ?_))
      | (refine Br_not ?_)
      | (refine Len_in (fun hlen => ?_))
      | (refine W_draw 0 tt_ok mixed (by kernel_rfl) ?_)
      | (refine Idx_in _ hi (by omega) rfl ?_)
      | (refine Len_in (fun _ => ?_))
      | (refine Fn.use (hown) rfl rfl ?_)
      | (refine CallF_in (hown) rfl rfl ?_)
      | (refine Cell_in _ rfl (force_in ?_))
      | (refine Br_split (fun h => ?_) (fun h => ?_))
      | (refine fin0 rfl ?_)
      | (refine ArK_in (wrap_i64 (by omega) (by omega)) ?_)
      | (refine force_in ?_)))
    refine App_acc (w.map TOut.cs) [o.cs] rfl rfl rfl rfl (by simp) out_sz (by intro r hr; simp at hr; subst hr; rfl) (by simp only [List.length_map, List.length_cons, List.length_nil]; omega) (Nat.le_of_ble_eq_true rfl) ?_
    repeat' ((conv => whnf); (first
      | (refine Br_true (by assumption) ?_)
      | (refine Br_false (by assumption) ?_)
      | (refine Br_true (beqT (by omega)) ?_)
      | (refine Br_false (beqF (by omega)) ?_)
      | (refine Br_beq (fun h => ?_) (fun h => ?_))
      | (refine Br_true (bneT (by omega)) ?_)
      | (refine Br_false (bneF (by omega)) ?_)
      | (refine Br_bne (fun h => ?_) (fun h => ?_))
      | (refine Br_true (decide_eq_true (by omega)) ?_)
      | (refine Br_false (decide_eq_false (by omega)) ?_)
      | (refine Br_dec (fun h => ?_) (fun h => ?_))
      | (refine Br_not ?_)
      | (refine Len_in (fun hlen => ?_))
      | (refine Back_in ⟨[(0, .d (.sl (outs.map TOut.cs))), (1, .d (.sl (rows.map TRow.cs))), (2, .i n), (7, .ptr 0 0), (8, .i (k + 1 : Nat))], 111, [some (.row [.msl 1 0 ((w.map TOut.cs).length + 1) ((w.map TOut.cs).length + 1) 4, .nsl]), some (.row ((w.map TOut.cs ++ [o.cs]).flatten.map .d))], 0, []⟩ _ ⟨k + 1, w ++ [o], by omega, rfl, htk.symm, hn30, .inr hol30, ?_⟩ (by omega) (Wk_ren [0, 2] rfl rfl ⟨⟨rfl, rfl⟩, ⟨by rw [renB_row]; rfl, lowB_row _ _⟩, trivial⟩ (by repeat (first | exact trivial | refine ⟨⟨rfl, rfl⟩, ?_⟩)) (by decide) (by omega)))
      | (refine Br_split (fun h => ?_) (fun h => ?_))
      | (refine fin0 rfl ?_)
      | (refine ArK_in (wrap_i64 (by omega) (by omega)) ?_)
      | (refine force_in ?_)))
    rw [List.map_append, show [o].map TOut.cs = [o.cs] from rfl, ha.1, ha.2]
    rfl
  have hkl : outs.length ≤ k := by rw [hol] at h; omega
  have hw' : w = outs := by rw [hw]; exact List.take_of_length_le hkl
  rw [hw'] at hw30
  rw [hw']
  have hO : ∀ o ∈ outs, rngO o := fun o hq => (ho o hq).to (by have := hw30 o hq; omega)
  have ho30 : outs.length ≤ 30 := by omega
  clear hw hw' hwl h hk30 hkl hk
  repeat' ((conv => whnf); (first
    | (refine Br_true (by assumption) ?_)
    | (refine Br_false (by assumption) ?_)
    | (refine Br_true (beqT (by omega)) ?_)
    | (refine Br_false (beqF (by omega)) ?_)
    | (refine Br_beq (fun h => ?_) (fun h => ?_))
    | (refine Br_true (bneT (by omega)) ?_)
    | (refine Br_false (bneF (by omega)) ?_)
    | (refine Br_bne (fun h => ?_) (fun h => ?_))
    | (refine Br_true (decide_eq_true (by omega)) ?_)
    | (refine Br_false (decide_eq_false (by omega)) ?_)
    | (refine Br_dec (fun h => ?_) (fun h => ?_))
    | (refine Br_not ?_)
    | (refine Len_in (fun hlen => ?_))
    | (refine Br_split (fun h => ?_) (fun h => ?_))
    | (refine fin0 rfl ?_)
    | (refine ArK_in (wrap_i64 (by omega) (by omega)) ?_)
    | (refine force_in ?_)))
  refine W_loop (fun μ s => ∃ (j : Nat) (w2 : List TRow), j ≤ rows.length ∧ μ = rows.length - j ∧ w2 = rows.take j ∧ (j = 0 ∨ rows.length ≤ 60) ∧ s = ⟨[(0, .d (.sl (outs.map TOut.cs))), (1, .d (.sl (rows.map TRow.cs))), (2, .i n), (7, .ptr 0 0), (9, .i j)], 111, [some (.row [.d (.sl (outs.map TOut.cs)), AccV 1 8 (w2.map TRow.cs)]), AccB (w2.map TRow.cs)], 0, []⟩) rows.length
    ⟨⟨[(0, .d (.sl (outs.map TOut.cs))), (1, .d (.sl (rows.map TRow.cs))), (2, .i n), (7, .ptr 0 0), (9, .i 0)], 111, [some (.row [.d (.sl (outs.map TOut.cs)), .nsl]), none], 0, []⟩, ?_, 0, [], by omega, by omega, by simp, .inl rfl, by simp [AccV_nil, AccB_nil]⟩ ?_
  · exact Wk.trans (Wk_fz (ρ' := [(0, .d (.sl (outs.map TOut.cs))), (1, .d (.sl (rows.map TRow.cs))), (2, .i n), (7, .ptr 0 0), (9, .i 0)]) (H' := [some (.row [.d (.sl (outs.map TOut.cs)), .nsl])]) [0] [1] rfl rfl rfl ⟨⟨_, rfl, FB_rows ⟨FV_accF _ (by simp) rfl out_sz, .same _ rfl, trivial⟩⟩, trivial⟩ ⟨.same _ rfl, .same _ rfl, .same _ rfl, .ptr 0 0 0 rfl, .same _ rfl, trivial⟩ (by decide) (fun i h => by omega)) Wk_pad
  rintro μ s1 ⟨j, w2, hj, rfl, hw2, hj60, rfl⟩
  have hwl2 : w2.length = j := by rw [hw2]; simp; omega
  by_cases hjl : j < rows.length
  · refine W_run tt_ok ?_
    have hi : (rows.map TRow.cs)[(j : Int).toNat]? = some (rows[j]).cs := by simp [hjl]
    have htk : rows.take (j + 1) = w2 ++ [rows[j]] := by rw [hw2]; exact List.take_succ_eq_append_getElem hjl
    generalize rows[j] = r at *
    have zj : decide ((j : Int) < (((rows.map TRow.cs).length : Nat) : Int)) = true := decide_eq_true (by rw [hrl]; omega)
    have hr60 : rows.length ≤ 60 := by omega
    have ha := Acc_app (b := 1) (sz := 8) (rows := w2.map TRow.cs) (new := [r.cs]) (by simp)
    repeat' ((conv => whnf); (first
      | (refine Br_true zj ?_)
      | (refine Br_true (by assumption) ?_)
      | (refine Br_false (by assumption) ?_)
      | (refine Br_true (beqT (by omega)) ?_)
      | (refine Br_false (beqF (by omega)) ?_)
      | (refine Br_beq (fun h => ?_) (fun h => ?_))
      | (refine Br_true (bneT (by omega)) ?_)
      | (refine Br_false (bneF (by omega)) ?_)
      | (refine Br_bne (fun h => ?_) (fun h => ?_))
      | (refine Br_true (decide_eq_true (by omega)) ?_)
      | (refine Br_false (decide_eq_false (by omega)) ?_)
      | (refine Br_dec (fun h => ?_) (fun h => ?_))
      | (refine Br_not ?_)
      | (refine Len_in (fun hlen => ?_))
      | (refine W_draw 0 tt_ok mixed (by kernel_rfl) ?_)
      | (refine Len_in (fun _ => ?_))
      | (refine Idx_in _ hi (by omega) rfl ?_)
      | (refine Cell_in _ rfl (force_in ?_))
      | (refine Br_split (fun h => ?_) (fun h => ?_))
      | (refine fin0 rfl ?_)
      | (refine ArK_in (wrap_i64 (by omega) (by omega)) ?_)
      | (refine force_in ?_)))
    refine App_acc (w2.map TRow.cs) [r.cs] rfl rfl rfl rfl (by simp) trow_sz (by intro r hr; simp at hr; subst hr; rfl) (by simp only [List.length_map, List.length_cons, List.length_nil]; omega) (Nat.le_of_ble_eq_true rfl) ?_
    repeat' ((conv => whnf); (first
      | (refine Br_true (by assumption) ?_)
      | (refine Br_false (by assumption) ?_)
      | (refine Br_true (beqT (by omega)) ?_)
      | (refine Br_false (beqF (by omega)) ?_)
      | (refine Br_beq (fun h => ?_) (fun h => ?_))
      | (refine Br_true (bneT (by omega)) ?_)
      | (refine Br_false (bneF (by omega)) ?_)
      | (refine Br_bne (fun h => ?_) (fun h => ?_))
      | (refine Br_true (decide_eq_true (by omega)) ?_)
      | (refine Br_false (decide_eq_false (by omega)) ?_)
      | (refine Br_dec (fun h => ?_) (fun h => ?_))
      | (refine Br_not ?_)
      | (refine Len_in (fun hlen => ?_))
      | (refine Back_in ⟨[(0, .d (.sl (outs.map TOut.cs))), (1, .d (.sl (rows.map TRow.cs))), (2, .i n), (7, .ptr 0 0), (9, .i (j + 1 : Nat))], 111, [some (.row [.d (.sl (outs.map TOut.cs)), .msl 1 0 ((w2.map TRow.cs).length + 1) ((w2.map TRow.cs).length + 1) 8]), some (.row ((w2.map TRow.cs ++ [r.cs]).flatten.map .d))], 0, []⟩ _ ⟨j + 1, w2 ++ [r], by omega, rfl, htk.symm, .inr hr60, ?_⟩ (by omega) (Wk_ren [0, 2] rfl rfl ⟨⟨rfl, rfl⟩, ⟨by rw [renB_row]; rfl, lowB_row _ _⟩, trivial⟩ (by repeat (first | exact trivial | refine ⟨⟨rfl, rfl⟩, ?_⟩)) (by decide) (by omega)))
      | (refine Br_split (fun h => ?_) (fun h => ?_))
      | (refine fin0 rfl ?_)
      | (refine ArK_in (wrap_i64 (by omega) (by omega)) ?_)
      | (refine force_in ?_)))
    rw [List.map_append, show [r].map TRow.cs = [r.cs] from rfl, ha.1, ha.2]
    rfl
  have hw2' : w2 = rows := by rw [hw2]; exact List.take_of_length_le (by omega)
  rw [hw2']
  have hr60 : rows.length ≤ 60 := by omega
  have zj : decide ((j : Int) < (((rows.map TRow.cs).length : Nat) : Int)) = false := decide_eq_false (by rw [hrl]; omega)
  refine W_wk (s' := ⟨[(0, .d (.sl (outs.map TOut.cs))), (1, .d (.sl (rows.map TRow.cs))), (2, .i n), (7, .ptr 0 0), (9, .i j)], 111, [some (.row [.d (.sl (outs.map TOut.cs)), .d (.sl (rows.map TRow.cs))])], 0, []⟩) (Wk_fz [0] [1] rfl rfl rfl ⟨⟨_, rfl, FB_rows ⟨.same _ rfl, FV_accF _ (by simp) rfl trow_sz, trivial⟩⟩, trivial⟩ ⟨.same _ rfl, .same _ rfl, .same _ rfl, .ptr 0 0 0 rfl, .same _ rfl, trivial⟩ (by decide) (fun i h => by omega)) ?_
  clear hw2 hw2' hwl2 hj60 hjl hj
  refine W_run tt_ok ?_
  refine Len_in (fun _ => ?_)
  refine Br_false zj ?_
  clear zj
  obtain ⟨at_, rfl⟩ : ∃ m : Nat, n = m := ⟨n.toNat, by omega⟩
  have hO1 : ∀ o ∈ outs.take at_, rngO o := fun o h => hO o (List.mem_of_mem_take h)
  have hO2 : ∀ o ∈ outs.drop at_, rngO o := fun o h => hO o (List.mem_of_mem_drop h)
  have hr1 : ∀ r ∈ rows.take at_, rngR r := fun r h => hr r (List.mem_of_mem_take h)
  have hr2 : ∀ r ∈ rows.drop at_, rngR r := fun r h => hr r (List.mem_of_mem_drop h)
  have hT := tell_Trace outs rows hO hr (by omega) (by omega)
  have hT1 := tell_Trace (outs.take at_) [] hO1 (by simp) (by simp; omega) (by simp)
  have hT2 := tell_Trace (outs.drop at_) (rows.take at_) hO2 hr1 (by simp; omega) (by simp; omega)
  have hT3 := tell_Trace [] (rows.drop at_) (by simp) hr2 (by simp) (by simp; omega)
  have happ : traceV outs rows = traceV (outs.take at_) [] ++ traceV (outs.drop at_) (rows.take at_) ++ traceV [] (rows.drop at_) := by
    have := traceV_app (outs.take at_) (outs.drop at_) (rows.take at_) (rows.drop at_)
    rwa [List.take_append_drop, List.take_append_drop] at this
  have hl1 : (traceV (outs.take at_) []).length ≤ 100000000 := trace_len hO1 (by simp) (by simp; omega) (by simp)
  have hl2 : (traceV (outs.drop at_) (rows.take at_)).length ≤ 100000000 := trace_len hO2 hr1 (by simp; omega) (by simp; omega)
  have hl3 : (traceV [] (rows.drop at_)).length ≤ 100000000 := trace_len (by simp) hr2 (by simp) (by simp; omega)
  unfold traceC at hT hT1 hT2 hT3
  simp only [List.map_take, List.map_drop, List.map_nil] at hT hT1 hT2 hT3
  generalize traceV outs rows = tv at *
  generalize traceV (outs.take at_) [] = v1 at *
  generalize traceV (outs.drop at_) (rows.take at_) = v2 at *
  generalize traceV [] (rows.drop at_) = v3 at *
  have hq : ((⟨tv.toArray⟩ : ByteArray).toList == (((⟨v1.toArray⟩ : ByteArray) ++ (⟨v2.toArray⟩ : ByteArray)) ++ (⟨v3.toArray⟩ : ByteArray)).toList) = true := by rw [str_add, str_add, happ]; simp
  have so : ∀ r ∈ outs.map TOut.cs, r.length = 4 := out_sz
  have sr : ∀ r ∈ rows.map TRow.cs, r.length = 8 := trow_sz
  generalize outs.map TOut.cs = oc at *
  generalize rows.map TRow.cs = rc at *
  have e1 : ((oc.take ((at_ : Int)).toNat).drop ((0 : Int)).toNat) = oc.take at_ := by simp
  have e2 : ((oc.take (((oc.length : Nat) : Int)).toNat).drop ((at_ : Int)).toNat) = oc.drop at_ := by simp
  have e3 : ((rc.take ((at_ : Int)).toNat).drop ((0 : Int)).toNat) = rc.take at_ := by simp
  have e4 : ((rc.take (((rc.length : Nat) : Int)).toNat).drop ((at_ : Int)).toNat) = rc.drop at_ := by simp
  rw [← e1] at hT1
  rw [← e2, ← e3] at hT2
  rw [← e4] at hT3
  have hT1' := nsl_of hT1 (FV_aggs (xs := [_, .nsl]) ⟨.same _ rfl, .nsl, trivial⟩)
  have hT3' := nsl_of hT3 (FV_aggs (xs := [.nsl, _]) ⟨.nsl, .same _ rfl, trivial⟩)
  clear hT1 hT3
  repeat' ((conv => whnf); (first
    | (refine Br_true hq ?_)
    | (refine Br_true (by assumption) ?_)
    | (refine Br_false (by assumption) ?_)
    | (refine Br_true (beqT (by omega)) ?_)
    | (refine Br_false (beqF (by omega)) ?_)
    | (refine Br_beq (fun h => ?_) (fun h => ?_))
    | (refine Br_true (bneT (by omega)) ?_)
    | (refine Br_false (bneF (by omega)) ?_)
    | (refine Br_bne (fun h => ?_) (fun h => ?_))
    | (refine Br_true (decide_eq_true (by omega)) ?_)
    | (refine Br_false (decide_eq_false (by omega)) ?_)
    | (refine Br_dec (fun h => ?_) (fun h => ?_))
    | (refine Br_not ?_)
    | (refine Len_in (fun hlen => ?_))
    | (refine W_draw 0 tt_ok mixed (by kernel_rfl) ?_)
    | (refine Need_in ⟨by omega, by omega, by omega, so⟩ ?_)
    | (refine Need_in ⟨by omega, by omega, by omega, sr⟩ ?_)
    | (refine Fn.use (hT) rfl rfl ?_)
    | (refine CallF_in (hT) rfl rfl ?_)
    | (refine Fn.use (hT2) rfl rfl ?_)
    | (refine CallF_in (hT2) rfl rfl ?_)
    | (refine Fn.use (hT1') rfl rfl ?_)
    | (refine CallF_in (hT1') rfl rfl ?_)
    | (refine Fn.use (hT3') rfl rfl ?_)
    | (refine CallF_in (hT3') rfl rfl ?_)
    | (refine Need_in (by simp only [str_add, str_size, List.length_append]; unfold LB; simp; omega) ?_)
    | (refine Fn.use (live23_true) rfl rfl ?_)
    | (refine CallF_in (live23_true) rfl rfl ?_)
    | (refine Br_split (fun h => ?_) (fun h => ?_))
    | (refine fin0 rfl ?_)
    | (refine ArK_in (wrap_i64 (by omega) (by omega)) ?_)
    | (refine force_in ?_)))
  rfl
end Go.Eng
set_option maxRecDepth 100000
set_option linter.unusedVariables false
set_option linter.unusedSimpArgs false
namespace Go.Eng
open Go Go.Proofs
theorem joinL_nm (c d : UInt8) (ws : List (List UInt8)) (hcd : d ≠ c) (h : ∀ w ∈ ws, d ∉ w) : d ∉ joinL c ws := by
  induction ws with
  | nil => simp [joinL]
  | cons w ws ih =>
    cases ws with
    | nil => exact h w (by simp)
    | cons a r =>
      rw [joinL_cons c w (by simp)]
      simp only [List.mem_append, List.mem_cons, not_or]
      exact ⟨h w (by simp), hcd, ih fun x hx => h x (by simp [hx])⟩
theorem rowV_nm (r : TRow) : (10 : UInt8) ∉ rowV r := by
  unfold rowV
  split
  · rename_i h; exact joinL_nm 32 10 _ (by decide) fun w hw => (words_nb h w hw).2
  · simp
theorem outV_nm (o : TOut) : (10 : UInt8) ∉ outV o := by
  unfold outV
  refine joinL_nm 32 10 _ (by decide) fun w hw => ?_
  unfold outW at hw
  rcases List.mem_cons.1 hw with rfl | hw
  · exact joinL_nm 32 10 _ (by decide) fun w hw => by
      simp only [List.mem_cons, List.not_mem_nil, or_false] at hw
      rcases hw with rfl | rfl | rfl <;> exact (it_no _).2
  · obtain ⟨a, _, rfl⟩ := List.mem_map.1 hw
    unfold actW
    simp only [List.mem_append, List.mem_cons, not_or]
    exact ⟨(it_no _).2, by decide, (it_no _).2⟩
def allV (outs : List TOut) (rows : List TRow) : List (List UInt8) := outs.map outV ++ rows.map rowV
theorem trace_all (outs : List TOut) (rows : List TRow) : traceV outs rows = ((allV outs rows).map lineV).flatten := by
  unfold traceV allV; rw [List.map_append, List.flatten_append, List.map_map, List.map_map]; rfl
theorem all_nm {outs : List TOut} {rows : List TRow} : ∀ v ∈ allV outs rows, (10 : UInt8) ∉ v := by
  intro v hv
  unfold allV at hv
  rcases List.mem_append.1 hv with h | h
  · obtain ⟨o, _, rfl⟩ := List.mem_map.1 h; exact outV_nm o
  · obtain ⟨r, _, rfl⟩ := List.mem_map.1 h; exact rowV_nm r
theorem count_lines (vs : List (List UInt8)) (h : ∀ v ∈ vs, (10 : UInt8) ∉ v) : ((vs.map lineV).flatten).count 10 = vs.length := by
  induction vs with
  | nil => rfl
  | cons v t ih =>
    have h1 := h v (by simp)
    have h2 := ih fun x hx => h x (by simp [hx])
    simp only [List.map_cons, List.flatten_cons, List.count_append, h2, List.length_cons]
    unfold lineV
    rw [List.count_append, List.count_eq_zero.2 h1]
    simp
    omega
theorem trace_count (outs : List TOut) (rows : List TRow) : (traceV outs rows).count 10 = outs.length + rows.length := by
  rw [trace_all, count_lines _ all_nm]; unfold allV; simp
theorem trace_last (outs : List TOut) (rows : List TRow) (h : traceV outs rows ≠ []) : (traceV outs rows)[(traceV outs rows).length - 1]? = some 10 := by
  rw [trace_all] at h ⊢
  generalize allV outs rows = vs at *
  have hne : vs ≠ [] := by intro e; subst e; exact h rfl
  obtain ⟨a, c, rfl⟩ := snoc_of vs hne
  rw [List.map_append, List.flatten_append]
  simp only [List.map_cons, List.map_nil, List.flatten_cons, List.flatten_nil, List.append_nil]
  unfold lineV
  rw [← List.append_assoc, List.length_append]
  simp
set_option maxHeartbeats 4000000 in
theorem law_TellLines (outs : List TOut) (rows : List TRow) (ho : ∀ o ∈ outs, rngP o) (hr : ∀ r ∈ rows, rngR r) : Fn Tryd.prog 7 [.d (.sl (outs.map TOut.cs)), .d (.sl (rows.map TRow.cs))] (.b true) := by
  refine Fn_of tt_ok Tryd.func7 rfl (by decide) Tryd.ntmps7 rfl ?_
  have hol : (outs.map TOut.cs).length = outs.length := by simp
  have hrl : (rows.map TRow.cs).length = rows.length := by simp
  by_cases g1 : outs.length > 30
  · have z : decide ((((outs.map TOut.cs).length : Nat) : Int) > 30) = true := decide_eq_true (by rw [hol]; omega)
    repeat' ((conv => whnf); (first
      | (refine Br_true z ?_)
      | (refine Br_true (by assumption) ?_)
      | (refine Br_false (by assumption) ?_)
      | (refine Br_true (beqT (by omega)) ?_)
      | (refine Br_false (beqF (by omega)) ?_)
      | (refine Br_beq (fun h => ?_) (fun h => ?_))
      | (refine Br_true (bneT (by omega)) ?_)
      | (refine Br_false (bneF (by omega)) ?_)
      | (refine Br_bne (fun h => ?_) (fun h => ?_))
      | (refine Br_true (decide_eq_true (by omega)) ?_)
      | (refine Br_false (decide_eq_false (by omega)) ?_)
      | (refine Br_dec (fun h => ?_) (fun h => ?_))
      | (refine Br_not ?_)
      | (refine Len_in (fun hlen => ?_))
      | (refine Len_in (fun _ => ?_))
      | (refine Fn.use (live23_true) rfl rfl ?_)
      | (refine CallF_in (live23_true) rfl rfl ?_)
      | (refine Br_split (fun h => ?_) (fun h => ?_))
      | (refine fin0 rfl ?_)
      | (refine ArK_in (wrap_i64 (by omega) (by omega)) ?_)
      | (refine force_in ?_)))
    rfl
  have z1 : decide ((((outs.map TOut.cs).length : Nat) : Int) > 30) = false := decide_eq_false (by rw [hol]; omega)
  by_cases g3 : rows.length > 60
  · have z : decide ((((rows.map TRow.cs).length : Nat) : Int) > 60) = true := decide_eq_true (by rw [hrl]; omega)
    repeat' ((conv => whnf); (first
      | (refine Br_false z1 ?_)
      | (refine Br_true z ?_)
      | (refine Br_true (by assumption) ?_)
      | (refine Br_false (by assumption) ?_)
      | (refine Br_true (beqT (by omega)) ?_)
      | (refine Br_false (beqF (by omega)) ?_)
      | (refine Br_beq (fun h => ?_) (fun h => ?_))
      | (refine Br_true (bneT (by omega)) ?_)
      | (refine Br_false (bneF (by omega)) ?_)
      | (refine Br_bne (fun h => ?_) (fun h => ?_))
      | (refine Br_true (decide_eq_true (by omega)) ?_)
      | (refine Br_false (decide_eq_false (by omega)) ?_)
      | (refine Br_dec (fun h => ?_) (fun h => ?_))
      | (refine Br_not ?_)
      | (refine Len_in (fun hlen => ?_))
      | (refine Len_in (fun _ => ?_))
      | (refine Fn.use (live23_true) rfl rfl ?_)
      | (refine CallF_in (live23_true) rfl rfl ?_)
      | (refine Br_split (fun h => ?_) (fun h => ?_))
      | (refine fin0 rfl ?_)
      | (refine ArK_in (wrap_i64 (by omega) (by omega)) ?_)
      | (refine force_in ?_)))
    rfl
  have z3 : decide ((((rows.map TRow.cs).length : Nat) : Int) > 60) = false := decide_eq_false (by rw [hrl]; omega)
  repeat' ((conv => whnf); (first
    | (refine Br_false z1 ?_)
    | (refine Br_false z3 ?_)
    | (refine Br_true (by assumption) ?_)
    | (refine Br_false (by assumption) ?_)
    | (refine Br_true (beqT (by omega)) ?_)
    | (refine Br_false (beqF (by omega)) ?_)
    | (refine Br_beq (fun h => ?_) (fun h => ?_))
    | (refine Br_true (bneT (by omega)) ?_)
    | (refine Br_false (bneF (by omega)) ?_)
    | (refine Br_bne (fun h => ?_) (fun h => ?_))
    | (refine Br_true (decide_eq_true (by omega)) ?_)
    | (refine Br_false (decide_eq_false (by omega)) ?_)
    | (refine Br_dec (fun h => ?_) (fun h => ?_))
    | (refine Br_not ?_)
    | (refine Len_in (fun hlen => ?_))
    | (refine Len_in (fun _ => ?_))
    | (refine Br_split (fun h => ?_) (fun h => ?_))
    | (refine fin0 rfl ?_)
    | (refine ArK_in (wrap_i64 (by omega) (by omega)) ?_)
    | (refine force_in ?_)))
  refine W_loop (fun μ s => ∃ (k : Nat) (w : List TOut), k ≤ outs.length ∧ μ = outs.length - k ∧ w = outs.take k ∧ (∀ o ∈ w, o.acts.length ≤ 30) ∧ (k = 0 ∨ outs.length ≤ 30) ∧ s = ⟨[(0, .d (.sl (outs.map TOut.cs))), (1, .d (.sl (rows.map TRow.cs))), (5, .ptr 0 0), (6, .i k)], 96, [some (.row [AccV 1 4 (w.map TOut.cs), .nsl]), AccB (w.map TOut.cs)], 0, []⟩) outs.length
    ⟨⟨[(0, .d (.sl (outs.map TOut.cs))), (1, .d (.sl (rows.map TRow.cs))), (5, .ptr 0 0), (6, .i 0)], 96, [some (.row [.nsl, .nsl]), none], 0, []⟩, ?_, 0, [], by omega, by omega, by simp, by simp, .inl rfl, by simp [AccV_nil, AccB_nil]⟩ ?_
  · exact Wk.trans Wk_pad (Wk_env (by repeat (first | exact trivial | refine ⟨rfl, ?_⟩)))
  rintro μ s1 ⟨k, w, hk, rfl, hw, hw30, hk30, rfl⟩
  have hwl : w.length = k := by rw [hw]; simp; omega
  refine W_run tt_ok ?_
  refine Len_in (fun _ => ?_)
  refine Br_dec (fun h => ?_) (fun h => ?_)
  · have hlt : k < outs.length := by rw [hol] at h; omega
    have hi : (outs.map TOut.cs)[(k : Int).toNat]? = some (outs[k]).cs := by simp [hlt]
    have htk : outs.take (k + 1) = w ++ [outs[k]] := by rw [hw]; exact List.take_succ_eq_append_getElem hlt
    have hP := ho _ (List.getElem_mem hlt)
    generalize outs[k] = o at *
    have hal : (o.acts.map actC).length = o.acts.length := by simp
    by_cases g2 : o.acts.length > 30
    · have z : decide ((((o.acts.map actC).length : Nat) : Int) > 30) = true := decide_eq_true (by rw [hal]; omega)
      repeat' ((conv => whnf); (first
        | (refine Br_true z ?_)
        | (refine Br_true (by assumption) ?_)
        | (refine Br_false (by assumption) ?_)
        | (refine Br_true (beqT (by omega)) ?_)
        | (refine Br_false (beqF (by omega)) ?_)
        | (refine Br_beq (fun h => ?_) (fun h => ?_))
        | (refine Br_true (bneT (by omega)) ?_)
        | (refine Br_false (bneF (by omega)) ?_)
        | (refine Br_bne (fun h => ?_) (fun h => ?_))
        | (refine Br_true (decide_eq_true (by omega)) ?_)
        | (refine Br_false (decide_eq_false (by omega)) ?_)
        | (refine Br_dec (fun h => ?_) (fun h => ?_))
        | (refine Br_not ?_)
        | (refine Len_in (fun hlen => ?_))
        | (refine Len_in (fun _ => ?_))
        | (refine Idx_in _ hi (by omega) rfl ?_)
        | (refine Fn.use (live23_true) rfl rfl ?_)
        | (refine CallF_in (live23_true) rfl rfl ?_)
        | (refine Br_split (fun h => ?_) (fun h => ?_))
        | (refine fin0 rfl ?_)
        | (refine ArK_in (wrap_i64 (by omega) (by omega)) ?_)
        | (refine force_in ?_)))
      rfl
    have z2 : decide ((((o.acts.map actC).length : Nat) : Int) > 30) = false := decide_eq_false (by rw [hal]; omega)
    have hO := hP.to (by omega)
    have hown := law23_own o (by omega)
    have hn30 : ∀ q ∈ w ++ [o], q.acts.length ≤ 30 := fun q hq => by
      rcases List.mem_append.1 hq with h1 | h1
      · exact hw30 q h1
      · simp at h1; subst h1; omega
    have ha := Acc_app (b := 1) (sz := 4) (rows := w.map TOut.cs) (new := [o.cs]) (by simp)
    have hol30 : outs.length ≤ 30 := by omega
    repeat' ((conv => whnf); (first
      | (refine Br_false z2 ?_)
      | (refine Br_true (by assumption) ?_)
      | (refine Br_false (by assumption) ?_)
      | (refine Br_true (beqT (by omega)) ?_)
      | (refine Br_false (beqF (by omega)) ?_)
      | (refine Br_beq (fun h => ?_) (fun h => ?_))
      | (refine Br_true (bneT (by omega)) ?_)
      | (refine Br_false (bneF (by omega)) ?_)
      | (refine Br_bne (fun h => ?_) (fun h => ?_))
      | (refine Br_true (decide_eq_true (by omega)) ?_)
      | (refine Br_false (decide_eq_false (by omega)) ?_)
      | (refine Br_dec (fun h => ?_) (fun h => ?_))
      | (refine Br_not ?_)
      | (refine Len_in (fun hlen => ?_))
      | (refine W_draw 0 tt_ok mixed (by kernel_rfl) ?_)
      | (refine Idx_in _ hi (by omega) rfl ?_)
      | (refine Len_in (fun _ => ?_))
      | (refine Fn.use (hown) rfl rfl ?_)
      | (refine CallF_in (hown) rfl rfl ?_)
      | (refine Cell_in _ rfl (force_in ?_))
      | (refine Br_split (fun h => ?_) (fun h => ?_))
      | (refine fin0 rfl ?_)
      | (refine ArK_in (wrap_i64 (by omega) (by omega)) ?_)
      | (refine force_in ?_)))
    refine App_acc (w.map TOut.cs) [o.cs] rfl rfl rfl rfl (by simp) out_sz (by intro r hr; simp at hr; subst hr; rfl) (by simp only [List.length_map, List.length_cons, List.length_nil]; omega) (Nat.le_of_ble_eq_true rfl) ?_
    repeat' ((conv => whnf); (first
      | (refine Br_true (by assumption) ?_)
      | (refine Br_false (by assumption) ?_)
      | (refine Br_true (beqT (by omega)) ?_)
      | (refine Br_false (beqF (by omega)) ?_)
      | (refine Br_beq (fun h => ?_) (fun h => ?_))
      | (refine Br_true (bneT (by omega)) ?_)
      | (refine Br_false (bneF (by omega)) ?_)
      | (refine Br_bne (fun h => ?_) (fun h => ?_))
      | (refine Br_true (decide_eq_true (by omega)) ?_)
      | (refine Br_false (decide_eq_false (by omega)) ?_)
      | (refine Br_dec (fun h => ?_) (fun h => ?_))
      | (refine Br_not ?_)
      | (refine Len_in (fun hlen => ?_))
      | (refine Back_in ⟨[(0, .d (.sl (outs.map TOut.cs))), (1, .d (.sl (rows.map TRow.cs))), (5, .ptr 0 0), (6, .i (k + 1 : Nat))], 96, [some (.row [.msl 1 0 ((w.map TOut.cs).length + 1) ((w.map TOut.cs).length + 1) 4, .nsl]), some (.row ((w.map TOut.cs ++ [o.cs]).flatten.map .d))], 0, []⟩ _ ⟨k + 1, w ++ [o], by omega, rfl, htk.symm, hn30, .inr hol30, ?_⟩ (by omega) (Wk_ren [0, 2] rfl rfl ⟨⟨rfl, rfl⟩, ⟨by rw [renB_row]; rfl, lowB_row _ _⟩, trivial⟩ (by repeat (first | exact trivial | refine ⟨⟨rfl, rfl⟩, ?_⟩)) (by decide) (by omega)))
      | (refine Br_split (fun h => ?_) (fun h => ?_))
      | (refine fin0 rfl ?_)
      | (refine ArK_in (wrap_i64 (by omega) (by omega)) ?_)
      | (refine force_in ?_)))
    rw [List.map_append, show [o].map TOut.cs = [o.cs] from rfl, ha.1, ha.2]
    rfl
  have hkl : outs.length ≤ k := by rw [hol] at h; omega
  have hw' : w = outs := by rw [hw]; exact List.take_of_length_le hkl
  rw [hw'] at hw30
  rw [hw']
  have hO : ∀ o ∈ outs, rngO o := fun o hq => (ho o hq).to (by have := hw30 o hq; omega)
  have ho30 : outs.length ≤ 30 := by omega
  clear hw hw' hwl h hk30 hkl hk
  repeat' ((conv => whnf); (first
    | (refine Br_true (by assumption) ?_)
    | (refine Br_false (by assumption) ?_)
    | (refine Br_true (beqT (by omega)) ?_)
    | (refine Br_false (beqF (by omega)) ?_)
    | (refine Br_beq (fun h => ?_) (fun h => ?_))
    | (refine Br_true (bneT (by omega)) ?_)
    | (refine Br_false (bneF (by omega)) ?_)
    | (refine Br_bne (fun h => ?_) (fun h => ?_))
    | (refine Br_true (decide_eq_true (by omega)) ?_)
    | (refine Br_false (decide_eq_false (by omega)) ?_)
    | (refine Br_dec (fun h => ?_) (fun h => ?_))
    | (refine Br_not ?_)
    | (refine Len_in (fun hlen => ?_))
    | (refine Br_split (fun h => ?_) (fun h => ?_))
    | (refine fin0 rfl ?_)
    | (refine ArK_in (wrap_i64 (by omega) (by omega)) ?_)
    | (refine force_in ?_)))
  refine W_loop (fun μ s => ∃ (j : Nat) (w2 : List TRow), j ≤ rows.length ∧ μ = rows.length - j ∧ w2 = rows.take j ∧ (j = 0 ∨ rows.length ≤ 60) ∧ s = ⟨[(0, .d (.sl (outs.map TOut.cs))), (1, .d (.sl (rows.map TRow.cs))), (5, .ptr 0 0), (7, .i j)], 96, [some (.row [.d (.sl (outs.map TOut.cs)), AccV 1 8 (w2.map TRow.cs)]), AccB (w2.map TRow.cs)], 0, []⟩) rows.length
    ⟨⟨[(0, .d (.sl (outs.map TOut.cs))), (1, .d (.sl (rows.map TRow.cs))), (5, .ptr 0 0), (7, .i 0)], 96, [some (.row [.d (.sl (outs.map TOut.cs)), .nsl]), none], 0, []⟩, ?_, 0, [], by omega, by omega, by simp, .inl rfl, by simp [AccV_nil, AccB_nil]⟩ ?_
  · exact Wk.trans (Wk_fz (ρ' := [(0, .d (.sl (outs.map TOut.cs))), (1, .d (.sl (rows.map TRow.cs))), (5, .ptr 0 0), (7, .i 0)]) (H' := [some (.row [.d (.sl (outs.map TOut.cs)), .nsl])]) [0] [1] rfl rfl rfl ⟨⟨_, rfl, FB_rows ⟨FV_accF _ (by simp) rfl out_sz, .same _ rfl, trivial⟩⟩, trivial⟩ ⟨.same _ rfl, .same _ rfl, .ptr 0 0 0 rfl, .same _ rfl, trivial⟩ (by decide) (fun i h => by omega)) Wk_pad
  rintro μ s1 ⟨j, w2, hj, rfl, hw2, hj60, rfl⟩
  have hwl2 : w2.length = j := by rw [hw2]; simp; omega
  by_cases hjl : j < rows.length
  · refine W_run tt_ok ?_
    have hi : (rows.map TRow.cs)[(j : Int).toNat]? = some (rows[j]).cs := by simp [hjl]
    have htk : rows.take (j + 1) = w2 ++ [rows[j]] := by rw [hw2]; exact List.take_succ_eq_append_getElem hjl
    generalize rows[j] = r at *
    have zj : decide ((j : Int) < (((rows.map TRow.cs).length : Nat) : Int)) = true := decide_eq_true (by rw [hrl]; omega)
    have hr60 : rows.length ≤ 60 := by omega
    have ha := Acc_app (b := 1) (sz := 8) (rows := w2.map TRow.cs) (new := [r.cs]) (by simp)
    repeat' ((conv => whnf); (first
      | (refine Br_true zj ?_)
      | (refine Br_true (by assumption) ?_)
      | (refine Br_false (by assumption) ?_)
      | (refine Br_true (beqT (by omega)) ?_)
      | (refine Br_false (beqF (by omega)) ?_)
      | (refine Br_beq (fun h => ?_) (fun h => ?_))
      | (refine Br_true (bneT (by omega)) ?_)
      | (refine Br_false (bneF (by omega)) ?_)
      | (refine Br_bne (fun h => ?_) (fun h => ?_))
      | (refine Br_true (decide_eq_true (by omega)) ?_)
      | (refine Br_false (decide_eq_false (by omega)) ?_)
      | (refine Br_dec (fun h => ?_) (fun h => ?_))
      | (refine Br_not ?_)
      | (refine Len_in (fun hlen => ?_))
      | (refine W_draw 0 tt_ok mixed (by kernel_rfl) ?_)
      | (refine Len_in (fun _ => ?_))
      | (refine Idx_in _ hi (by omega) rfl ?_)
      | (refine Cell_in _ rfl (force_in ?_))
      | (refine Br_split (fun h => ?_) (fun h => ?_))
      | (refine fin0 rfl ?_)
      | (refine ArK_in (wrap_i64 (by omega) (by omega)) ?_)
      | (refine force_in ?_)))
    refine App_acc (w2.map TRow.cs) [r.cs] rfl rfl rfl rfl (by simp) trow_sz (by intro r hr; simp at hr; subst hr; rfl) (by simp only [List.length_map, List.length_cons, List.length_nil]; omega) (Nat.le_of_ble_eq_true rfl) ?_
    repeat' ((conv => whnf); (first
      | (refine Br_true (by assumption) ?_)
      | (refine Br_false (by assumption) ?_)
      | (refine Br_true (beqT (by omega)) ?_)
      | (refine Br_false (beqF (by omega)) ?_)
      | (refine Br_beq (fun h => ?_) (fun h => ?_))
      | (refine Br_true (bneT (by omega)) ?_)
      | (refine Br_false (bneF (by omega)) ?_)
      | (refine Br_bne (fun h => ?_) (fun h => ?_))
      | (refine Br_true (decide_eq_true (by omega)) ?_)
      | (refine Br_false (decide_eq_false (by omega)) ?_)
      | (refine Br_dec (fun h => ?_) (fun h => ?_))
      | (refine Br_not ?_)
      | (refine Len_in (fun hlen => ?_))
      | (refine Back_in ⟨[(0, .d (.sl (outs.map TOut.cs))), (1, .d (.sl (rows.map TRow.cs))), (5, .ptr 0 0), (7, .i (j + 1 : Nat))], 96, [some (.row [.d (.sl (outs.map TOut.cs)), .msl 1 0 ((w2.map TRow.cs).length + 1) ((w2.map TRow.cs).length + 1) 8]), some (.row ((w2.map TRow.cs ++ [r.cs]).flatten.map .d))], 0, []⟩ _ ⟨j + 1, w2 ++ [r], by omega, rfl, htk.symm, .inr hr60, ?_⟩ (by omega) (Wk_ren [0, 2] rfl rfl ⟨⟨rfl, rfl⟩, ⟨by rw [renB_row]; rfl, lowB_row _ _⟩, trivial⟩ (by repeat (first | exact trivial | refine ⟨⟨rfl, rfl⟩, ?_⟩)) (by decide) (by omega)))
      | (refine Br_split (fun h => ?_) (fun h => ?_))
      | (refine fin0 rfl ?_)
      | (refine ArK_in (wrap_i64 (by omega) (by omega)) ?_)
      | (refine force_in ?_)))
    rw [List.map_append, show [r].map TRow.cs = [r.cs] from rfl, ha.1, ha.2]
    rfl
  have hw2' : w2 = rows := by rw [hw2]; exact List.take_of_length_le (by omega)
  rw [hw2']
  have hr60 : rows.length ≤ 60 := by omega
  have zj : decide ((j : Int) < (((rows.map TRow.cs).length : Nat) : Int)) = false := decide_eq_false (by rw [hrl]; omega)
  refine W_wk (s' := ⟨[(0, .d (.sl (outs.map TOut.cs))), (1, .d (.sl (rows.map TRow.cs))), (5, .ptr 0 0), (7, .i j)], 96, [some (.row [.d (.sl (outs.map TOut.cs)), .d (.sl (rows.map TRow.cs))])], 0, []⟩) (Wk_fz [0] [1] rfl rfl rfl ⟨⟨_, rfl, FB_rows ⟨.same _ rfl, FV_accF _ (by simp) rfl trow_sz, trivial⟩⟩, trivial⟩ ⟨.same _ rfl, .same _ rfl, .ptr 0 0 0 rfl, .same _ rfl, trivial⟩ (by decide) (fun i h => by omega)) ?_
  clear hw2 hw2' hwl2 hj60 hjl hj
  refine W_run tt_ok ?_
  refine Len_in (fun _ => ?_)
  refine Br_false zj ?_
  clear zj
  have hT := tell_Trace outs rows hO hr (by omega) (by omega)
  unfold traceC at hT
  have htl := trace_len hO hr (by omega) (by omega)
  have hcnt := trace_count outs rows
  have hlast := trace_last outs rows
  generalize traceV outs rows = tv at *
  have hts : (⟨tv.toArray⟩ : ByteArray).size = tv.length := str_size tv
  repeat' ((conv => whnf); (first
    | (refine Br_true (by assumption) ?_)
    | (refine Br_false (by assumption) ?_)
    | (refine Br_true (beqT (by omega)) ?_)
    | (refine Br_false (beqF (by omega)) ?_)
    | (refine Br_beq (fun h => ?_) (fun h => ?_))
    | (refine Br_true (bneT (by omega)) ?_)
    | (refine Br_false (bneF (by omega)) ?_)
    | (refine Br_bne (fun h => ?_) (fun h => ?_))
    | (refine Br_true (decide_eq_true (by omega)) ?_)
    | (refine Br_false (decide_eq_false (by omega)) ?_)
    | (refine Br_dec (fun h => ?_) (fun h => ?_))
    | (refine Br_not ?_)
    | (refine Len_in (fun hlen => ?_))
    | (refine Fn.use (hT) rfl rfl ?_)
    | (refine CallF_in (hT) rfl rfl ?_)
    | (refine Br_split (fun h => ?_) (fun h => ?_))
    | (refine fin0 rfl ?_)
    | (refine ArK_in (wrap_i64 (by omega) (by omega)) ?_)
    | (refine force_in ?_)))
  refine W_loop (fun μ s => ∃ (i c : Nat), i ≤ tv.length ∧ μ = tv.length - i ∧ c = (tv.take i).count 10 ∧ s = ⟨[(0, .d (.sl (outs.map TOut.cs))), (1, .d (.sl (rows.map TRow.cs))), (8, .d (str tv)), (9, .i c), (10, .i i)], 96, [some (.row [.d (.sl (outs.map TOut.cs)), .d (.sl (rows.map TRow.cs))])], 0, []⟩) tv.length
    ⟨_, ?_, 0, 0, by omega, by omega, by simp, rfl⟩ ?_
  · exact Wk_env (by repeat (first | exact trivial | refine ⟨rfl, ?_⟩))
  rintro μ s1 ⟨i, c, hi, rfl, hc, rfl⟩
  have hcl : c ≤ tv.length := by rw [hc]; exact Nat.le_trans List.count_le_length (by simp; omega)
  refine W_run tt_ok ?_
  refine Len_in (fun _ => ?_)
  refine Br_dec (fun h => ?_) (fun h => ?_)
  · have hlt : i < tv.length := by rw [hts] at h; omega
    have hby : (⟨tv.toArray⟩ : ByteArray).data.toList[(i : Int).toNat]? = some tv[i] := by simp [hlt]
    have htk : (tv.take (i + 1)).count 10 = c + (if tv[i] = 10 then 1 else 0) := by
      rw [List.take_succ_eq_append_getElem hlt, List.count_append, ← hc]
      by_cases hq : tv[i] = 10 <;> simp [hq]
    by_cases hq : tv[i] = 10
    · have z : (((tv[i].toNat : Nat) : Int) == 10) = true := by rw [hq]; rfl
      rw [if_pos hq] at htk
      generalize tv[i] = ch at *
      repeat' ((conv => whnf); (first
        | (refine Br_true z ?_)
        | (refine Br_true (by assumption) ?_)
        | (refine Br_false (by assumption) ?_)
        | (refine Br_true (beqT (by omega)) ?_)
        | (refine Br_false (beqF (by omega)) ?_)
        | (refine Br_beq (fun h => ?_) (fun h => ?_))
        | (refine Br_true (bneT (by omega)) ?_)
        | (refine Br_false (bneF (by omega)) ?_)
        | (refine Br_bne (fun h => ?_) (fun h => ?_))
        | (refine Br_true (decide_eq_true (by omega)) ?_)
        | (refine Br_false (decide_eq_false (by omega)) ?_)
        | (refine Br_dec (fun h => ?_) (fun h => ?_))
        | (refine Br_not ?_)
        | (refine Len_in (fun hlen => ?_))
        | (refine Byte_in _ hby (by omega) ?_)
        | (refine Back_in _ _ ⟨i + 1, c + 1, by omega, rfl, htk.symm, rfl⟩ (by omega) (Wk_env (by repeat (first | exact trivial | refine ⟨rfl, ?_⟩))))
        | (refine Br_split (fun h => ?_) (fun h => ?_))
        | (refine fin0 rfl ?_)
        | (refine ArK_in (wrap_i64 (by omega) (by omega)) ?_)
        | (refine force_in ?_)))
    · have z : (((tv[i].toNat : Nat) : Int) == 10) = false := by
        rw [beq_eq_false_iff_ne]; intro e; exact hq (UInt8.toNat_inj.1 (show tv[i].toNat = 10 by omega))
      rw [if_neg hq] at htk
      generalize tv[i] = ch at *
      repeat' ((conv => whnf); (first
        | (refine Br_false z ?_)
        | (refine Br_true (by assumption) ?_)
        | (refine Br_false (by assumption) ?_)
        | (refine Br_true (beqT (by omega)) ?_)
        | (refine Br_false (beqF (by omega)) ?_)
        | (refine Br_beq (fun h => ?_) (fun h => ?_))
        | (refine Br_true (bneT (by omega)) ?_)
        | (refine Br_false (bneF (by omega)) ?_)
        | (refine Br_bne (fun h => ?_) (fun h => ?_))
        | (refine Br_true (decide_eq_true (by omega)) ?_)
        | (refine Br_false (decide_eq_false (by omega)) ?_)
        | (refine Br_dec (fun h => ?_) (fun h => ?_))
        | (refine Br_not ?_)
        | (refine Len_in (fun hlen => ?_))
        | (refine Byte_in _ hby (by omega) ?_)
        | (refine Back_in _ _ ⟨i + 1, c, by omega, rfl, htk.symm, rfl⟩ (by omega) (Wk_env (by repeat (first | exact trivial | refine ⟨rfl, ?_⟩))))
        | (refine Br_split (fun h => ?_) (fun h => ?_))
        | (refine fin0 rfl ?_)
        | (refine ArK_in (wrap_i64 (by omega) (by omega)) ?_)
        | (refine force_in ?_)))
  · have hil : tv.length ≤ i := by rw [hts] at h; omega
    rw [List.take_of_length_le hil, hcnt] at hc
    have zc : ((c : Int) == (((outs.map TOut.cs).length : Nat) : Int) + (((rows.map TRow.cs).length : Nat) : Int)) = true := by rw [hol, hrl, hc]; simp
    by_cases he : tv = []
    · have z0 : ((⟨tv.toArray⟩ : ByteArray).toList == (⟨#[]⟩ : ByteArray).toList) = true := by rw [str_beq tv []]; simp [he]
      repeat' ((conv => whnf); (first
        | (refine Br_true zc ?_)
        | (refine Br_true z0 ?_)
        | (refine Br_true (by assumption) ?_)
        | (refine Br_false (by assumption) ?_)
        | (refine Br_true (beqT (by omega)) ?_)
        | (refine Br_false (beqF (by omega)) ?_)
        | (refine Br_beq (fun h => ?_) (fun h => ?_))
        | (refine Br_true (bneT (by omega)) ?_)
        | (refine Br_false (bneF (by omega)) ?_)
        | (refine Br_bne (fun h => ?_) (fun h => ?_))
        | (refine Br_true (decide_eq_true (by omega)) ?_)
        | (refine Br_false (decide_eq_false (by omega)) ?_)
        | (refine Br_dec (fun h => ?_) (fun h => ?_))
        | (refine Br_not ?_)
        | (refine Len_in (fun hlen => ?_))
        | (refine Len_in (fun _ => ?_))
        | (refine ArK_in (wrap_i64 (by rw [hol, hrl]; omega) (by rw [hol, hrl]; omega)) ?_)
        | (refine Fn.use (live23_true) rfl rfl ?_)
        | (refine CallF_in (live23_true) rfl rfl ?_)
        | (refine Br_split (fun h => ?_) (fun h => ?_))
        | (refine fin0 rfl ?_)
        | (refine ArK_in (wrap_i64 (by omega) (by omega)) ?_)
        | (refine force_in ?_)))
      rfl
    · have z0 : ((⟨tv.toArray⟩ : ByteArray).toList == (⟨#[]⟩ : ByteArray).toList) = false := by rw [str_beq tv []]; simp [he]
      have hpos : 0 < tv.length := List.length_pos_iff.2 he
      have hby : (⟨tv.toArray⟩ : ByteArray).data.toList[((((⟨tv.toArray⟩ : ByteArray).size : Nat) : Int) - 1).toNat]? = some 10 := by
        rw [hts, show (((tv.length : Nat) : Int) - 1).toNat = tv.length - 1 by omega]
        simpa using hlast he
      have w1 : IntKind.i64.wrap ((((⟨tv.toArray⟩ : ByteArray).size : Nat) : Int) - 1) = (((⟨tv.toArray⟩ : ByteArray).size : Nat) : Int) - 1 := wrap_i64 (by rw [hts]; omega) (by rw [hts]; omega)
      repeat' ((conv => whnf); (first
        | (refine Br_true zc ?_)
        | (refine Br_false z0 ?_)
        | (refine Br_true (by assumption) ?_)
        | (refine Br_false (by assumption) ?_)
        | (refine Br_true (beqT (by omega)) ?_)
        | (refine Br_false (beqF (by omega)) ?_)
        | (refine Br_beq (fun h => ?_) (fun h => ?_))
        | (refine Br_true (bneT (by omega)) ?_)
        | (refine Br_false (bneF (by omega)) ?_)
        | (refine Br_bne (fun h => ?_) (fun h => ?_))
        | (refine Br_true (decide_eq_true (by omega)) ?_)
        | (refine Br_false (decide_eq_false (by omega)) ?_)
        | (refine Br_dec (fun h => ?_) (fun h => ?_))
        | (refine Br_not ?_)
        | (refine Len_in (fun hlen => ?_))
        | (refine Len_in (fun _ => ?_))
        | (refine ArK_in w1 ?_)
        | (refine ArK_in (wrap_i64 (by rw [hol, hrl]; omega) (by rw [hol, hrl]; omega)) ?_)
        | (refine Byte_in 10 hby (by rw [hts]; omega) ?_)
        | (refine Fn.use (live23_true) rfl rfl ?_)
        | (refine CallF_in (live23_true) rfl rfl ?_)
        | (refine Br_split (fun h => ?_) (fun h => ?_))
        | (refine fin0 rfl ?_)
        | (refine ArK_in (wrap_i64 (by omega) (by omega)) ?_)
        | (refine force_in ?_)))
      rfl
end Go.Eng
set_option maxRecDepth 100000
set_option linter.unusedVariables false
set_option linter.unusedSimpArgs false
namespace Go.Eng
open Go Go.Proofs
def rowSh : List Sh := [i64, i64, i64, i64, i64, i64, i64, i64]
theorem row_trow {r : List D} (h : Row rowSh r) : ∃ x : TRow, rngR x ∧ r = x.cs := by
  obtain ⟨h1, h2⟩ := h
  match r, h1, h2 with
  | [x0, x1, x2, x3, x4, x5, x6, x7], _, h2 =>
    obtain ⟨n0, rfl, b0⟩ := has_int2 (h2 0 i64 x0 rfl rfl)
    obtain ⟨n1, rfl, b1⟩ := has_int2 (h2 1 i64 x1 rfl rfl)
    obtain ⟨n2, rfl, b2⟩ := has_int2 (h2 2 i64 x2 rfl rfl)
    obtain ⟨n3, rfl, b3⟩ := has_int2 (h2 3 i64 x3 rfl rfl)
    obtain ⟨n4, rfl, b4⟩ := has_int2 (h2 4 i64 x4 rfl rfl)
    obtain ⟨n5, rfl, b5⟩ := has_int2 (h2 5 i64 x5 rfl rfl)
    obtain ⟨n6, rfl, b6⟩ := has_int2 (h2 6 i64 x6 rfl rfl)
    obtain ⟨n7, rfl, b7⟩ := has_int2 (h2 7 i64 x7 rfl rfl)
    exact ⟨⟨n0, n1, n2, n3, n4, n5, n6, n7⟩, ⟨b1, b2, b3, b4, b5, b6, b7⟩, rfl⟩
theorem ex_mapQ {α : Type} (f : α → List D) (Q : α → Prop) : ∀ rows : List (List D), (∀ r ∈ rows, ∃ a, Q a ∧ r = f a) → ∃ l : List α, (∀ a ∈ l, Q a) ∧ rows = l.map f := by
  intro rows
  induction rows with
  | nil => intro _; exact ⟨[], by simp, rfl⟩
  | cons r t ih =>
    intro h
    obtain ⟨a, ha, rfl⟩ := h r (by simp)
    obtain ⟨l, hl, rfl⟩ := ih fun r hr => h r (by simp [hr])
    exact ⟨a :: l, by intro b hb; rcases List.mem_cons.1 hb with rfl | hb; exact ha; exact hl b hb, rfl⟩
def rowsSh : Sh := .sl rowSh
theorem has_rows {d : D} (h : HasSh rowsSh d) : ∃ l : List TRow, (∀ r ∈ l, rngR r) ∧ d = .sl (l.map TRow.cs) := by
  cases h with
  | sl _ rows hl h =>
    obtain ⟨l, hq, rfl⟩ := ex_mapQ TRow.cs rngR rows fun r hr => row_trow ⟨hl r hr, h r hr⟩
    exact ⟨l, hq, rfl⟩
def actSh : List Sh := [i64, i64]
theorem row_act {r : List D} (h : Row actSh r) : ∃ a : Int × Int, (i64B a.1 ∧ i64B a.2) ∧ r = actC a := by
  obtain ⟨h1, h2⟩ := h
  match r, h1, h2 with
  | [x0, x1], _, h2 =>
    obtain ⟨n0, rfl, b0⟩ := has_int2 (h2 0 i64 x0 rfl rfl)
    obtain ⟨n1, rfl, b1⟩ := has_int2 (h2 1 i64 x1 rfl rfl)
    exact ⟨(n0, n1), ⟨b0, b1⟩, rfl⟩
def outSh : List Sh := [i64, i64, i64, .sl actSh]
theorem row_out {r : List D} (h : Row outSh r) : ∃ o : TOut, rngP o ∧ r = o.cs := by
  obtain ⟨h1, h2⟩ := h
  match r, h1, h2 with
  | [x0, x1, x2, x3], _, h2 =>
    obtain ⟨n0, rfl, b0⟩ := has_int2 (h2 0 i64 x0 rfl rfl)
    obtain ⟨n1, rfl, b1⟩ := has_int2 (h2 1 i64 x1 rfl rfl)
    obtain ⟨n2, rfl, b2⟩ := has_int2 (h2 2 i64 x2 rfl rfl)
    have h3 := h2 3 (.sl actSh) x3 rfl rfl
    cases h3 with
    | sl _ rows hl h =>
      obtain ⟨l, hq, rfl⟩ := ex_mapQ actC (fun a => i64B a.1 ∧ i64B a.2) rows fun r hr => row_act ⟨hl r hr, h r hr⟩
      exact ⟨⟨n0, n1, n2, l⟩, ⟨b0, b1, b2, hq⟩, rfl⟩
def outsSh : Sh := .sl outSh
theorem has_outs {d : D} (h : HasSh outsSh d) : ∃ l : List TOut, (∀ o ∈ l, rngP o) ∧ d = .sl (l.map TOut.cs) := by
  cases h with
  | sl _ rows hl h =>
    obtain ⟨l, hq, rfl⟩ := ex_mapQ TOut.cs rngP rows fun r hr => row_out ⟨hl r hr, h r hr⟩
    exact ⟨l, hq, rfl⟩
theorem law_TellRows_args (xs : List AV) (h : ArgsOk Tryd.prog [24, 9] xs) : Fn Tryd.prog 3 xs (.b true) := by
  obtain ⟨x, y, rfl, h1, h2⟩ := args_2 h
  obtain ⟨ds, hd, rfl⟩ := arg_agg (shs := rowSh) h1 (by kernel_rfl) (fun _ => by kernel_rfl)
  obtain ⟨d2, hd2, rfl⟩ := arg_one (s := .str) h2 (by kernel_rfl) (fun _ => by kernel_rfl)
  obtain ⟨r, hr, rfl⟩ := row_trow hd
  obtain ⟨s, rfl⟩ := has_str hd2
  exact law_TellRows r hr s
theorem law_TellBack_args (xs : List AV) (h : ArgsOk Tryd.prog [24, 9] xs) : Fn Tryd.prog 5 xs (.b true) := by
  obtain ⟨x, y, rfl, h1, h2⟩ := args_2 h
  obtain ⟨ds, hd, rfl⟩ := arg_agg (shs := rowSh) h1 (by kernel_rfl) (fun _ => by kernel_rfl)
  obtain ⟨d2, hd2, rfl⟩ := arg_one (s := .str) h2 (by kernel_rfl) (fun _ => by kernel_rfl)
  obtain ⟨r, hr, rfl⟩ := row_trow hd
  obtain ⟨s, rfl⟩ := has_str hd2
  exact law_TellBack r hr s
theorem law_TellApart_args (xs : List AV) (h : ArgsOk Tryd.prog [24, 24] xs) : Fn Tryd.prog 8 xs (.b true) := by
  obtain ⟨x, y, rfl, h1, h2⟩ := args_2 h
  obtain ⟨ds, hd, rfl⟩ := arg_agg (shs := rowSh) h1 (by kernel_rfl) (fun _ => by kernel_rfl)
  obtain ⟨ds2, hd2, rfl⟩ := arg_agg (shs := rowSh) h2 (by kernel_rfl) (fun _ => by kernel_rfl)
  obtain ⟨a, ha, rfl⟩ := row_trow hd
  obtain ⟨b, hb, rfl⟩ := row_trow hd2
  exact law_TellApart a b ha hb
theorem law_TellTraces_args (xs : List AV) (h : ArgsOk Tryd.prog [35, 36] xs) : Fn Tryd.prog 4 xs (.b true) := by
  obtain ⟨x, y, rfl, h1, h2⟩ := args_2 h
  obtain ⟨d, hd, rfl⟩ := arg_one (s := outsSh) h1 (by kernel_rfl) (fun _ => by kernel_rfl)
  obtain ⟨d2, hd2, rfl⟩ := arg_one (s := rowsSh) h2 (by kernel_rfl) (fun _ => by kernel_rfl)
  obtain ⟨o, ho, rfl⟩ := has_outs hd
  obtain ⟨r, hr, rfl⟩ := has_rows hd2
  exact law_TellTraces o r ho hr
theorem law_TellLines_args (xs : List AV) (h : ArgsOk Tryd.prog [35, 36] xs) : Fn Tryd.prog 7 xs (.b true) := by
  obtain ⟨x, y, rfl, h1, h2⟩ := args_2 h
  obtain ⟨d, hd, rfl⟩ := arg_one (s := outsSh) h1 (by kernel_rfl) (fun _ => by kernel_rfl)
  obtain ⟨d2, hd2, rfl⟩ := arg_one (s := rowsSh) h2 (by kernel_rfl) (fun _ => by kernel_rfl)
  obtain ⟨o, ho, rfl⟩ := has_outs hd
  obtain ⟨r, hr, rfl⟩ := has_rows hd2
  exact law_TellLines o r ho hr
theorem law_TellJoined_args (xs : List AV) (h : ArgsOk Tryd.prog [35, 36, 3] xs) : Fn Tryd.prog 6 xs (.b true) := by
  obtain ⟨x, y, z, rfl, h1, h2, h3⟩ := args_3 h
  obtain ⟨d, hd, rfl⟩ := arg_one (s := outsSh) h1 (by kernel_rfl) (fun _ => by kernel_rfl)
  obtain ⟨d2, hd2, rfl⟩ := arg_one (s := rowsSh) h2 (by kernel_rfl) (fun _ => by kernel_rfl)
  obtain ⟨d3, hd3, rfl⟩ := arg_one (s := i64) h3 (by kernel_rfl) (fun _ => by kernel_rfl)
  obtain ⟨o, ho, rfl⟩ := has_outs hd
  obtain ⟨r, hr, rfl⟩ := has_rows hd2
  obtain ⟨n, rfl⟩ := has_int hd3
  exact law_TellJoined o r n ho hr
end Go.Eng
set_option linter.unusedVariables false
set_option linter.unusedSimpArgs false
namespace Go.Eng
open Go Go.RowKit
theorem laidVars_tab {P : Program} {w : World} {n : String} {k : IntKind} {zs : List Int} {g : Nat} {t e : TypeId} {m : Nat} (hg : P.globalNamed n = some g) (ht : (P.globals[g]?).map (·.type) = some t)
    (hi : P.underlying t = some (.array m e)) (he : P.underlying e = some (.int k)) (hce : P.cellsOf e = 1) (hct : P.cellsOf t = m) : ∀ (l : List (String × DataW Unit)) (ps : List MemPlace), DataW.LaidVars P w l ps → (n, Lib.tabData k zs) ∈ l → Lib.TabIs P w n k zs := by
  intro l
  induction l with
  | nil => intro ps _ h; simp at h
  | cons x r ih =>
    intro ps h hm
    obtain ⟨n1, d1⟩ := x
    obtain ⟨g1, t1, cs, fuel, p, q, h1, h2, h3, h4, h5, h6⟩ := h
    rcases List.mem_cons.1 hm with e | hm
    · injection e with e1 e2
      subst e1 e2
      obtain rfl := Option.some.inj (hg.symm.trans h1)
      obtain rfl := Option.some.inj (ht.symm.trans h2)
      unfold Lib.TabIs
      rw [h3, ← Lib.cells_of_tab hi he hce hct h4]
    · exact ih _ h5 hm
theorem laid_tab {P : Program} {l : List (String × DataW Unit)} {w : World} (h : laidMetH P l w) (hp : (l.all fun x => x.2.handleName?.isNone) = true) {n : String} {k : IntKind} {zs : List Int} (hx : (n, Lib.tabData k zs) ∈ l) {g : Nat} {t e : TypeId} {m : Nat}
    (hg : P.globalNamed n = some g) (ht : (P.globals[g]?).map (·.type) = some t) (hi : P.underlying t = some (.array m e)) (he : P.underlying e = some (.int k)) (hce : P.cellsOf e = 1) (hct : P.cellsOf t = m) : Lib.TabIs P w n k zs := by
  rw [MakeChecks.laidMetH_plain _ _ _ hp] at h
  obtain ⟨ps, hl, _⟩ := h
  exact laidVars_tab hg ht hi he hce hct l ps hl hx
end Go.Eng
namespace Go.Eng
open Go Go.Proofs
theorem glob_of {w : World} {l : List (String × DataW Unit)} (h : laidMetH Tryd.prog l w) (hp : (l.all fun x => x.2.handleName?.isNone) = true) (hs : w.ShapedOpen Tryd.prog) {n1 n2 : String} {d1 d2 d3 : DataW Unit}
    (h1 : ("strconv.ErrSyntax", DataW.iface n1 d1) ∈ l) (h2 : ("strconv.ErrRange", DataW.iface n2 d2) ∈ l) (h3 : ("internal/strconv.uint64pow10", d3) ∈ l) (he : d3 = Lib.tabData .u64 Lib.pow10Tab) : GlobW w :=
  ⟨cell_of_shapedOpen_int (zero := #[.int .i64 0]) (t := 3) hs (by decide +kernel) (by kernel_rfl) rfl (by kernel_rfl) (by kernel_rfl) Tryd.underlying3,
    laid_iface h hp h1 (by kernel_rfl) (by kernel_rfl) Tryd.underlying79, laid_iface h hp h2 (by kernel_rfl) (by kernel_rfl) Tryd.underlying79,
    laid_tab h hp (he ▸ h3) (g := 3) (t := 127) (e := 112) (m := 20) (by kernel_rfl) (by kernel_rfl) (by kernel_rfl) (by kernel_rfl) (by kernel_rfl) (by kernel_rfl)⟩
end Go.Eng
