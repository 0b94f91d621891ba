/- What the seat's proofs lean on, part 3: the executor over abstract values, its soundness, and what the program's functions answer (Eng18, Eng19, Eng20, Eng21, Eng22). -/
import Derived.Test.YtekooegnkifokaaGreatEng02
import Derived.OrdersIn
set_option linter.all false
set_option linter.unusedVariables false
set_option linter.unusedSimpArgs false
set_option linter.unusedVariables false
set_option linter.unusedSimpArgs false
namespace Go.Eng
open Go
def PD (F : Heap → (AV → Heap → Prop) → Prop) : Prop := ∀ H K, F H K → ∃ v, K v H ∧ ∀ (H2 : Heap) (K' : AV → Heap → Prop), K' v H2 → F H2 K'
theorem PD_K (v : AV) : PD fun H K => K v H := fun H K h => ⟨v, h, fun _ _ h => h⟩
theorem PD_F : PD fun _ _ => False := fun H K h => h.elim
theorem PD_force (v : AV) : PD fun H K => force v fun v => K v H := fun H K h => by
  simp only [force_eq] at h
  exact ⟨v, h, fun H2 K' h' => by simp only [force_eq]; exact h'⟩
theorem PD_forceD (x : D) : PD fun H K => forceD x fun x => K (.d x) H := fun H K h => by
  simp only [forceD_eq] at h
  exact ⟨.d x, h, fun H2 K' h' => by simp only [forceD_eq]; exact h'⟩
theorem PD_forceL (l : List AV) {F : List AV → Heap → (AV → Heap → Prop) → Prop} (h : ∀ l, PD (F l)) : PD fun H K => forceL l fun l => F l H K := by
  simp only [forceL_eq]
  exact h l
theorem PD_Br {b : Bool} {X Y : Heap → (AV → Heap → Prop) → Prop} (hx : PD X) (hy : PD Y) : PD fun H K => Br b (X H K) (Y H K) := by
  cases b
  · exact hy
  · exact hx
theorem PD_Ar {k : IntKind} {e : Int} {F : Int → Heap → (AV → Heap → Prop) → Prop} (h : ∀ n, PD (F n)) : PD fun H K => ArK k e fun n => F n H K := by
  simp only [ArK_eq]
  exact h _
theorem PD_Need {φ : Prop} {F : Heap → (AV → Heap → Prop) → Prop} (h : PD F) : PD fun H K => NeedK φ (F H K) := by
  simp only [NeedK_eq]
  intro H K ⟨h1, h2⟩
  obtain ⟨v, h3, h4⟩ := h H K h2
  exact ⟨v, h3, fun H2 K' h' => ⟨h1, h4 H2 K' h'⟩⟩
theorem PD_Ch {F G : Heap → (AV → Heap → Prop) → Prop} (h1 : PD F) (h2 : PD G) : PD fun H K => ChK (F H K) (G H K) := by
  rintro H K ⟨h | h⟩
  · obtain ⟨v, h3, h4⟩ := h1 H K h
    exact ⟨v, h3, fun H2 K' h' => Ch_l (h4 H2 K' h')⟩
  · obtain ⟨v, h3, h4⟩ := h2 H K h
    exact ⟨v, h3, fun H2 K' h' => Ch_r (h4 H2 K' h')⟩
theorem PD_Idx {rows : List (List D)} {n : Int} {sz : Nat} {F : List D → Heap → (AV → Heap → Prop) → Prop} (h : ∀ r, PD (F r)) : PD fun H K => IdxK rows n sz fun row => F row H K := by
  simp only [IdxK_eq]
  rintro H K ⟨row, h1, h2, h3, h4⟩
  obtain ⟨v, h5, h6⟩ := h row H K h4
  exact ⟨v, h5, fun H2 K' h' => ⟨row, h1, h2, h3, h6 H2 K' h'⟩⟩
theorem PD_Byte {s : ByteArray} {n : Int} {F : UInt8 → Heap → (AV → Heap → Prop) → Prop} (h : ∀ r, PD (F r)) : PD fun H K => ByteK s n fun row => F row H K := by
  simp only [ByteK_eq]
  rintro H K ⟨row, h1, h2, h4⟩
  obtain ⟨v, h5, h6⟩ := h row H K h4
  exact ⟨v, h5, fun H2 K' h' => ⟨row, h1, h2, h6 H2 K' h'⟩⟩
theorem PD_load (ti : TI) (cs : List AV) (o : Nat) : PD fun H K => loadK ti cs o fun v => K v H := by
  unfold loadK Br CellK
  cases ti.isAgg
  · cases cs[o]?
    · exact PD_F
    · exact PD_force _
  · generalize Nat.ble (o + ti.size) cs.length = b
    cases b
    · exact PD_F
    · exact PD_forceL (F := fun l H K => K (.agg l) H) _ fun l => PD_K _
theorem PD_loadD (ti : TI) (cs : List D) (o : Nat) : PD fun H K => loadDK ti cs o fun v => K v H := by
  unfold loadDK
  cases ti.isAgg
  · cases cs[o]?
    · exact PD_F
    · exact PD_forceD _
  · generalize Nat.ble (o + ti.size) cs.length = b
    cases b
    · exact PD_F
    · exact PD_forceL (F := fun l H K => K (.agg l) H) _ fun l => PD_K _
theorem PD_fill (place : Nat → Option (Nat × Nat)) {F : List AV → Heap → (AV → Heap → Prop) → Prop} (h : ∀ l, PD (F l)) (l : List (Nat × AV)) : ∀ cs, PD fun H K => fillK place cs l fun cs => F cs H K := by
  induction l with
  | nil => intro cs; exact h cs
  | cons x r ih =>
    intro cs
    obtain ⟨i, v⟩ := x
    unfold fillK
    cases place i with
    | none => exact PD_F
    | some os =>
      obtain ⟨off, size⟩ := os
      have key : ∀ vs : List AV, PD fun H K => (match Nat.beq vs.length size with
        | true => match Nat.ble (off + vs.length) cs.length with
          | true => fillK place (splice cs off vs) r fun cs => F cs H K
          | false => False
        | false => False) := fun vs => by
        cases Nat.beq vs.length size
        · exact PD_F
        · cases Nat.ble (off + vs.length) cs.length
          · exact PD_F
          · exact ih _
      cases v <;> first | exact key _ | exact PD_F
theorem PD_int (tt : TT) (ti : Option TI) (op : BinOp) (k : IntKind) (a : Int) (y : AV) : PD fun H K => binK tt ti op (.d (.int k a)) y fun v => K v H := by
  cases y <;> (try exact PD_F)
  rename_i y
  cases y <;> (try exact PD_F)
  rename_i k' b
  unfold binK
  simp only
  cases decide (k = k')
  · exact PD_F
  · cases op <;> first | exact PD_F | exact PD_K _ | exact PD_Ar (F := fun n H K => K (.d (.int k n)) H) (fun n => PD_K _) | exact PD_Need (PD_K _) | exact PD_Need (PD_Ar (F := fun n H K => K (.d (.int k n)) H) (fun n => PD_K _))
theorem PD_str (tt : TT) (ti : Option TI) (op : BinOp) (a : ByteArray) (y : AV) : PD fun H K => binK tt ti op (.d (.str a)) y fun v => K v H := by
  cases y <;> (try exact PD_F)
  rename_i y
  cases y <;> (try exact PD_F)
  cases op <;> first | exact PD_F | exact PD_K _ | exact PD_Need (PD_K _)
theorem PD_bool (tt : TT) (ti : Option TI) (op : BinOp) (a : Bool) (y : AV) : PD fun H K => binK tt ti op (.d (.bool a)) y fun v => K v H := by
  unfold binK
  cases ti with
  | none => exact PD_F
  | some ti =>
    simp only
    generalize ti.k = k
    cases k <;> (try exact PD_F)
    cases y <;> (try exact PD_F)
    rename_i y
    cases y <;> (try exact PD_F)
    cases op <;> first | exact PD_F | exact PD_K _
theorem PD_agg (tt : TT) (ti : Option TI) (op : BinOp) (a : List AV) (y : AV) : PD fun H K => binK tt ti op (.agg a) y fun v => K v H := by
  unfold binK
  cases ti with
  | none => exact PD_F
  | some ti =>
    simp only
    generalize cmpF tt ti.k = k
    cases k <;> (try exact PD_F)
    simp only
    cases y <;> (try exact PD_F)
    simp only
    cases ti.eq <;> (try exact PD_F)
    simp only
    split
    · cases op <;> first | exact PD_F | exact PD_K _
    · exact PD_F
theorem PD_ptrK (tt : TT) (e : Nat) (op : BinOp) (z : Option Bool) : PD fun H K => ptrK tt e op z fun v => K v H := by
  unfold ptrK
  cases tt e with
  | none => exact PD_F
  | some ei =>
    simp only
    cases Nat.beq ei.size 0 <;> (try exact PD_F)
    cases z <;> (try exact PD_F)
    cases op <;> first | exact PD_F | exact PD_K _
theorem PD_ptr (tt : TT) (ti : Option TI) (op : BinOp) (x y : AV) (hx : x = .d .nptr ∨ ∃ b o, x = .ptr b o) : PD fun H K => binK tt ti op x y fun v => K v H := by
  unfold binK
  rcases hx with rfl | ⟨b, o, rfl⟩
  · cases ti with
    | none => exact PD_F
    | some ti =>
      simp only
      generalize ti.k = k
      cases k <;> (try exact PD_F)
      · exact PD_ptrK _ _ _ _
      · cases y <;> (try exact PD_F)
        cases op <;> exact PD_F
  · cases ti with
    | none => exact PD_F
    | some ti =>
      simp only
      generalize ti.k = k
      cases k <;> (try exact PD_F)
      · exact PD_ptrK _ _ _ _
      · cases y <;> (try exact PD_F)
        cases op <;> exact PD_F
theorem PD_dat (sz n : Nat) (cs : List AV) : PD fun H K => datK sz n cs fun v => K v H := by
  unfold datK
  split
  · exact PD_K _
  · split
    · exact PD_K _
    · exact PD_F
theorem PD_un (op : UnOp) (x : AV) : PD fun H K => unK op x fun v => K v H := by
  cases x <;> (try exact PD_F)
  rename_i x
  cases x <;> (try exact PD_F)
  · cases op <;> first | exact PD_F | exact PD_Ar (F := fun n H K => K (.d (.int _ n)) H) (fun n => PD_K _)
  · cases op <;> first | exact PD_F | exact PD_K _
theorem PD_mm (mx : Bool) (l : List AV) : ∀ x : AV, PD fun H K => mmK mx x l fun v => K v H := by
  induction l with
  | nil => intro x; exact PD_force x
  | cons y r ih =>
    intro x
    cases x <;> (try exact PD_F)
    rename_i x
    cases x <;> (try exact PD_F)
    cases y <;> (try exact PD_F)
    rename_i y
    cases y <;> (try exact PD_F)
    cases mx
    · exact ih _
    · exact ih _
section
variable {P : Program} {tt : TT} {md base : Nat} {ρ : Nat → AV}
theorem PD_move (x : Operand) : PD (opK P tt (.move x) ρ) := PD_force _
theorem PD_assign (x : Operand) : PD (opK P tt (.assign x) ρ) := PD_force _
theorem PD_pick (c x y : Operand) : PD (opK P tt (.pick c x y) ρ) := by
  unfold opK
  simp only
  generalize evalO ρ c = v
  cases v <;> (try exact PD_F)
  rename_i d
  cases d <;> (try exact PD_F)
  exact PD_Br (PD_force _) (PD_force _)
theorem PD_nilCheck (x : Operand) : PD (opK P tt (.nilCheck x) ρ) := by
  unfold opK
  simp only
  generalize evalO ρ x = v
  cases v <;> (try exact PD_F) <;> (try exact PD_K _)
  · rename_i d
    cases d <;> first | exact PD_F | exact PD_K _
  · rename_i fn _ _
    cases fn <;> first | exact PD_F | exact PD_K _
theorem PD_unOp (op : UnOp) (t : TypeId) (x : Operand) : PD (opK P tt (.unOp op t x) ρ) := PD_un _ _
theorem PD_Text {rows : List (List D)} {F : ByteArray → Heap → (AV → Heap → Prop) → Prop} (h : ∀ r, PD (F r)) : PD fun H K => TextK rows fun s => F s H K := by
  rintro H K ⟨l, h1, h4⟩
  obtain ⟨v, h5, h6⟩ := h _ H K h4
  exact ⟨v, h5, fun H2 K' h' => ⟨l, h1, h6 H2 K' h'⟩⟩
theorem PD_convert (u t : TypeId) (x : Operand) : PD (opK P tt (.convert u t x) ρ) := by
  unfold opK
  simp only
  cases tt u with
  | none => exact PD_F
  | some ui =>
  cases tt t with
  | none => exact PD_F
  | some ti =>
    simp only
    generalize ti.k = k
    generalize evalO ρ x = v
    cases k <;> (try exact PD_F)
    · cases v <;> (try exact PD_F)
      rename_i d
      cases d <;> (try exact PD_F)
      exact PD_Ar (F := fun n H K => K (.d (.int _ n)) H) (fun n => PD_K _)
    · cases v <;> (try exact PD_F)
      rename_i d
      cases d <;> (try exact PD_F)
      · exact PD_K _
      · simp only
        generalize ui.k = k2
        cases k2 <;> (try exact PD_F)
        rename_i e0
        simp only
        cases tt e0 with
        | none => exact PD_F
        | some ei =>
          simp only
          generalize ei.k = k3
          cases k3 <;> (try exact PD_F)
          rename_i k4
          cases k4 <;> (try exact PD_F)
          exact PD_Text fun s => PD_K _
theorem PD_makeFunc (fn : Go.Fn) (fs cs : Array Operand) : PD (opK P tt (.makeFunc fn fs cs) ρ) := by
  unfold opK
  simp only
  cases fn <;> (try exact PD_F)
  generalize fs.toList = l1
  generalize cs.toList = l2
  cases l1 <;> cases l2
  · exact PD_K _
  all_goals exact PD_forceL (F := fun fs H K => forceL _ fun cs => K (.clos _ fs cs) H) _ fun _ => PD_forceL (F := fun cs H K => K (.clos _ _ cs) H) _ fun _ => PD_K _
theorem PD_fieldAddr (t : TypeId) (x : Operand) (f : Nat) : PD (opK P tt (.fieldAddr t x f) ρ) := by
  unfold opK
  simp only
  cases tt t with
  | none => exact PD_F
  | some ti =>
    simp only
    cases fldOf ti f with
    | none => exact PD_F
    | some p =>
      generalize evalO ρ x = v
      cases v <;> first | exact PD_F | exact PD_K _
theorem PD_field (t : TypeId) (x : Operand) (f : Nat) : PD (opK P tt (.field t x f) ρ) := by
  unfold opK
  simp only
  cases tt t with
  | none => exact PD_F
  | some ti =>
    simp only
    cases fldOf ti f with
    | none => exact PD_F
    | some p =>
      obtain ⟨ft, o⟩ := p
      simp only
      cases tt ft with
      | none => exact PD_F
      | some fi =>
        generalize evalO ρ x = v
        cases v <;> first | exact PD_F | exact PD_load _ _ _
theorem PD_indexAddr (t : TypeId) (x i : Operand) : PD (opK P tt (.indexAddr t x i) ρ) := by
  unfold opK
  simp only
  cases tt t with
  | none => exact PD_F
  | some ti =>
    simp only
    generalize evalO ρ i = iv
    generalize evalO ρ x = v
    generalize ti.k = k
    cases iv <;> (try exact PD_F)
    rename_i d
    cases d <;> (try exact PD_F)
    cases k <;> (try exact PD_F)
    · rename_i e
      simp only
      cases tt e with
      | none => exact PD_F
      | some ei =>
        cases v <;> (try exact PD_F)
        · rename_i d
          cases d <;> (try exact PD_F)
          exact PD_Idx (F := fun row H K => K (.fptr row 0) H) fun _ => PD_K _
        · exact PD_Br (PD_Br (PD_K _) PD_F) PD_F
    · rename_i e
      simp only
      cases tt e with
      | none => exact PD_F
      | some ei =>
        cases v <;> first | exact PD_Br PD_F PD_F | exact PD_Br (PD_K _) PD_F
theorem PD_index (t : TypeId) (x i : Operand) : PD (opK P tt (.index t x i) ρ) := by
  unfold opK
  simp only
  cases tt t with
  | none => exact PD_F
  | some ti =>
    simp only
    generalize evalO ρ i = iv
    generalize evalO ρ x = v
    generalize ti.k = k
    cases iv <;> (try exact PD_F)
    rename_i d
    cases d <;> (try exact PD_F)
    cases k <;> (try exact PD_F)
    · cases v <;> (try exact PD_F)
      rename_i d
      cases d <;> (try exact PD_F)
      exact PD_Byte (F := fun c H K => K (.d (.int .u8 c.toNat)) H) fun _ => PD_K _
    · rename_i e
      simp only
      cases tt e with
      | none => exact PD_F
      | some ei =>
        cases v <;> first | exact PD_F | exact PD_Br (PD_load _ _ _) PD_F
theorem PD_extract (x : Operand) (i : Nat) : PD (opK P tt (.extract x i) ρ) := by
  unfold opK
  simp only
  generalize evalO ρ x = v
  cases v <;> (try exact PD_F)
  rename_i vs
  simp only
  cases vs[i]? with
  | none => exact PD_F
  | some v => exact PD_force _
theorem PD_build (t : TypeId) (parts : Array (Nat × Operand)) : PD (opK P tt (.build t parts) ρ) := by
  unfold opK
  simp only
  cases tt t with
  | none => exact PD_F
  | some ti =>
    simp only
    generalize ti.k = k
    cases k <;> (try exact PD_F)
    · rename_i e
      simp only
      cases tt e with
      | none => exact PD_F
      | some ei => exact PD_fill _ (F := fun cs H K => forceL cs fun cs => K (.agg cs) H) (fun l => PD_forceL (F := fun cs H K => K (.agg cs) H) _ fun _ => PD_K _) _ _
    · exact PD_fill _ (F := fun cs H K => forceL cs fun cs => K (.agg cs) H) (fun l => PD_forceL (F := fun cs H K => K (.agg cs) H) _ fun _ => PD_K _) _ _
theorem PD_buildSlice (h3 : md ≠ 3) (t : TypeId) (len : Nat) (parts : Array (Nat × Operand)) : PD (opKd P tt md base (.buildSlice t len parts) ρ) := by
  unfold opKd
  simp only [bsK_dat h3]
  cases tt t with
  | none => exact PD_F
  | some ti =>
    simp only
    generalize ti.k = k
    cases k <;> (try exact PD_F)
    rename_i e
    simp only
    cases tt e with
    | none => exact PD_F
    | some ei =>
      simp only
      split
      · split
        · exact PD_fill _ (F := fun cs H K => forceL cs fun cs => datK ei.size len cs fun v => K v H) (fun l => PD_forceL (F := fun cs H K => datK ei.size len cs fun v => K v H) _ fun _ => PD_dat _ _ _) _ _
        · exact PD_F
      · exact PD_F
theorem PD_binOp (op : BinOp) (t u : TypeId) (x y : Operand) : PD (opKd P tt md base (.binOp op t x y u) ρ) := by
  unfold opKd opK
  simp only
  generalize evalO ρ x = v
  generalize evalO ρ y = w
  cases v <;> (try exact PD_F)
  · rename_i d
    cases d <;> (try exact PD_F)
    · exact PD_int _ _ _ _ _ _
    · exact PD_bool _ _ _ _ _
    · exact PD_str _ _ _ _ _
    · exact PD_ptr _ _ _ _ _ (.inl rfl)
  · exact PD_ptr _ _ _ _ _ (.inr ⟨_, _, rfl⟩)
  · exact PD_agg _ _ _ _ _
theorem PD_sl {t : TypeId} {ti : TI} (ht : tt t = some ti) (hk : ∀ n e, ti.k ≠ .arr n e) (x : Operand) (lo hi : Option Operand) : PD (opK P tt (.slice t x lo hi none) ρ) := by
  unfold opK
  simp only [ht]
  generalize ti.k = k at hk ⊢
  generalize evalO ρ x = v
  cases lo
  case' some l => (dsimp only; generalize evalO ρ l = a; cases a <;> (try (cases k <;> exact PD_F)); rename_i d; cases d <;> (try (cases k <;> exact PD_F)))
  all_goals
    cases k <;> (try exact PD_F) <;> (try exact absurd rfl (hk _ _))
    · cases v <;> (try exact PD_F)
      rename_i d
      cases d <;> (try exact PD_F)
      cases hi <;> simp only
      · exact PD_Need (PD_K _)
      · rename_i l
        generalize evalO ρ l = a
        cases a <;> (try exact PD_F)
        rename_i d
        cases d <;> (try exact PD_F)
        exact PD_Need (PD_K _)
    · simp only
      rename_i e
      cases tt e with
      | none => exact PD_F
      | some ei =>
        cases v <;> (try exact PD_F)
        · rename_i d
          cases d <;> (try exact PD_F)
          cases hi <;> simp only
          · exact PD_Need (PD_K _)
          · rename_i l
            generalize evalO ρ l = a
            cases a <;> (try exact PD_F)
            rename_i d
            cases d <;> (try exact PD_F)
            exact PD_Need (PD_K _)
        · cases hi <;> simp only
          · exact PD_Need (PD_K _)
          · rename_i l
            generalize evalO ρ l = a
            cases a <;> (try exact PD_F)
            rename_i d
            cases d <;> (try exact PD_F)
            exact PD_Need (PD_K _)
        · cases hi <;> simp only
          · exact PD_Ch (PD_Need (PD_K _)) (PD_Need (PD_K _))
          · rename_i l
            generalize evalO ρ l = a
            cases a <;> (try exact PD_F)
            rename_i d
            cases d <;> (try exact PD_F)
            exact PD_Ch (PD_Need (PD_K _)) (PD_Need (PD_K _))
theorem PD_slice (t : TypeId) (x : Operand) (lo hi mx : Option Operand) (hc : cls md (.slice t x lo hi mx) = 0) : PD (opKd P tt md base (.slice t x lo hi mx) ρ) := by
  unfold opKd
  simp only
  cases mx with
  | some _ => exact PD_F
  | none =>
  simp only
  cases ht : tt t with
  | none => exact PD_F
  | some ti =>
    have h1 := fun hk => PD_sl (P := P) (ρ := ρ) ht hk x lo hi
    simp only
    generalize ti.k = k at h1 ⊢
    cases k <;> (try exact h1 (by simp))
    rintro H K h
    obtain ⟨_, h2, h3, _⟩ := sliceA_in h
    subst h2 h3
    simp [cls] at hc
theorem PD_CallF (g : FuncId) (as_ : List AV) : PD (CallF P g as_) := by
  rintro H K ⟨r, h1, h2, h3, h4⟩
  exact ⟨r, h4, fun H2 K' h => ⟨r, h1, h2, h3, h⟩⟩
theorem PD_call (c : Call) (hc : cls md (.call c) = 0) : PD (opKd P tt md base (.call c) ρ) := by
  unfold opKd
  simp only
  obtain ⟨cal, args, tys⟩ := c
  cases cal with
  | value f =>
    have hm : md = 0 ∨ md = 3 ∨ ∃ n, md = n + 4 ∧ f = .func n := by
      rcases cls_val md f args tys with ⟨h, _⟩ | ⟨_, h⟩ | ⟨n, h1, h2, _⟩ | ⟨_, _, _, h⟩
      · exact h.imp id .inl
      · omega
      · exact .inr (.inr ⟨n, h1, h2⟩)
      · omega
    rcases hm with rfl | rfl | ⟨n, rfl, rfl⟩
    · simp only
      generalize evalO ρ f = v
      cases v <;> (try exact PD_F)
      · rename_i d
        cases d <;> (try exact PD_F)
        exact PD_forceL (F := fun l => callM P 0 _ l) _ fun l => PD_CallF _ _
      · rename_i fn _ _
        cases fn <;> (try exact PD_F)
        exact PD_forceL (F := fun l => callM P 0 _ (_ ++ l ++ _)) _ fun l => PD_CallF _ _
    · simp only
      generalize evalO ρ f = v
      cases v <;> (try exact PD_F)
      · rename_i d
        cases d <;> (try exact PD_F)
        exact PD_forceL (F := fun l => callM P 3 _ l) _ fun l => PD_CallF _ _
      · rename_i fn _ _
        cases fn <;> (try exact PD_F)
        exact PD_forceL (F := fun l => callM P 3 _ (_ ++ l ++ _)) _ fun l => PD_CallF _ _
    · show PD fun H K => forceL (mapO ρ args.toList) fun as_ => callM P (n + 4) n as_ H K
      refine PD_forceL (F := fun l => callM P (n + 4) n l) _ fun l => ?_
      have e : callM P (n + 4) n l = CallF P n l := by funext H K; simp only [callM, Nat.beq_refl]
      rw [e]
      exact PD_CallF _ _
  | builtin b =>
    cases b <;> simp only [cls] at hc <;> (try (simp at hc; done)) <;> (try exact PD_F)
    · generalize mapO ρ args.toList = l
      generalize tys.toList = ts
      cases ts <;> cases l <;> (try exact PD_F)
      rename_i t _ x _
      simp only
      cases tt t with
      | none => exact PD_F
      | some ti =>
        simp only
        cases lenD ti x with
        | none => exact PD_F
        | some v => exact PD_K _
    all_goals
      unfold opK callK
      simp only
      generalize mapO ρ args.toList = l
      cases l
      · exact PD_F
      · exact PD_mm _ _ _
  | invoke r m => simp [cls] at hc
theorem opKd_pure (op : Op) (hc : cls md op = 0) : PD (opKd P tt md base op ρ) := by
  cases op <;> (try (simp [cls] at hc; done))
  · exact PD_move (P := P) (tt := tt) _
  · exact PD_assign (P := P) (tt := tt) _
  · exact PD_pick (P := P) (tt := tt) _ _ _
  · exact PD_build (P := P) (tt := tt) _ _
  · rename_i t n l
    exact PD_buildSlice (by have := cls_lit md t n l; omega) _ _ _
  · exact PD_nilCheck (P := P) (tt := tt) _
  · exact PD_binOp (P := P) (tt := tt) _ _ _ _ _
  · exact PD_unOp (P := P) (tt := tt) _ 0 _
  · exact PD_convert (P := P) (tt := tt) _ _ _
  · exact PD_makeFunc (P := P) (tt := tt) _ _ _
  · exact PD_slice (P := P) (tt := tt) _ _ _ _ _ hc
  · exact PD_fieldAddr (P := P) (tt := tt) _ _ _
  · exact PD_field (P := P) (tt := tt) _ _ _
  · exact PD_indexAddr (P := P) (tt := tt) _ _ _
  · exact PD_index (P := P) (tt := tt) _ _ _
  · exact PD_extract (P := P) (tt := tt) _ _
  · exact PD_call _ hc
theorem opKd_load {H : Heap} {K : AV → Heap → Prop} (op : Op) (hc : cls md op = 1) (h : opKd P tt md base op ρ H K) :
    ∃ v, K v H ∧ ∀ (H2 : Heap) (K' : AV → Heap → Prop), (∀ b, b < base → rowOf H2 b = rowOf H b) → K' v H2 → opKd P tt md base op ρ H2 K' := by
  cases op <;> (try (simp [cls] at hc; done))
  case buildSlice t n l => have := cls_lit md t n l; omega
  case load t x =>
    unfold opKd opK at h ⊢
    simp only at h ⊢
    generalize evalO ρ x = v at h ⊢
    cases v <;> (try exact h.elim)
    · rename_i b o
      simp only at h ⊢
      cases hb : Nat.blt b base with
      | false => rw [hb] at h; exact h.elim
      | true =>
        rw [hb] at h
        simp only at h ⊢
        cases ht : tt t with
        | none => rw [ht] at h; exact h.elim
        | some ti =>
          rw [ht] at h
          simp only at h ⊢
          cases hr : rowOf H b with
          | none => rw [hr] at h; exact h.elim
          | some cs =>
            rw [hr] at h
            obtain ⟨v, h1, h2⟩ := PD_load ti cs o H K h
            refine ⟨v, h1, fun H2 K' hag hk => ?_⟩
            rw [hag b (by simpa [Nat.blt_eq] using hb), hr]
            exact h2 H2 K' hk
    · rename_i row o
      simp only at h ⊢
      cases ht : tt t with
      | none => rw [ht] at h; exact h.elim
      | some ti =>
        rw [ht] at h
        obtain ⟨v, h1, h2⟩ := PD_loadD ti row o H K h
        exact ⟨v, h1, fun H2 K' _ hk => h2 H2 K' hk⟩
  case slice t x lo hi mx =>
    unfold opKd at h ⊢
    simp only at h ⊢
    cases mx with
    | some _ => exact h.elim
    | none =>
    simp only at h ⊢
    cases ht : tt t with
    | none => rw [ht] at h; exact h.elim
    | some ti =>
      rw [ht] at h
      simp only at h ⊢
      have h1 := fun hk => PD_sl (P := P) (ρ := ρ) ht hk x lo hi H K
      generalize hke : ti.k = k at h h1 ⊢
      cases k
      case arr n e =>
        obtain ⟨h, rfl, rfl, b, off, hx, hb⟩ := sliceA_in h
        rw [hx]
        unfold opK at h ⊢
        simp only [ht, hke, hx] at h ⊢
        cases he : tt e with
        | none => rw [he] at h; exact h.elim
        | some ei =>
          rw [he] at h
          simp only at h ⊢
          cases hr : rowOf H b with
          | none => rw [hr] at h; exact h.elim
          | some cs =>
            rw [hr] at h
            simp only at h
            cases hl : Nat.ble (off + n * ei.size) cs.length with
            | false => rw [hl] at h; exact h.elim
            | true =>
              rw [hl] at h
              simp only [Br, NeedK_eq] at h
              refine ⟨_, h.2, fun H2 K' hag hk => sliceA_of hb ?_⟩
              rw [hag b (by simpa [Nat.blt_eq] using hb), hr]
              simp only [hl, Br, NeedK_eq]
              exact ⟨h.1, hk⟩
      all_goals
        obtain ⟨v, g1, g2⟩ := h1 (by simp) h
        exact ⟨v, g1, fun H2 K' _ hk => g2 H2 K' hk⟩
  case call c =>
    exfalso
    obtain ⟨cal, args, tys⟩ := c
    cases cal with
    | value f => rcases cls_val md f args tys with ⟨_, h⟩ | ⟨_, h⟩ | ⟨_, _, _, h⟩ | ⟨_, _, _, h⟩ <;> omega
    | builtin b => cases b <;> simp [cls] at hc
    | invoke r m => simp [cls] at hc
def PP (F : Heap → (AV → Heap → Prop) → Prop) : Prop := ∀ H K, F H K → ∃ v new, K v (H ++ new) ∧ ∀ K' : AV → Heap → Prop, K' v (H ++ new) → F H K'
theorem PP_F : PP fun _ _ => False := fun H K h => h.elim
theorem PP_PD {F : Heap → (AV → Heap → Prop) → Prop} (h : PD F) : PP F := fun H K hf => by
  obtain ⟨v, h1, h2⟩ := h H K hf
  exact ⟨v, [], by simpa using h1, fun K' hk => h2 H K' (by simpa using hk)⟩
theorem PP_fill (place : Nat → Option (Nat × Nat)) {F : List AV → Heap → (AV → Heap → Prop) → Prop} (h : ∀ l, PP (F l)) (l : List (Nat × AV)) : ∀ cs, PP fun H K => fillK place cs l fun cs => F cs H K := by
  induction l with
  | nil => intro cs; exact h cs
  | cons x r ih =>
    intro cs
    obtain ⟨i, v⟩ := x
    unfold fillK
    cases place i with
    | none => exact PP_F
    | some os =>
      obtain ⟨off, size⟩ := os
      have key : ∀ vs : List AV, PP fun H K => (match Nat.beq vs.length size with
        | true => match Nat.ble (off + vs.length) cs.length with
          | true => fillK place (splice cs off vs) r fun cs => F cs H K
          | false => False
        | false => False) := fun vs => by
        cases Nat.beq vs.length size
        · exact PP_F
        · cases Nat.ble (off + vs.length) cs.length
          · exact PP_F
          · exact ih _
      cases v <;> first | exact key _ | exact PP_F
theorem PP_bs (md sz n : Nat) (cs : List AV) : PP fun H K => bsK md sz n cs H K := fun H K h => by
  by_cases e : md = 3
  · subst e
    unfold bsK at h ⊢
    simp only [pushK_eq] at h ⊢
    rcases Ch_e h with h | h
    · exact ⟨_, _, h, fun K' hk => Ch_l hk⟩
    · obtain ⟨v, h1, h2⟩ := PD_dat sz n cs H K h
      exact ⟨v, [], by simpa using h1, fun K' hk => Ch_r (h2 H K' (by simpa using hk))⟩
  · simp only [bsK_dat e] at h ⊢
    exact PP_PD (PD_dat sz n cs) H K h
theorem opKd_push {H : Heap} {K : AV → Heap → Prop} (op : Op) (hc : cls md op = 2) (h : opKd P tt md base op ρ H K) :
    ∃ v new, K v (H ++ new) ∧ ∀ (K' : AV → Heap → Prop), K' v (H ++ new) → opKd P tt md base op ρ H K' := by
  cases op <;> (try (simp [cls] at hc; done))
  case buildSlice t len parts =>
    revert K
    intro K h
    unfold opKd at h ⊢
    simp only at h ⊢
    cases ht : tt t with
    | none => rw [ht] at h; exact h.elim
    | some ti =>
      rw [ht] at h
      simp only at h ⊢
      generalize ti.k = k at h ⊢
      cases k <;> (try exact h.elim)
      rename_i e
      simp only at h ⊢
      cases he : tt e with
      | none => rw [he] at h; exact h.elim
      | some ei =>
        rw [he] at h
        simp only at h ⊢
        cases h1 : Nat.ble (len + len * ei.size) 1000 with
        | false => rw [h1] at h; exact h.elim
        | true =>
          rw [h1] at h
          simp only at h ⊢
          cases h2 : Nat.beq ei.zero.length ei.size with
          | false => rw [h2] at h; exact h.elim
          | true =>
            rw [h2] at h
            simp only [forceL_eq] at h ⊢
            exact PP_fill _ (F := fun cs H K => bsK md ei.size len cs H K) (fun l => PP_bs md _ _ l) _ _ H K h
  case slice t x lo hi mx =>
    have := cls_slice md t x lo hi mx
    omega
  case alloc t =>
    unfold opKd opK at h ⊢
    simp only at h ⊢
    cases ht : tt t with
    | none => rw [ht] at h; exact h.elim
    | some ti =>
      rw [ht] at h
      simp only [pushK_eq] at h ⊢
      split at h
      · split at h
        · exact ⟨_, _, h, fun K' hk => hk⟩
        · exact h.elim
      · exact ⟨_, _, h, fun K' hk => hk⟩
  case makeMap t r =>
    unfold opKd opK at h ⊢
    simp only at h ⊢
    cases r with
    | some _ => exact h.elim
    | none =>
      simp only at h ⊢
      cases ht : tt t with
      | none => rw [ht] at h; exact h.elim
      | some ti =>
        rw [ht] at h
        simp only [pushK_eq] at h ⊢
        generalize ti.k = k at h ⊢
        cases k <;> (try exact h.elim)
        exact ⟨_, _, h, fun K' hk => hk⟩
  case box t x =>
    unfold opKd opK at h ⊢
    simp only [pushK_eq] at h ⊢
    unfold cellsK at h ⊢
    generalize evalO ρ x = v at h ⊢
    split at h
    · exact ⟨_, _, h, fun K' hk => hk⟩
    · split at h
      · exact ⟨_, _, h, fun K' hk => hk⟩
      · exact h.elim
  case call c =>
    obtain ⟨cal, args, tys⟩ := c
    cases cal with
    | value f =>
      have hm : md = 1 := by
        rcases cls_val md f args tys with ⟨_, h⟩ | ⟨h, _⟩ | ⟨_, _, _, h⟩ | ⟨_, _, _, h⟩ <;> omega
      subst hm
      unfold opKd at h ⊢
      simp only [forceL_eq, callM] at h ⊢
      generalize evalO ρ f = v at h ⊢
      cases v <;> (try exact h.elim)
      · rename_i d
        cases d <;> (try exact h.elim)
        simp only [CallP_eq] at h ⊢
        obtain ⟨r, new, h1, h2⟩ := h
        exact ⟨r, new, h2, fun K' hk => ⟨r, new, h1, hk⟩⟩
      · rename_i fn _ _
        cases fn <;> (try exact h.elim)
        simp only [CallP_eq] at h ⊢
        obtain ⟨r, new, h1, h2⟩ := h
        exact ⟨r, new, h2, fun K' hk => ⟨r, new, h1, hk⟩⟩
    | builtin b => cases b <;> simp [cls] at hc
    | invoke r m => simp [cls] at hc
theorem Br_det {b : Bool} {X Y : (AV → Heap → Prop) → Prop} {H : Heap} {K : AV → Heap → Prop} (hx : X K → ∃ v H', K v H' ∧ H.length ≤ H'.length ∧ ∀ K' : AV → Heap → Prop, K' v H' → X K')
    (hy : Y K → ∃ v H', K v H' ∧ H.length ≤ H'.length ∧ ∀ K' : AV → Heap → Prop, K' v H' → Y K') (h : Br b (X K) (Y K)) : ∃ v H', K v H' ∧ H.length ≤ H'.length ∧ ∀ K' : AV → Heap → Prop, K' v H' → Br b (X K') (Y K') := by
  cases b
  · exact hy h
  · exact hx h
theorem app_det {ei : TI} {H : Heap} {s x : AV} {K : AV → Heap → Prop} (h : appK ei H s x K) : ∃ v H', K v H' ∧ H.length ≤ H'.length ∧ ∀ K' : AV → Heap → Prop, K' v H' → appK ei H s x K' := by
  unfold appK at h ⊢
  cases hm : newLen x with
  | none => rw [hm] at h; exact h.elim
  | some m =>
  rw [hm] at h
  simp only at h ⊢
  cases hcs : newCells H ei.size x with
  | none => rw [hcs] at h; exact h.elim
  | some cs =>
  rw [hcs] at h
  simp only [pushK_eq, setK_eq, NeedK_eq] at h ⊢
  cases s <;> (try exact h.elim)
  · cases x <;> first
      | exact ⟨_, _, h, by simp, fun K' hk => hk⟩
      | exact ⟨_, _, h.2, by simp, fun K' hk => ⟨h.1, hk⟩⟩
  · cases m
    · exact ⟨_, _, h.2, by simp, fun K' hk => ⟨h.1, hk⟩⟩
    · exact ⟨_, _, h.2, by simp, fun K' hk => ⟨h.1, hk⟩⟩
  · rename_i b off len cl sz
    simp only at h ⊢
    cases ho : rowOf H b with
    | none => rw [ho] at h; exact h.elim
    | some old =>
    rw [ho] at h
    simp only at h ⊢
    refine Br_det (X := fun K => Br (Nat.beq sz ei.size) (_ ∧ K _ _) False) (Y := fun K => Br (Nat.beq off 0) (Br (Nat.beq sz ei.size) (_ ∧ K _ _) False) False) (fun h => ?_) (fun h => ?_) h
    · exact Br_det (X := fun K => _ ∧ K _ _) (Y := fun _ => False) (fun h => ⟨_, _, h.2, by simp, fun K' hk => ⟨h.1, hk⟩⟩) (fun h => h.elim) h
    · refine Br_det (X := fun K => Br (Nat.beq sz ei.size) (_ ∧ K _ _) False) (Y := fun _ => False) (fun h => ?_) (fun h => h.elim) h
      exact Br_det (X := fun K => _ ∧ K _ _) (Y := fun _ => False) (fun h => ⟨_, _, h.2, by simp, fun K' hk => ⟨h.1, hk⟩⟩) (fun h => h.elim) h
theorem opKd_det {H : Heap} {K : AV → Heap → Prop} (op : Op) (h : opKd P tt md base op ρ H K) :
    ∃ v H', K v H' ∧ H.length ≤ H'.length ∧ ∀ (K' : AV → Heap → Prop), K' v H' → opKd P tt md base op ρ H K' := by
  by_cases h0 : cls md op = 0
  · obtain ⟨v, h1, h2⟩ := opKd_pure op h0 H K h
    exact ⟨v, H, h1, Nat.le_refl _, fun K' hk => h2 H K' hk⟩
  by_cases h1 : cls md op = 1
  · obtain ⟨v, h1, h2⟩ := opKd_load op h1 h
    exact ⟨v, H, h1, Nat.le_refl _, fun K' hk => h2 H K' (fun _ _ => rfl) hk⟩
  by_cases h2 : cls md op = 2
  · obtain ⟨v, new, h1, h2⟩ := opKd_push op h2 h
    exact ⟨v, _, h1, by simp, fun K' hk => h2 K' hk⟩
  cases op <;> (try (exact h.elim)) <;> (try (simp [cls] at h0 h1 h2; done))
  case buildSlice t n l =>
    have := cls_lit md t n l
    omega
  case slice t x lo hi mx =>
    have := cls_slice md t x lo hi mx
    omega
  case lookup t m k ok =>
    unfold opKd opK at h ⊢
    simp only at h ⊢
    split at h
    · exact h.elim
    rename_i ti ht
    try simp only [ht]
    split at h
    · rename_i kt et hk
      try simp only [hk]
      split at h
      · rename_i ki ei hki hei
        try simp only [hki, hei]
        split at h
        · exact h.elim
        rename_i hkk
        try simp only [hkk]
        split at h
        · rename_i b hb
          try simp only [hb]
          split at h
          · exact h.elim
          rename_i ks vs hm
          try simp only [hm]
          split at h
          · rename_i n hn
            try simp only [hn]
            split at h
            · obtain ⟨h1, h2⟩ := h
              cases hl : lkV ks vs n with
              | none => exact ⟨_, _, h2 hl, Nat.le_refl _, fun K' hk => Lk_none hl hk⟩
              | some x => exact ⟨_, _, h1 x hl, Nat.le_refl _, fun K' hk => Lk_some x hl hk⟩
            · exact h.elim
          · exact h.elim
        · exact h.elim
      · exact h.elim
    · exact h.elim
  case mapUpdate t m k x =>
    unfold opKd opK at h ⊢
    simp only at h ⊢
    split at h
    · exact h.elim
    rename_i ti ht
    try simp only [ht]
    split at h
    · rename_i kt et hk
      try simp only [hk]
      split at h
      · exact h.elim
      rename_i ki hki
      try simp only [hki]
      split at h
      · exact h.elim
      rename_i hkk
      try simp only [hkk]
      split at h
      · rename_i b hb
        try simp only [hb]
        split at h
        · exact h.elim
        rename_i ks vs hm
        try simp only [hm]
        split at h
        · rename_i n hn
          try simp only [hn]
          split at h
          · rename_i hlf
            simp only [hlf, setK_eq] at h ⊢
            exact ⟨_, _, h, by simp, fun K' hk => hk⟩
          · exact h.elim
        · exact h.elim
      · exact h.elim
    · exact h.elim
  case store t x y =>
    unfold opKd opK at h ⊢
    simp only [setK_eq] at h ⊢
    split at h
    · exact h.elim
    · rename_i ti ht
      try simp only [ht]
      split at h
      · rename_i b off hx
        try simp only [hx]
        split at h
        · rename_i cs hcs
          try simp only [hcs]
          generalize evalO ρ y = v at h ⊢
          unfold cellsK at h ⊢
          have key : ∀ vs : List AV, Br (Nat.beq vs.length ti.size) (Br (Nat.ble (off + vs.length) cs.length) (K .any (H.set b (some (.row (splice cs off vs))))) False) False →
              ∃ v H', K v H' ∧ H.length ≤ H'.length ∧ ∀ (K' : AV → Heap → Prop), K' v H' → Br (Nat.beq vs.length ti.size) (Br (Nat.ble (off + vs.length) cs.length) (K' .any (H.set b (some (.row (splice cs off vs))))) False) False := fun vs h => by
            unfold Br at h ⊢
            split at h
            · split at h
              · exact ⟨_, _, h, by simp, fun K' hk => hk⟩
              · exact h.elim
            · exact h.elim
          split at h
          · exact key _ h
          · split at h
            · exact key _ h
            · exact h.elim
        · exact h.elim
      · exact h.elim
  case call c =>
    obtain ⟨cal, args, tys⟩ := c
    cases cal with
    | value f =>
      have hm : md ≠ 0 ∧ md ≠ 1 ∧ md ≠ 3 := by
        rcases cls_val md f args tys with ⟨_, h⟩ | ⟨_, h⟩ | ⟨_, _, _, h⟩ | ⟨h1, h2, h3, _⟩
        · omega
        · omega
        · omega
        · exact ⟨h1, h2, h3⟩
      obtain ⟨hm0, hm1, hm3⟩ := hm
      unfold opKd at h ⊢
      simp only [forceL_eq] at h ⊢
      generalize evalO ρ f = v at h ⊢
      cases v <;> (try exact h.elim)
      · rename_i d
        cases d <;> (try exact h.elim)
        exact callM_det hm0 hm1 hm3 h
      · rename_i fn _ _
        cases fn <;> (try exact h.elim)
        exact callM_det hm0 hm1 hm3 h
    | builtin b =>
      cases b <;> (try exact h.elim) <;> (try (simp [cls] at h0; done))
      unfold opKd opK callK at h ⊢
      simp only at h ⊢
      split at h
      · rename_i t u ts s x xs hty hargs
        try simp only [hty, hargs]
        split at h
        · rename_i ti ui hti hui
          try simp only [hti, hui]
          split at h
          · rename_i e e2 hk1 hk2
            try simp only [hk1, hk2]
            split at h
            · rename_i ei hei
              try simp only [hei]
              rcases Ch_e h with h | h
              · obtain ⟨v, H', g1, g2, g3⟩ := app_det h
                exact ⟨v, H', g1, g2, fun K' hk => Ch_l (g3 K' hk)⟩
              · unfold appD at h
                split at h
                · split at h
                  · simp only [NeedK_eq] at h
                    exact ⟨_, H, h.2, Nat.le_refl _, fun K' hk => Ch_r (by unfold appD; simp only [NeedK_eq]; exact ⟨h.1, hk⟩)⟩
                  · simp only [NeedK_eq] at h
                    exact ⟨_, H, h.2, Nat.le_refl _, fun K' hk => Ch_r (by unfold appD; simp only [NeedK_eq]; exact ⟨h.1, hk⟩)⟩
                  · simp only [NeedK_eq] at h
                    exact ⟨_, H, h.2, Nat.le_refl _, fun K' hk => Ch_r (by unfold appD; simp only [NeedK_eq]; exact ⟨h.1, hk⟩)⟩
                  · exact h.elim
                · exact h.elim
            · exact h.elim
          · rename_i e hk1 hk2
            try simp only [hk1, hk2]
            split at h
            · rename_i ei hei
              try simp only [hei]
              unfold appS at h ⊢
              simp only [NeedK_eq, pushK_eq, setK_eq] at h ⊢
              repeat' (first | exact h.elim | exact ⟨_, _, h.2, by simp, fun K' hk => ⟨h.1, hk⟩⟩ | split at h)
            · exact h.elim
          · exact h.elim
        · exact h.elim
      · exact h.elim
    | invoke r m => exact h.elim
end
end Go.Eng
set_option linter.unusedVariables false
set_option linter.unusedSimpArgs false
namespace Go.Eng
open Go
def gst (ops : Array Oper) (o : Oper) (ρ : Nat → AV) : Option Bool :=
  match o.guard with
  | none => some true
  | some (j, want) => match (ops[j]?).bind (·.dst) with
    | none => none
    | some t => match ρ t with
      | .d (.bool b) => some (b == want)
      | .tup vs => match vs with
        | [] => some false
        | _ => none
      | _ => none
def okDst (n : Nat) (d : Option Nat) : Bool :=
  match d with
  | none => true
  | some d => Nat.blt d n
section
variable {P : Program} {tt : TT} {md base : Nat} {ops : Array Oper} {n : Nat}
def opAt (P : Program) (tt : TT) (md base : Nat) (ops : Array Oper) (n i : Nat) (ρ : Nat → AV) (H : Heap) (K : (Nat → AV) → Heap → Prop) : Prop :=
  match ops[i]? with
  | none => False
  | some o => okDst n o.dst = true ∧ match gst ops o ρ with
    | some true => opKd P tt md base o.op ρ H fun v H' => K (updO ρ o.dst v) H'
    | some false => K (updO ρ o.dst (.tup [])) H
    | none => False
def awpF (P : Program) (tt : TT) (md base : Nat) (ops : Array Oper) (n : Nat) (l : List Nat) (ρ : Nat → AV) (H : Heap) (K : (Nat → AV) → Heap → Prop) : Prop :=
  match l with
  | [] => K ρ H
  | i :: r => opAt P tt md base ops n i ρ H fun ρ' H' => awpF P tt md base ops n r ρ' H' K
def AgreeT (ops : Array Oper) (o : Oper) (ρ ρ' : Nat → AV) : Prop := ∀ t ∈ o.looksAt ops, ρ t = ρ' t
theorem AgreeT.opnds {o : Oper} {ρ ρ' : Nat → AV} (h : AgreeT ops o ρ ρ') : Agree ρ ρ' o.op.operands.toList := fun x hx => evalO_congr fun t ht => h t (by
  subst ht
  exact List.mem_append_left _ (List.mem_filterMap.2 ⟨.tmp t, hx, rfl⟩))
theorem AgreeT.gst {o : Oper} {ρ ρ' : Nat → AV} (h : AgreeT ops o ρ ρ') : gst ops o ρ = gst ops o ρ' := by
  unfold Eng.gst
  cases hg : o.guard with
  | none => rfl
  | some g =>
    obtain ⟨j, want⟩ := g
    simp only
    cases ht : (ops[j]?).bind (·.dst) with
    | none => rfl
    | some t =>
      have : ρ t = ρ' t := h t (by
        unfold Oper.looksAt
        rw [hg]
        simp only [ht]
        exact List.mem_append_right _ (by simp))
      simp only [this]
theorem opKd_congr {op : Op} {ρ ρ' : Nat → AV} {H : Heap} {K : AV → Heap → Prop} (h : Agree ρ ρ' op.operands.toList) : opKd P tt md base op ρ H K = opKd P tt md base op ρ' H K := by
  have e := opK_congr (P := P) (tt := tt) (H := H) (K := K) h
  cases op <;> unfold opKd <;> simp only [e]
  case buildSlice t len parts =>
    have : partsO ρ parts.toList = partsO ρ' parts.toList := by
      refine List.map_congr_left fun x hx => ?_
      obtain ⟨i, x⟩ := x
      simp only [h x (by simp only [Op.operands, Array.toList_map, List.mem_map]; exact ⟨_, hx, rfl⟩)]
    rw [this]
  case binOp => rw [show evalO ρ _ = evalO ρ' _ from h _ (by simp [Op.operands])]
  case load => rw [show evalO ρ _ = evalO ρ' _ from h _ (by simp [Op.operands])]
  case slice t x lo hi mx => rw [show evalO ρ x = evalO ρ' x from h _ (by simp [Op.operands])]
  case call c =>
    obtain ⟨cal, args, tys⟩ := c
    have h1 : mapO ρ args.toList = mapO ρ' args.toList := mapO_congr fun x hx => h x (by
      simp [Op.operands, Call.operands]; exact .inr (by simpa using hx))
    cases cal with
    | value f =>
      have h2 : evalO ρ f = evalO ρ' f := h f (by simp [Op.operands, Call.operands])
      simp only [h1, h2]
    | builtin b => simp only [h1]
    | invoke r m => rfl
def Out (P : Program) (tt : TT) (md base : Nat) (ops : Array Oper) (n i : Nat) (o : Oper) (ρ : Nat → AV) (H : Heap) (v : AV) (H' : Heap) : Prop :=
  ∀ ρ2, AgreeT ops o ρ ρ2 → ∀ K' : (Nat → AV) → Heap → Prop, K' (updO ρ2 o.dst v) H' → opAt P tt md base ops n i ρ2 H K'
theorem Out_of {i : Nat} {o : Oper} {ρ : Nat → AV} {H : Heap} {v : AV} {H' : Heap} (ho : ops[i]? = some o) (hd : okDst n o.dst = true) (hg : gst ops o ρ = some true)
    (h : ∀ K' : AV → Heap → Prop, K' v H' → opKd P tt md base o.op ρ H K') : Out P tt md base ops n i o ρ H v H' := fun ρ2 ha K' hk => by
  unfold opAt
  simp only [ho]
  refine ⟨hd, ?_⟩
  rw [← ha.gst, hg]
  simp only
  rw [← opKd_congr ha.opnds]
  exact h (fun v H' => K' (updO ρ2 o.dst v) H') hk
theorem Out_skip {i : Nat} {o : Oper} {ρ : Nat → AV} {H : Heap} (ho : ops[i]? = some o) (hd : okDst n o.dst = true) (hg : gst ops o ρ = some false) : Out P tt md base ops n i o ρ H (.tup []) H := fun ρ2 ha K' hk => by
  unfold opAt
  simp only [ho]
  refine ⟨hd, ?_⟩
  rw [← ha.gst, hg]
  exact hk
theorem opAt_in {i : Nat} {ρ : Nat → AV} {H : Heap} {K : (Nat → AV) → Heap → Prop} (h : opAt P tt md base ops n i ρ H K) :
    ∃ o, ops[i]? = some o ∧ okDst n o.dst = true ∧ ((gst ops o ρ = some true ∧ opKd P tt md base o.op ρ H fun v H' => K (updO ρ o.dst v) H') ∨ (gst ops o ρ = some false ∧ K (updO ρ o.dst (.tup [])) H)) := by
  unfold opAt at h
  split at h
  · exact h.elim
  · rename_i o ho
    refine ⟨o, ho, h.1, ?_⟩
    have h := h.2
    split at h
    · rename_i hg; exact .inl ⟨hg, h⟩
    · rename_i hg; exact .inr ⟨hg, h⟩
    · exact h.elim
section
variable {i : Nat} {o : Oper} {ρ : Nat → AV} {H : Heap} {K : (Nat → AV) → Heap → Prop}
theorem at0 (ho : ops[i]? = some o) (hc : cls md o.op = 0) (h : opAt P tt md base ops n i ρ H K) : ∃ v, K (updO ρ o.dst v) H ∧ ∀ H2, Out P tt md base ops n i o ρ H2 v H2 := by
  obtain ⟨o', ho', hd, h | h⟩ := opAt_in h <;> rw [ho] at ho' <;> injection ho' with ho' <;> subst ho'
  · obtain ⟨v, h1, h2⟩ := opKd_pure o.op hc H _ h.2
    exact ⟨v, h1, fun H2 => Out_of ho hd h.1 fun K' hk => h2 H2 K' hk⟩
  · exact ⟨.tup [], h.2, fun H2 => Out_skip ho hd h.1⟩
theorem at1 (ho : ops[i]? = some o) (hc : cls md o.op = 1) (h : opAt P tt md base ops n i ρ H K) :
    ∃ v, K (updO ρ o.dst v) H ∧ ∀ H2, (∀ b, b < base → rowOf H2 b = rowOf H b) → Out P tt md base ops n i o ρ H2 v H2 := by
  obtain ⟨o', ho', hd, h | h⟩ := opAt_in h <;> rw [ho] at ho' <;> injection ho' with ho' <;> subst ho'
  · obtain ⟨v, h1, h2⟩ := opKd_load o.op hc h.2
    exact ⟨v, h1, fun H2 hag => Out_of ho hd h.1 fun K' hk => h2 H2 K' hag hk⟩
  · exact ⟨.tup [], h.2, fun H2 _ => Out_skip ho hd h.1⟩
theorem at2 (ho : ops[i]? = some o) (hc : cls md o.op = 2) (h : opAt P tt md base ops n i ρ H K) : ∃ v new, K (updO ρ o.dst v) (H ++ new) ∧ Out P tt md base ops n i o ρ H v (H ++ new) := by
  obtain ⟨o', ho', hd, h | h⟩ := opAt_in h <;> rw [ho] at ho' <;> injection ho' with ho' <;> subst ho'
  · obtain ⟨v, new, h1, h2⟩ := opKd_push o.op hc h.2
    exact ⟨v, new, h1, Out_of ho hd h.1 h2⟩
  · exact ⟨.tup [], [], by simpa using h.2, by simpa using Out_skip ho hd h.1⟩
theorem at3 (ho : ops[i]? = some o) (h : opAt P tt md base ops n i ρ H K) : ∃ v H', K (updO ρ o.dst v) H' ∧ H.length ≤ H'.length ∧ Out P tt md base ops n i o ρ H v H' := by
  obtain ⟨o', ho', hd, h | h⟩ := opAt_in h <;> rw [ho] at ho' <;> injection ho' with ho' <;> subst ho'
  · obtain ⟨v, H', h1, h2, h3⟩ := opKd_det o.op h.2
    exact ⟨v, H', h1, h2, Out_of ho hd h.1 h3⟩
  · exact ⟨.tup [], H, h.2, Nat.le_refl _, Out_skip ho hd h.1⟩
theorem opAt_mono {K' : (Nat → AV) → Heap → Prop} (h : opAt P tt md base ops n i ρ H K) (hk : ∀ ρ' H', H.length ≤ H'.length → K ρ' H' → K' ρ' H') : opAt P tt md base ops n i ρ H K' := by
  obtain ⟨o, ho, _⟩ := opAt_in h
  obtain ⟨v, H', h1, h2, h3⟩ := at3 ho h
  exact h3 ρ (fun _ _ => rfl) K' (hk _ _ h2 h1)
end
def clsOk (a b : Nat) : Bool := Nat.beq a 0 || Nat.beq b 0 || (Nat.beq a 1 && Nat.beq b 1) || (Nat.beq a 1 && Nat.beq b 2) || (Nat.beq a 2 && Nat.beq b 1)
theorem updO_comm {ρ : Nat → AV} {d e : Option Nat} (h : ∀ x, d = some x → e ≠ some x) (v u : AV) : updO (updO ρ d v) e u = updO (updO ρ e u) d v := by
  cases d with
  | none => cases e <;> rfl
  | some d =>
    cases e with
    | none => rfl
    | some e => exact upd_comm (fun hde => h d rfl (by rw [hde])) v u
theorem updO_get {ρ : Nat → AV} {d : Option Nat} {t : Nat} (h : ∀ x, d = some x → x ≠ t) (v : AV) : updO ρ d v t = ρ t := by
  cases d with
  | none => rfl
  | some d =>
    show (bif Nat.beq d t then v else ρ t) = ρ t
    rw [beq_ne (h d rfl)]
    rfl
theorem swap {i j : Nat} {oi oj : Oper} (hi : ops[i]? = some oi) (hj : ops[j]? = some oj) (hap : oi.apart ops oj = true) (hcl : clsOk (cls md oi.op) (cls md oj.op) = true)
    {ρ : Nat → AV} {H : Heap} {K : (Nat → AV) → Heap → Prop} (hb : base ≤ H.length) (h : opAt P tt md base ops n i ρ H fun ρ1 H1 => opAt P tt md base ops n j ρ1 H1 K) :
    opAt P tt md base ops n j ρ H fun ρ1 H1 => opAt P tt md base ops n i ρ1 H1 K := by
  obtain ⟨h1, h2, h3⟩ := Oper.apart_spec hap
  have agj : ∀ v, AgreeT ops oj (updO ρ oi.dst v) ρ := fun v t ht => updO_get (fun x hx e => h1 x hx (e ▸ ht)) v
  have agi : ∀ v, AgreeT ops oi ρ (updO ρ oj.dst v) := fun v t ht => (updO_get (fun x hx e => h3 x hx (e ▸ ht)) v).symm
  have comm : ∀ v u, updO (updO ρ oi.dst v) oj.dst u = updO (updO ρ oj.dst u) oi.dst v := fun v u => updO_comm h2 v u
  have grow : ∀ new : Heap, ∀ b, b < base → rowOf (H ++ new) b = rowOf H b := fun new b hb' => by
    unfold rowOf
    rw [List.getElem?_append_left (by omega)]
  by_cases a0 : cls md oi.op = 0
  · obtain ⟨vi, g1, g2⟩ := at0 hi a0 h
    obtain ⟨vj, H2, k1, k2, k3⟩ := at3 hj g1
    exact k3 ρ (agj vi) _ (g2 H2 _ (agi vj) _ (by rw [← comm]; exact k1))
  by_cases b0 : cls md oj.op = 0
  · obtain ⟨vi, H1, g1, g2, g3⟩ := at3 hi h
    obtain ⟨vj, k1, k2⟩ := at0 hj b0 g1
    exact k2 H ρ (agj vi) _ (g3 _ (agi vj) _ (by rw [← comm]; exact k1))
  have hcl : (cls md oi.op = 1 ∧ cls md oj.op = 1) ∨ (cls md oi.op = 1 ∧ cls md oj.op = 2) ∨ (cls md oi.op = 2 ∧ cls md oj.op = 1) := by
    simp only [clsOk, Bool.or_eq_true, Bool.and_eq_true, Nat.beq_eq_true_eq] at hcl
    have e : ∀ x y : Nat, Nat.beq x y = true → x = y := fun x y h => Nat.eq_of_beq_eq_true h
    rcases hcl with (((h | h) | h) | h) | h
    · exact absurd (by first | exact h | exact e _ _ h) a0
    · exact absurd (by first | exact h | exact e _ _ h) b0
    · exact .inl ⟨by first | exact h.1 | exact e _ _ h.1, by first | exact h.2 | exact e _ _ h.2⟩
    · exact .inr (.inl ⟨by first | exact h.1 | exact e _ _ h.1, by first | exact h.2 | exact e _ _ h.2⟩)
    · exact .inr (.inr ⟨by first | exact h.1 | exact e _ _ h.1, by first | exact h.2 | exact e _ _ h.2⟩)
  rcases hcl with ⟨ci, cj⟩ | ⟨ci, cj⟩ | ⟨ci, cj⟩
  · obtain ⟨vi, g1, g2⟩ := at1 hi ci h
    obtain ⟨vj, k1, k2⟩ := at1 hj cj g1
    exact k2 H (fun _ _ => rfl) ρ (agj vi) _ (g2 H (fun _ _ => rfl) _ (agi vj) _ (by rw [← comm]; exact k1))
  · obtain ⟨vi, g1, g2⟩ := at1 hi ci h
    obtain ⟨vj, new, k1, k2⟩ := at2 hj cj g1
    exact k2 ρ (agj vi) _ (g2 _ (grow new) _ (agi vj) _ (by rw [← comm]; exact k1))
  · obtain ⟨vi, new, g1, g2⟩ := at2 hi ci h
    obtain ⟨vj, k1, k2⟩ := at1 hj cj g1
    exact k2 H (fun b hb' => (grow new b hb').symm) ρ (agj vi) _ (g2 _ (agi vj) _ (by rw [← comm]; exact k1))
def swB (md : Nat) (ops : Array Oper) (x i : Nat) : Bool :=
  match ops[x]?, ops[i]? with
  | some ox, some oi => clsOk (cls md ox.op) (cls md oi.op) && ox.apart ops oi
  | _, _ => false
theorem bubble {i : Nat} {b : List Nat} {K : (Nat → AV) → Heap → Prop} (a : List Nat) : ∀ (ρ : Nat → AV) (H : Heap), base ≤ H.length → (∀ x ∈ a, swB md ops x i = true) →
    awpF P tt md base ops n (a ++ i :: b) ρ H K → opAt P tt md base ops n i ρ H fun ρ' H' => awpF P tt md base ops n (a ++ b) ρ' H' K := by
  induction a with
  | nil => intro ρ H _ _ h; exact h
  | cons x a ih =>
    intro ρ H hb hs h
    have hx := hs x (by simp)
    unfold swB at hx
    split at hx
    · rename_i ox oi h1 h2
      simp only [Bool.and_eq_true] at hx
      have h' : opAt P tt md base ops n x ρ H fun ρ1 H1 => opAt P tt md base ops n i ρ1 H1 fun ρ2 H2 => awpF P tt md base ops n (a ++ b) ρ2 H2 K :=
        opAt_mono (K := fun ρ1 H1 => awpF P tt md base ops n (a ++ i :: b) ρ1 H1 K) h fun ρ1 H1 hl hh => ih ρ1 H1 (Nat.le_trans hb hl) (fun y hy => hs y (by simp [hy])) hh
      exact swap h1 h2 hx.2 hx.1 hb h'
    · simp at hx
def depB (ops : Array Oper) : Nat → Nat → Nat → Bool
  | 0, _, _ => false
  | f + 1, i, x => match ops[i]? with
    | none => false
    | some o => o.after.any fun e => Region.binds .any e && (Nat.beq e.on x || depB ops f e.on x)
def drawB (md : Nat) (ops : Array Oper) : Bool :=
  (List.range ops.size).all fun i => match ops[i]? with
    | none => false
    | some o => (o.after.all fun e => !Region.binds .any e || Nat.blt e.on i) && (List.range i).all fun x => (o.after.any fun e => Region.binds .any e && Nat.beq e.on x) || (swB md ops x i || depB ops 5 i x)
end
end Go.Eng
set_option linter.unusedVariables false
set_option linter.unusedSimpArgs false
namespace Go.Eng
open Go
section
variable {P : Program} {tt : TT} {p : PQ} {σ : List Nat} {s : St} {a : Act} {w : World} {ro : Option Nat} {n : Nat} {md base : Nat} {ops : Array Oper}
theorem fillK_mono {place : Nat → Option (Nat × Nat)} {K K' : List AV → Prop} (l : List (Nat × AV)) : ∀ (cs : List AV), fillK place cs l K → (∀ cs, K cs → K' cs) → fillK place cs l K' := by
  induction l with
  | nil => intro cs h hk; exact hk cs h
  | cons x t ih =>
    intro cs h hk
    obtain ⟨i, v⟩ := x
    unfold fillK at h ⊢
    split at h
    · exact h.elim
    · rename_i off size hp
      have key : ∀ vs : List AV, (match Nat.beq vs.length size with
        | true => match Nat.ble (off + vs.length) cs.length with
          | true => fillK place (splice cs off vs) t K
          | false => False
        | false => False) → (match Nat.beq vs.length size with
        | true => match Nat.ble (off + vs.length) cs.length with
          | true => fillK place (splice cs off vs) t K'
          | false => False
        | false => False) := fun vs h => by
        revert h
        generalize Nat.beq vs.length size = b1
        generalize Nat.ble (off + vs.length) cs.length = b2
        intro h
        cases b1
        · exact h
        · cases b2
          · exact h
          · exact ih _ h hk
      cases v <;> first | exact key _ h | exact h
theorem opKd_opK {op : Op} {ρ : Nat → AV} {H : Heap} {K : AV → Heap → Prop} (h : opKd P tt md base op ρ H K) : opK P tt op ρ H K := by
  cases op <;> (try exact h) <;> (try exact h.elim)
  case buildSlice t len parts =>
    unfold opKd at h
    unfold opK
    simp only at h ⊢
    split at h
    · exact h.elim
    · rename_i ti ht
      simp only [ht]
      split at h
      · rename_i e hk
        simp only [hk]
        split at h
        · exact h.elim
        · rename_i ei he
          simp only [he]
          split at h
          · rename_i h1
            simp only [h1]
            split at h
            · rename_i h2
              simp only [h2]
              exact fillK_mono _ _ h fun cs hc => by
                rw [forceL_eq] at hc ⊢
                exact bsK_in hc
            · exact h.elim
          · exact h.elim
      · exact h.elim
  case binOp => unfold opKd at h; simp only at h; split at h <;> first | exact h | exact h.elim
  case slice => unfold opKd at h; simp only at h; repeat' (first | exact h | exact (sliceA_in h).1 | exact h.elim | split at h)
  case load =>
    unfold opKd at h; simp only at h
    split at h <;> (try exact h) <;> (try exact h.elim)
    split at h <;> first | exact h | exact h.elim
  case call c =>
    unfold opKd at h
    obtain ⟨cal, args, tys⟩ := c
    simp only at h
    unfold opK callK
    simp only
    split at h
    · simp only at h ⊢
      split at h
      · rename_i hf
        simp only [forceL_eq, hf] at h ⊢
        exact callM_tri h
      · rename_i hf
        split at h
        · simp only [forceL_eq, hf] at h ⊢
          exact callM_tri h
        · exact h.elim
      · exact h.elim
    · split at h
      · split at h
        · rename_i hty hargs
          simp only [hty, hargs]
          split at h
          · rename_i ti ht
            simp only [ht]
            split at h
            · rename_i v hv
              unfold lenD at hv
              unfold lenK
              split at hv
              · rename_i hk
                simp only [hk]
                split at hv
                · injection hv with hv; subst hv; simp only [LenK_eq]; exact fun _ => h
                · simp at hv
              · rename_i hk
                simp only [hk]
                split at hv
                · injection hv with hv; subst hv; simp only [LenK_eq]; exact fun _ => h
                · injection hv with hv; subst hv; exact h
                · injection hv with hv; subst hv; simp only [LenK_eq]; exact fun _ => h
                · injection hv with hv; subst hv; exact h
                · simp at hv
              · rename_i hk
                simp only [hk]
                injection hv with hv; subst hv; exact h
              · simp at hv
            · exact h.elim
          · exact h.elim
        · exact h.elim
      · exact h
      · exact h
      · exact h
      · exact h.elim
    · exact h.elim
theorem at_sound (hT : TTok P tt) {i : Nat} {X : (Nat → AV) → Heap → Prop} {Q : Exit → Act → World → Prop} {K' : Act → World → Prop} (hR : Rel p σ s a w) (h : opAt P tt md base ops s.n i (get s.ρ) s.H X)
    (hk : ∀ (s' : St) (p' : PQ) (σ' : List Nat) (a' : Act) (w' : World), Ext p w p' w' → Mono σ σ' → Rel p' σ' s' a' w' → s'.m = s.m → s'.n = s.n → s'.df = s.df → X (get s'.ρ) s'.H → K' a' w') : wpOpIn (Fr ro) n P ops Q i K' a w := by
  obtain ⟨o, ho, hd, h⟩ := opAt_in h
  have put : ∀ (x : AV) (H' : Heap), X (updO (get s.ρ) o.dst x) H' → putK s o.dst x H' fun s' => X (get s'.ρ) s'.H ∧ s'.df = s.df := fun x H' hx => by
    obtain ⟨ρ, n0, H, m, df⟩ := s
    unfold putK
    simp only
    cases hdst : o.dst with
    | none => rw [hdst] at hx; exact ⟨hx, trivial⟩
    | some d =>
      rw [hdst] at hx hd
      simp only [okDst] at hd
      simp only [hd]
      exact ⟨hx, trivial⟩
  unfold wpOpIn
  simp only [ho]
  rcases h with ⟨hg, h⟩ | ⟨hg, h⟩
  · have hw : Region.wanted o (yielded ops a.tmps) = true := by
      unfold gst at hg
      cases hgd : o.guard with
      | none => simp [Region.wanted, hgd]
      | some g =>
        obtain ⟨j, want⟩ := g
        simp only [hgd] at hg
        cases ht : (ops[j]?).bind (·.dst) with
        | none => rw [ht] at hg; simp at hg
        | some t =>
          simp only [ht] at hg
          split at hg
          · rename_i b hb
            have henv := hR.env t
            rw [hb] at henv
            generalize hv : a.tmps.getD t undef = v at henv
            cases henv
            have hy : yielded ops a.tmps j = some b := by
              unfold yielded
              rw [ht]
              simp only [Option.bind_some]
              have : a.tmps[t]? = some (.bool b) := by
                rw [Array.getD_eq_getD_getElem?] at hv
                cases h : a.tmps[t]? with
                | none => rw [h] at hv; simp [undef] at hv
                | some u => rw [h] at hv; simp at hv; rw [hv]
              rw [this]
            simp only [Region.wanted, hgd, hy]
            cases b <;> cases want <;> first | rfl | exact absurd hg (by decide)
          · split at hg <;> simp at hg
          · simp at hg
    rw [hw]
    simp only [if_true]
    refine ⟨fun _ _ => trivial, opK_sound hT hR (fun v x w' p' σ' H' he hm hv hH hx => ?_) (opKd_opK h)⟩
    obtain ⟨s', h1, h2, h3, h4, h5⟩ := put_rel hR he hm hv hH (put x H' hx)
    exact hk s' p' σ' _ w' he hm h1 h2 h3 h5 h4
  · have hw : Region.wanted o (yielded ops a.tmps) = false := by
      unfold gst at hg
      cases hgd : o.guard with
      | none => simp [hgd] at hg
      | some g =>
        obtain ⟨j, want⟩ := g
        simp only [hgd] at hg
        cases ht : (ops[j]?).bind (·.dst) with
        | none => rw [ht] at hg; simp at hg
        | some t =>
          simp only [ht] at hg
          split at hg
          · rename_i b hb
            have henv := hR.env t
            rw [hb] at henv
            generalize hv : a.tmps.getD t undef = v at henv
            cases henv
            have hy : yielded ops a.tmps j = some b := by
              unfold yielded
              rw [ht]
              simp only [Option.bind_some]
              have : a.tmps[t]? = some (.bool b) := by
                rw [Array.getD_eq_getD_getElem?] at hv
                cases h : a.tmps[t]? with
                | none => rw [h] at hv; simp [undef] at hv
                | some u => rw [h] at hv; simp at hv; rw [hv]
              rw [this]
            simp only [Region.wanted, hgd, hy]
            cases b <;> cases want <;> first | rfl | exact absurd hg (by decide)
          · rename_i vs hb
            split at hg
            · have henv := hR.env t
              rw [hb] at henv
              have hnb := undVal henv
              have : yielded ops a.tmps j = none := by
                unfold yielded
                rw [ht]
                simp only [Option.bind_some]
                cases h : a.tmps[t]? with
                | none => rfl
                | some u =>
                  have hu : a.tmps.getD t undef = u := by rw [Array.getD_eq_getD_getElem?, h]; rfl
                  cases u <;> first
                    | rfl
                    | exact absurd hu (hnb _)
              simp [Region.wanted, hgd, this]
            · simp at hg
          · simp at hg
    rw [hw]
    simp only [Bool.false_eq_true, if_false]
    refine ⟨fun _ _ => trivial, ?_⟩
    obtain ⟨s', h1, h2, h3, h4, h5⟩ := put_rel hR (.refl p w) (.refl σ) undRel hR.heap (put (.tup []) s.H h)
    exact hk s' p σ _ w (.refl p w) (.refl σ) h1 h2 h3 h5 h4
def unl (ops : Array Oper) (listed : Array Bool) : List Nat := (List.range ops.size).filter fun i => !listed.getD i true
theorem unl_lt {listed : Array Bool} : (unl ops listed).Pairwise (· < ·) := List.Pairwise.filter _ List.pairwise_lt_range
theorem mem_unl {listed : Array Bool} {i : Nat} : i ∈ unl ops listed ↔ i < ops.size ∧ listed.getD i true = false := by
  simp [unl]
theorem unl_set {listed : Array Bool} {a b : List Nat} {i : Nat} (hs : listed.size = ops.size) (h : unl ops listed = a ++ i :: b) : unl ops (listed.setIfInBounds i true) = a ++ b := by
  have hi : i < ops.size := (mem_unl.1 (h ▸ (by simp : i ∈ a ++ i :: b))).1
  have hp : (a ++ i :: b).Pairwise (· < ·) := h ▸ unl_lt
  have e : unl ops (listed.setIfInBounds i true) = (unl ops listed).filter (fun j => decide (j ≠ i)) := by
    unfold unl
    rw [List.filter_filter]
    refine List.filter_congr fun j hj => ?_
    by_cases hji : i = j
    · subst hji
      simp [Array.getElem?_setIfInBounds, hs, hi]
    · have : (listed.setIfInBounds i true).getD j true = listed.getD j true := by
        simp [Array.getD_eq_getD_getElem?, Array.getElem?_setIfInBounds, hji]
      rw [this]
      simp [Ne.symm hji]
  rw [e, h, List.filter_append, List.filter_cons]
  have hp' := List.pairwise_append.1 hp
  have h1 : a.filter (fun j => decide (j ≠ i)) = a := List.filter_eq_self.2 fun x hx => by
    have := hp'.2.2 x hx i (by simp)
    simp; omega
  have h2 : b.filter (fun j => decide (j ≠ i)) = b := List.filter_eq_self.2 fun x hx => by
    have := (List.pairwise_cons.1 hp'.2.1).1 x hx
    simp; omega
  rw [h1, h2]
  simp
def Cl (ops : Array Oper) (listed : Array Bool) : Prop := ∀ i o, listed.getD i false = true → ops[i]? = some o → ∀ e ∈ o.after, Region.binds .any e = true → listed.getD e.on false = true
theorem dep_listed {listed : Array Bool} (hcl : Cl ops listed) : ∀ (f i x : Nat), (∀ o, ops[i]? = some o → ∀ e ∈ o.after, Region.binds .any e = true → listed.getD e.on false = true) → depB ops f i x = true → listed.getD x false = true := by
  intro f
  induction f with
  | zero => intro i x _ h; simp [depB] at h
  | succ f ih =>
    intro i x hd h
    unfold depB at h
    split at h
    · simp at h
    · rename_i o ho
      simp only [Array.any_eq_true', Bool.and_eq_true, Bool.or_eq_true] at h
      obtain ⟨e, he, hb, h⟩ := h
      have hl := hd o ho e he hb
      rcases h with h | h
      · rw [← Nat.eq_of_beq_eq_true h]; exact hl
      · exact ih e.on x (fun o' ho' e' he' hb' => hcl e.on o' hl ho' e' he' hb') h
theorem any_sound (hT : TTok P tt) (hB : drawB md ops = true) {K : (Nat → AV) → Heap → Prop} {Q : Exit → Act → World → Prop} : ∀ (fuel : Nat) (listed : Array Bool) (s : St) (p : PQ) (σ : List Nat) (a : Act) (w : World),
    listed.size = ops.size → Cl ops listed → (unl ops listed).length = fuel → Rel p σ s a w → base ≤ s.H.length → awpF P tt md base ops s.n (unl ops listed) (get s.ρ) s.H K →
    (∀ (s' : St) (p' : PQ) (σ' : List Nat) (a' : Act) (w' : World), Ext p w p' w' → Mono σ σ' → Rel p' σ' s' a' w' → s'.m = s.m → s'.n = s.n → s'.df = s.df → K (get s'.ρ) s'.H → Q .normal a' w') →
    wpAnyIn (Fr ro) n P .any ops Q fuel listed a w := by
  have hchk : ∀ i o, ops[i]? = some o → (∀ e ∈ o.after, Region.binds .any e = true → e.on < i) ∧ ∀ x, x < i → (∃ e ∈ o.after, Region.binds .any e = true ∧ e.on = x) ∨ (swB md ops x i = true ∨ depB ops 5 i x = true) := fun i o ho => by
    have hi : i < ops.size := (Array.getElem?_eq_some_iff.1 ho).1
    have := List.all_eq_true.1 hB i (List.mem_range.2 hi)
    rw [ho] at this
    simp only [Bool.and_eq_true, List.all_eq_true, List.mem_range, Bool.or_eq_true, Array.any_eq_true', Array.all_eq_true_iff_forall_mem] at this
    refine ⟨fun e he hb => ?_, fun x hx => ?_⟩
    · have := this.1 e he
      rw [hb] at this
      simpa [Nat.blt_eq] using this
    · rcases this.2 x hx with ⟨e, he, h1⟩ | h1
      · exact .inl ⟨e, he, h1.1, Nat.eq_of_beq_eq_true h1.2⟩
      · exact .inr h1
  have hready : ∀ (listed : Array Bool) (i : Nat), i ∈ Region.ready .any ops listed → i ∈ unl ops listed ∧ ∃ o, ops[i]? = some o ∧ ∀ e ∈ o.after, Region.binds .any e = true → listed.getD e.on false = true := fun listed i hi => by
    obtain ⟨h1, o, ho, h2⟩ := mem_ready.1 hi
    exact ⟨mem_unl.2 ⟨(Array.getElem?_eq_some_iff.1 ho).1, h1⟩, o, ho, h2⟩
  intro fuel
  induction fuel with
  | zero =>
    intro listed s p σ a w hs hcl hl hR hb h hk
    have hnil : unl ops listed = [] := List.length_eq_zero_iff.1 hl
    rw [hnil] at h
    refine ⟨?_, hk s p σ a w (.refl p w) (.refl σ) hR rfl rfl rfl h⟩
    refine List.eq_nil_iff_forall_not_mem.2 fun i hi => ?_
    have := (hready listed i hi).1
    rw [hnil] at this
    simp at this
  | succ fuel ih =>
    intro listed s p σ a w hs hcl hl hR hb h hk
    refine ⟨fun hnil => ?_, fun i hi => ?_⟩
    · exfalso
      match hu : unl ops listed, hl with
      | x :: r, _ =>
        have hx : x ∈ unl ops listed := hu ▸ (by simp)
        obtain ⟨hx1, hx2⟩ := mem_unl.1 hx
        have ho : ops[x]? = some ops[x] := Array.getElem?_eq_getElem hx1
        have : x ∈ Region.ready .any ops listed := mem_ready.2 ⟨hx2, ops[x], ho, fun e he hb => by
          have hlt := (hchk x _ ho).1 e he hb
          cases hg : listed.getD e.on false with
          | true => rfl
          | false =>
            exfalso
            have : e.on ∈ unl ops listed := mem_unl.2 ⟨by omega, by
              have : e.on < listed.size := by omega
              simp [Array.getD_eq_getD_getElem?, this] at hg ⊢
              exact hg⟩
            rw [hu] at this
            have hp : (x :: r).Pairwise (· < ·) := hu ▸ unl_lt
            rcases List.mem_cons.1 this with h | h
            · omega
            · have := (List.pairwise_cons.1 hp).1 _ h
              omega⟩
        rw [hnil] at this
        simp at this
    · obtain ⟨hm, o, ho, hdeps⟩ := hready listed i hi
      obtain ⟨l1, l2, hsplit⟩ := List.append_of_mem hm
      have hp : (l1 ++ i :: l2).Pairwise (· < ·) := hsplit ▸ unl_lt
      rw [hsplit] at h
      have hsw : ∀ x ∈ l1, swB md ops x i = true := fun x hx => by
        have hxi : x < i := (List.pairwise_append.1 hp).2.2 x hx i (by simp)
        rcases (hchk i o ho).2 x hxi with ⟨e, he, hbd, rfl⟩ | h1 | h1
        rotate_left
        · exact h1
        · exfalso
          have h3 := dep_listed hcl 5 i x (fun o' ho' => by rw [ho] at ho'; injection ho' with ho'; subst ho'; exact hdeps) h1
          have h2 := (mem_unl.1 (hsplit ▸ (by simp [hx]) : x ∈ unl ops listed)).2
          have : x < listed.size := by
            have : i < ops.size := (Array.getElem?_eq_some_iff.1 ho).1
            omega
          simp [Array.getD_eq_getD_getElem?, this] at h3 h2
          rw [h3] at h2
          simp at h2
        · exfalso
          have h1 := hdeps e he hbd
          have h2 := (mem_unl.1 (hsplit ▸ (by simp [hx]) : e.on ∈ unl ops listed)).2
          have : e.on < listed.size := by
            have : i < ops.size := (Array.getElem?_eq_some_iff.1 ho).1
            omega
          simp [Array.getD_eq_getD_getElem?, this] at h1 h2
          rw [h1] at h2
          simp at h2
      have h2 := bubble l1 _ _ hb hsw h
      obtain ⟨o', ho', _⟩ := opAt_in h2
      have h3 := opAt_mono (K' := fun ρ' H' => base ≤ H'.length ∧ awpF P tt md base ops s.n (l1 ++ l2) ρ' H' K) h2 fun ρ' H' hl hh => ⟨Nat.le_trans hb hl, hh⟩
      refine at_sound hT hR h3 fun s' p' σ' a' w' e1 e2 e3 e4 e5 e6 ⟨e7, e8⟩ => ?_
      refine ih _ s' p' σ' a' w' (by simp [hs]) ?_ ?_ e3 e7 ?_ fun s2 p2 σ2 a2 w2 f1 f2 f3 f4 f5 f6 f7 => hk s2 p2 σ2 a2 w2 (e1.trans f1) (e2.trans f2) f3 (f4.trans e4) (f5.trans e5) (f6.trans e6) f7
      · have hmon : ∀ y, listed.getD y false = true → (listed.setIfInBounds i true).getD y false = true := fun y hy => by
          rw [Array.getD_eq_getD_getElem?, Array.getElem?_setIfInBounds]
          by_cases e : i = y
          · subst e
            have : i < listed.size := by rw [hs]; exact (Array.getElem?_eq_some_iff.1 ho).1
            simp [this]
          · rw [if_neg e, ← Array.getD_eq_getD_getElem?]; exact hy
        intro j o2 hj ho2 e he hb2
        refine hmon _ ?_
        by_cases hij : i = j
        · subst hij
          rw [ho] at ho2; injection ho2 with ho2; subst ho2
          exact hdeps e he hb2
        · rw [Array.getD_eq_getD_getElem?, Array.getElem?_setIfInBounds, if_neg hij, ← Array.getD_eq_getD_getElem?] at hj
          exact hcl j o2 hj ho2 e he hb2
      · rw [unl_set hs hsplit]
        rw [hsplit] at hl
        simp at hl ⊢
        omega
      · rw [unl_set hs hsplit, e5]
        exact e8
def stepD (P : Program) (tt : TT) (md base : Nat) (ops : Array Oper) (i : Nat) (ih : St → (St → Prop) → Prop) (s : St) (K : St → Prop) : Prop :=
  match s with
  | ⟨ρ, n, H, m, df⟩ => match ops[i]? with
      | none => False
      | some o => match o.guard with
        | none => opKd P tt md base o.op (get ρ) H fun v H' => putK ⟨ρ, n, H, m, df⟩ o.dst v H' fun s' => ih s' K
        | some (j, want) => match (ops[j]?).bind (·.dst) with
          | none => False
          | some t => match get ρ t with
            | .d (.bool b) => match want with
              | true => Br b (opKd P tt md base o.op (get ((t, .d (.bool true)) :: ρ)) H fun v H' => putK ⟨(t, .d (.bool true)) :: ρ, n, H, m, df⟩ o.dst v H' fun s' => ih s' K)
                  (putK ⟨(t, .d (.bool false)) :: ρ, n, H, m, df⟩ o.dst (.tup []) H fun s' => ih s' K)
              | false => Br b (putK ⟨(t, .d (.bool true)) :: ρ, n, H, m, df⟩ o.dst (.tup []) H fun s' => ih s' K)
                  (opKd P tt md base o.op (get ((t, .d (.bool false)) :: ρ)) H fun v H' => putK ⟨(t, .d (.bool false)) :: ρ, n, H, m, df⟩ o.dst v H' fun s' => ih s' K)
            | .tup vs => match vs with
              | [] => putK ⟨ρ, n, H, m, df⟩ o.dst (.tup []) H fun s' => ih s' K
              | _ => False
            | _ => False
def awpD (P : Program) (tt : TT) (md base : Nat) (ops : Array Oper) (l : List Nat) : St → (St → Prop) → Prop :=
  @List.rec Nat (fun _ => St → (St → Prop) → Prop) nilKI (fun i _ ih => stepD P tt md base ops i ih) l
theorem awpD_cons (P : Program) (tt : TT) (md base : Nat) (ops : Array Oper) (i : Nat) (r : List Nat) (s : St) (K : St → Prop) : awpD P tt md base ops (i :: r) s K = stepD P tt md base ops i (awpD P tt md base ops r) s K := rfl
theorem awpD_F {K : St → Prop} (l : List Nat) : ∀ (s : St), awpD P tt md base ops l s K → awpF P tt md base ops s.n l (get s.ρ) s.H fun ρ' H' => ∃ ρl, ρ' = get ρl ∧ K ⟨ρl, s.n, H', s.m, s.df⟩ := by
  induction l with
  | nil => intro s h; obtain ⟨ρ, n, H, m, df⟩ := s; exact ⟨ρ, rfl, h⟩
  | cons i r ih =>
    intro s h
    obtain ⟨ρ, n, H, m, df⟩ := s
    rw [awpD_cons] at h
    unfold stepD at h
    simp only at h
    unfold awpF opAt
    split at h
    · exact h.elim
    rename_i o ho
    simp only [ho]
    have putE : ∀ (ρ : Env) (v : AV) (H' : Heap), (putK ⟨ρ, n, H, m, df⟩ o.dst v H' fun s' => awpD P tt md base ops r s' K) →
        okDst n o.dst = true ∧ awpF P tt md base ops n r (updO (get ρ) o.dst v) H' fun ρ' H' => ∃ ρl, ρ' = get ρl ∧ K ⟨ρl, n, H', m, df⟩ := fun ρ v H' h => by
      unfold putK at h
      simp only at h
      cases hd : o.dst with
      | none => rw [hd] at h; exact ⟨rfl, ih _ h⟩
      | some d =>
        rw [hd] at h
        simp only at h
        cases hb : Nat.blt d n with
        | false => rw [hb] at h; exact h.elim
        | true => rw [hb] at h; exact ⟨hb, ih _ h⟩
    have run : ∀ ρ : Env, (opKd P tt md base o.op (get ρ) H fun v H' => putK ⟨ρ, n, H, m, df⟩ o.dst v H' fun s' => awpD P tt md base ops r s' K) →
        okDst n o.dst = true ∧ opKd P tt md base o.op (get ρ) H fun v H' => awpF P tt md base ops n r (updO (get ρ) o.dst v) H' fun ρ' H' => ∃ ρl, ρ' = get ρl ∧ K ⟨ρl, n, H', m, df⟩ := fun ρ h => by
      obtain ⟨v, H', h1, _, h2⟩ := opKd_det _ h
      obtain ⟨g1, g2⟩ := putE ρ v H' h1
      exact ⟨g1, h2 (fun v H' => awpF P tt md base ops n r (updO (get ρ) o.dst v) H' fun ρ' H' => ∃ ρl, ρ' = get ρl ∧ K ⟨ρl, n, H', m, df⟩) g2⟩
    split at h
    · rename_i hg
      have : gst ops o (get ρ) = some true := by simp [gst, hg]
      rw [this]
      exact run ρ h
    · rename_i j want hg
      split at h
      · exact h.elim
      rename_i t ht
      split at h
      · rename_i b hb
        have hgs : gst ops o (get ρ) = some (b == want) := by simp [gst, hg, ht, hb]
        have hsame : get ((t, AV.d (.bool b)) :: ρ) = get ρ := by rw [get_cons]; exact upd_same hb
        rw [hgs]
        split at h
        · cases b
          · have := putE _ _ _ h
            rw [hsame] at this
            exact this
          · have := run _ h
            rw [hsame] at this
            exact this
        · cases b
          · have := run _ h
            rw [hsame] at this
            exact this
          · have := putE _ _ _ h
            rw [hsame] at this
            exact this
      · rename_i vs hb
        split at h
        · have hgs : gst ops o (get ρ) = some false := by simp [gst, hg, ht, hb]
          rw [hgs]
          exact putE _ _ _ h
        · exact h.elim
      · exact h.elim
theorem Rel.drew (h : Rel p σ s a w) : Rel p σ s a { w with drawn := w.drawn + 1 } ∧ Ext p w p { w with drawn := w.drawn + 1 } := by
  have hsh : Shape w { w with drawn := w.drawn + 1 } := ⟨Nat.le_refl _, fun r c e fr h => ⟨c, fr, h, rfl⟩, rfl, rfl, rfl⟩
  have he : Ext p w p { w with drawn := w.drawn + 1 } := .mk1 (fun _ _ => rfl) hsh
  have hv : ∀ {x : AV} {v : Value}, VRel p σ w x v → VRel p σ { w with drawn := w.drawn + 1 } x v := fun h => h.mono he fun _ _ h => h
  refine ⟨⟨h.size, h.df, fun t => hv (h.env t), ⟨h.heap.len, h.heap.lt, fun i k hk => ?_, h.heap.inj, h.heap.gl.ext he⟩, h.m⟩, he⟩
  obtain ⟨r, h1, h2, h3, h4⟩ := h.heap.blk i k hk
  refine ⟨r, h1, h2, h3, ?_⟩
  cases k with
  | row cs =>
    obtain ⟨c, e, fr, g1, g2, g3, g4⟩ := h4
    exact ⟨c, e, fr, g1, g2, g3, fun i x v hx hv' => ⟨hv (g4 i x v hx hv').1, (g4 i x v hx hv').2⟩⟩
  | iter s pos => exact h4
  | dfr => exact h4
  | raw o => exact h4
  | bytes e bs => exact h4
  | mp ks vs => obtain ⟨es, cl, z1, z2, z3, z4, z5⟩ := h4; exact ⟨es, cl, z1, z2, z3, z4, fun i x e hx he => hv (z5 i x e hx he)⟩
  | yl Y k => exact ⟨h4.1, Y.stI k p p w _ h4.2 rfl (fun _ h => h) (fun _ _ => rfl) hsh⟩
  | yz Y => exact ⟨h4.1, Y.stZ p p w _ h4.2 rfl (fun _ h => h) (fun _ _ => rfl) hsh⟩
theorem W_draw (md : Nat) (hT : TTok P tt) (hmx : P.follows .mixedOrders = true) {id : Nat} {Q : AEx → St → Prop} (hB : drawB md ops = true) (h : awpD P tt md s.H.length ops (idxs ops.toList 0) s (Q .normal)) : W P ro (.region id ops true) Q s := by
  rw [idxs_eq] at h
  have h := awpD_F _ s h
  rw [W_eq]
  intro p σ a w hR
  obtain ⟨hR', he⟩ := hR.drew
  refine wpIn_region_any hmx ?_
  have hu : unl ops (Array.replicate ops.size false) = List.range ops.size := List.filter_eq_self.2 fun i hi => by
    simp [List.mem_range.1 hi]
  refine any_sound hT hB ops.size _ s p σ a _ (by simp) (fun i o hi => by simp [Array.getD_eq_getD_getElem?, Array.getElem?_replicate] at hi; split at hi <;> simp at hi) (by rw [hu]; simp) hR' (Nat.le_refl _) (by rw [hu]; exact h) ?_
  rintro s' p' σ' a' w' e1 e2 e3 e4 e5 e6 ⟨ρl, h1, h2⟩
  refine ⟨.normal, p', σ', ⟨ρl, s.n, s'.H, s.m, s.df⟩, rfl, he.trans e1, mono_m e2 hR.heap hR.m, ?_, rfl, rfl, h2⟩
  refine ⟨by rw [e3.size, e5], ?_, fun t => by simp only; rw [← h1]; exact e3.env t, e3.heap, by have := e3.m; rw [e4] at this; exact this⟩
  have := e3.df
  rw [e6] at this
  exact this
end
end Go.Eng
set_option linter.unusedVariables false
set_option linter.unusedSimpArgs false
namespace Go.Eng
open Go
inductive FV (g F : List Nat) (H : Heap) : AV → AV → Prop
  | any (x : AV) : FV g F H x .any
  | same (x : AV) (h : low 0 x = true) : FV g F H x x
  | ptr (b b' o : Nat) (h : g[b']? = some b) : FV g F H (.ptr b o) (.ptr b' o)
  | msl (b b' o l c z : Nat) (h : g[b']? = some b) : FV g F H (.msl b o l c z) (.msl b' o l c z)
  | mp (b b' : Nat) (h : g[b']? = some b) : FV g F H (.mp b) (.mp b')
  | nsl : FV g F H .nsl (.d (.sl []))
  | nesl : FV g F H .nsl .esl
  | esl : FV g F H .esl (.d (.sl []))
  | frz (b off len cl sz : Nat) (cs : List AV) (rows : List (List D)) (hb : b ∈ F) (hr : rowOf H b = some cs) (hl : rows.length = len) (hs : ∀ row ∈ rows, row.length = sz) (hle : off + len * sz ≤ cs.length)
      (hv : ∀ (i : Nat) (x : AV) (y : D), i < len * sz → cs[off + i]? = some x → rows.flatten[i]? = some y → FV g F H x (.d y)) : FV g F H (.msl b off len cl sz) (.d (.sl rows))
  | fptr (b off : Nat) (cs : List AV) (row : List D) (hb : b ∈ F) (hr : rowOf H b = some cs) (hl : row.length ≤ cs.length)
      (hv : ∀ (i : Nat) (x : AV) (y : D), cs[i]? = some x → row[i]? = some y → FV g F H x (.d y)) : FV g F H (.ptr b off) (.fptr row off)
  | agg (xs ys : List AV) (hl : xs.length = ys.length) (hv : ∀ (i : Nat) (x y : AV), xs[i]? = some x → ys[i]? = some y → FV g F H x y) : FV g F H (.agg xs) (.agg ys)
  | tup (xs ys : List AV) (hl : xs.length = ys.length) (hv : ∀ (i : Nat) (x y : AV), xs[i]? = some x → ys[i]? = some y → FV g F H x y) : FV g F H (.tup xs) (.tup ys)
  | clos (fn : Go.Fn) (xs ys xs' ys' : List AV) (hl : xs.length = xs'.length) (hl' : ys.length = ys'.length) (hv : ∀ (i : Nat) (x y : AV), xs[i]? = some x → xs'[i]? = some y → FV g F H x y)
      (hv' : ∀ (i : Nat) (x y : AV), ys[i]? = some x → ys'[i]? = some y → FV g F H x y) : FV g F H (.clos fn xs ys) (.clos fn xs' ys')
theorem flatten_at {α : Type} {sz : Nat} : ∀ (rows : List (List α)), (∀ row ∈ rows, row.length = sz) → ∀ (i j : Nat), j < sz → rows.flatten[i * sz + j]? = (rows[i]?).bind (·[j]?) := by
  intro rows
  induction rows with
  | nil => intro _ i j _; simp
  | cons r t ih =>
    intro h i j hj
    have hr : r.length = sz := h r (by simp)
    rw [List.flatten_cons]
    cases i with
    | zero => rw [List.getElem?_append_left (by omega)]; simp
    | succ i =>
      rw [List.getElem?_append_right (by rw [hr, Nat.succ_mul]; omega), hr, show (i + 1) * sz + j - sz = i * sz + j by rw [Nat.succ_mul]; omega, ih (fun row hrow => h row (by simp [hrow])) i j hj]
      simp
theorem flatten_len {α : Type} {sz : Nat} : ∀ (rows : List (List α)), (∀ row ∈ rows, row.length = sz) → rows.flatten.length = rows.length * sz := by
  intro rows
  induction rows with
  | nil => intro _; simp
  | cons r t ih =>
    intro h
    simp [h r (by simp), ih (fun row hrow => h row (by simp [hrow])), Nat.succ_mul]
    omega
section
variable {p : PQ} {σ : List Nat} {w : World} {H : Heap} {g F : List Nat}
def Frozen (σ : List Nat) (H : Heap) (F : List Nat) (r : Nat) : Prop := ∃ (b : Nat) (cs : List AV), b ∈ F ∧ H[b]? = some (some (.row cs)) ∧ σ[b]? = some r
def pfz (p : PQ) (σ : List Nat) (H : Heap) (F : List Nat) : PQ := ⟨fun r => p.r r ∨ (Frozen σ H F r ∧ ¬ p.u r), fun r => p.u r ∨ (Frozen σ H F r ∧ ¬ p.u r), p.f, fun b h => h.imp (p.sub b) id, fun b h => .inl (p.fu b h), fun b h hr => hr.elim (p.fr b h) fun hr => hr.2 (p.fu b h)⟩
theorem ext_fz (hH : HRel p σ H w) : Ext p w (pfz p σ H F) w := ⟨fun _ h => .inl h, fun _ h => .inl h, fun b h => h.imp id (fun h => h.2), fun _ h => h, fun _ h => .inl h, fun _ _ _ => rfl, .refl w⟩
theorem VRel.fz (hH : HRel p σ H w) {σ' : List Nat} (hg : ∀ (i j : Nat), g[i]? = some j → σ'[i]? = σ[j]?) {x x' : AV} (h : FV g F H x x') : ∀ v, VRel p σ w x v → VRel (pfz p σ H F) σ' w x' v := by
  have row : ∀ {b : Nat} {cs : List AV} {r : Nat}, b ∈ F → rowOf H b = some cs → σ[b]? = some r → (pfz p σ H F).r r ∧ ∃ (c : Array Value), cs.length ≤ c.size ∧ (∀ i, i < c.size → w.cell? ⟨r, i, none⟩ = c[i]?) ∧
      ∀ (i : Nat) (x : AV) (v : Value), cs[i]? = some x → c[i]? = some v → VRel p σ w x v := fun {b cs r} hb hr hσ => by
    have h1 := rowOf_some hr
    obtain ⟨r', g1, g2, g3, c, e, fr, g4, g5, g6, g7⟩ := hH.blk b _ h1
    rw [hσ] at g1
    injection g1 with g1
    subst g1
    exact ⟨.inr ⟨⟨b, cs, hb, h1, hσ⟩, g2⟩, c, g5, fun i hi => by simp [World.cell?, g4], fun i x v hx hv => (g7 i x v hx hv).1⟩
  induction h with
  | any x => intro v _; exact .any v
  | same x h => intro v hv; exact (hv.anyσ h σ').mono' (p' := pfz p σ H F) (fun b (h : p.r b) => Or.inl h) (fun _ _ => rfl) (.refl w) (fun _ _ h => h)
  | ptr b b' o h =>
    intro v hv
    cases hv with
    | ptr _ _ r hr => exact .ptr _ _ r (by rw [hg _ _ h]; exact hr)
  | msl b b' o l c z h =>
    intro v hv
    cases hv with
    | msl _ _ _ _ _ r cap hr hB hc hcl hblk => exact .msl _ _ _ _ _ r cap (by rw [hg _ _ h]; exact hr) hB hc hcl hblk
  | mp b b' h =>
    intro v hv
    cases hv with
    | mp _ r hr => exact .mp _ r (by rw [hg _ _ h]; exact hr)
  | nsl =>
    intro v hv
    cases hv with
    | nsl => exact .sl [] none 0 0 0 (fun _ _ => default) rfl (Nat.zero_le _) (Nat.le_refl _) (fun i row h => by simp at h) (fun h => absurd rfl h) (fun i row j x h => by simp at h)
  | nesl =>
    intro v hv
    cases hv with
    | nsl => exact .esl none
  | esl =>
    intro v hv
    cases hv with
    | esl a => exact .sl [] a 0 0 0 (fun _ _ => default) rfl (Nat.zero_le _) (Nat.le_refl _) (fun i row h => by simp at h) (fun h => absurd rfl h) (fun i row j x h => by simp at h)
  | frz b off len cl sz cs rows hb hr hl hs hle hv' ih =>
    intro v hv
    cases hv with
    | msl _ _ _ _ _ r cap hσ hB hc hcl hblk =>
      obtain ⟨h1, c, h2, h3, h4⟩ := row hb hr hσ
      have idx : ∀ i j, i < len → j < sz → i * sz + j < len * sz := fun i j hi hj => by
        have : (i + 1) * sz ≤ len * sz := Nat.mul_le_mul_right sz hi
        rw [Nat.succ_mul] at this
        omega
      refine .sl rows _ len cap sz (fun i j => (c[off + i * sz + j]?).getD undef) hl hB hc (fun i row hrow => hs row (List.mem_of_getElem? hrow)) (fun _ => ⟨r, off, rfl, h1, fun i j hi hj => ?_⟩) (fun i row j x hrow hx => ?_)
      · have := idx i j hi hj
        rw [h3 _ (by omega)]
        have hlt : off + i * sz + j < c.size := by omega
        simp [hlt]
      · have hi : i < len := by rw [← hl]; exact (List.getElem?_eq_some_iff.1 hrow).1
        have hj : j < sz := by rw [← hs row (List.mem_of_getElem? hrow)]; exact (List.getElem?_eq_some_iff.1 hx).1
        have hlt := idx i j hi hj
        have hcs : off + (i * sz + j) < cs.length := by omega
        have e1 : cs[off + (i * sz + j)]? = some cs[off + (i * sz + j)] := List.getElem?_eq_getElem hcs
        have e2 : rows.flatten[i * sz + j]? = some x := by rw [flatten_at rows hs i j hj, hrow]; exact hx
        have hcv : c[off + (i * sz + j)]? = some c[off + (i * sz + j)] := Array.getElem?_eq_getElem (by omega)
        have := ih (i * sz + j) _ x hlt e1 e2 _ (h4 _ _ _ e1 hcv)
        have e3 : off + i * sz + j = off + (i * sz + j) := by omega
        simp only [e3, hcv, Option.getD_some]
        exact this.anyσ rfl σ'
  | fptr b off cs row0 hb hr hl hv' ih =>
    intro v hv
    cases hv with
    | ptr _ _ r hσ =>
      obtain ⟨h1, c, h2, h3, h4⟩ := row hb hr hσ
      have : VRel (pfz p σ H F) σ' w (.fptr row0 off) (.pointer (some ⟨r, 0 + off, none⟩)) := by
        refine .fptr row0 off r 0 (fun j => (c[j]?).getD undef) h1 (fun j hj => ?_) (fun j x hx => ?_)
        · rw [Nat.zero_add, h3 _ (by omega)]
          have hlt : j < c.size := by omega
          simp [hlt]
        · have hj : j < row0.length := (List.getElem?_eq_some_iff.1 hx).1
          have e1 : cs[j]? = some cs[j] := List.getElem?_eq_getElem (by omega)
          have hcv : c[j]? = some c[j] := Array.getElem?_eq_getElem (by omega)
          have := ih j _ x e1 hx _ (h4 _ _ _ e1 hcv)
          simp only [hcv, Option.getD_some]
          exact this.anyσ rfl σ'
      simpa using this
  | agg xs ys hl hv' ih =>
    intro v hv
    cases hv with
    | agg _ vs h hone hx =>
      refine .agg ys vs (by rw [h, hl]) hone fun i y v hy hv => ?_
      have hi : i < xs.length := by rw [hl]; exact (List.getElem?_eq_some_iff.1 hy).1
      have e1 : xs[i]? = some xs[i] := List.getElem?_eq_getElem hi
      exact ih i _ y e1 hy v (hx i _ v e1 hv)
  | tup xs ys hl hv' ih =>
    intro v hv
    cases hv with
    | tup _ vs h hx =>
      refine .tup ys vs (by rw [h, hl]) fun i y v hy hv => ?_
      have hi : i < xs.length := by rw [hl]; exact (List.getElem?_eq_some_iff.1 hy).1
      have e1 : xs[i]? = some xs[i] := List.getElem?_eq_getElem hi
      exact ih i _ y e1 hy v (hx i _ v e1 hv)
  | clos fn xs ys xs' ys' hl hl' hv1 hv2 ih1 ih2 =>
    intro v hv
    cases hv with
    | clos _ _ _ fs cs h1 h2 hf hc =>
      refine .clos fn xs' ys' fs cs (by rw [h1, hl]) (by rw [h2, hl']) (fun i y v hy hv => ?_) (fun i y v hy hv => ?_)
      · have hi : i < xs.length := by rw [hl]; exact (List.getElem?_eq_some_iff.1 hy).1
        have e1 : xs[i]? = some xs[i] := List.getElem?_eq_getElem hi
        exact ih1 i _ y e1 hy v (hf i _ v e1 hv)
      · have hi : i < ys.length := by rw [hl']; exact (List.getElem?_eq_some_iff.1 hy).1
        have e1 : ys[i]? = some ys[i] := List.getElem?_eq_getElem hi
        exact ih2 i _ y e1 hy v (hc i _ v e1 hv)
inductive FB (g F : List Nat) (H : Heap) : Blk → Blk → Prop
  | row (xs ys : List AV) (hl : ys.length ≤ xs.length) (hv : ∀ (i : Nat) (x y : AV), xs[i]? = some x → ys[i]? = some y → FV g F H x y) : FB g F H (.row xs) (.row ys)
  | iter (s : ByteArray) (pos : Nat) : FB g F H (.iter s pos) (.iter s pos)
  | dfr : FB g F H .dfr .dfr
  | raw (o : Obj) : FB g F H (.raw o) (.raw o)
  | bytes (e : Nat) (bs : List UInt8) : FB g F H (.bytes e bs) (.bytes e bs)
  | mp (ks : List Int) (xs ys : List AV) (hl : ys.length = xs.length) (hv : ∀ (i : Nat) (x y : AV), xs[i]? = some x → ys[i]? = some y → FV g F H x y) : FB g F H (.mp ks xs) (.mp ks ys)
  | yl (Y : Ysp) (k : Nat) : FB g F H (.yl Y k) (.yl Y k)
  | yz (Y : Ysp) : FB g F H (.yz Y) (.yz Y)
def HFz (g F : List Nat) (H : Heap) : Heap → List Nat → Prop
  | [], [] => True
  | none :: H', j :: g' => HFz g F H H' g'
  | some b :: H', j :: g' => (∃ b0, H[j]? = some (some b0) ∧ FB g F H b0 b) ∧ HFz g F H H' g'
  | _, _ => False
theorem HFz_get : ∀ (H' : Heap) (g' : List Nat), HFz g F H H' g' → H'.length = g'.length ∧
    ∀ (i : Nat) (b : Blk), H'[i]? = some (some b) → ∃ j b0, g'[i]? = some j ∧ H[j]? = some (some b0) ∧ FB g F H b0 b := by
  intro H'
  induction H' with
  | nil => intro g' h; cases g' with
    | nil => exact ⟨rfl, fun i b hb => by simp at hb⟩
    | cons => simp [HFz] at h
  | cons x t ih =>
    intro g' h
    cases g' with
    | nil => cases x <;> simp [HFz] at h
    | cons j g' =>
      cases x with
      | none =>
        simp only [HFz] at h
        obtain ⟨h1, h2⟩ := ih g' h
        refine ⟨by simp [h1], fun i b hb => ?_⟩
        cases i with
        | zero => simp at hb
        | succ i => simp only [List.getElem?_cons_succ] at hb ⊢; exact h2 i b hb
      | some y =>
        simp only [HFz] at h
        obtain ⟨⟨b0, h3, h4⟩, h5⟩ := h
        obtain ⟨h1, h2⟩ := ih g' h5
        refine ⟨by simp [h1], fun i b hb => ?_⟩
        cases i with
        | zero => simp at hb; subst hb; exact ⟨j, b0, rfl, h3, h4⟩
        | succ i => simp only [List.getElem?_cons_succ] at hb ⊢; exact h2 i b hb
def EFz (g F : List Nat) (H : Heap) (ρ : Env) : Env → Prop
  | [] => True
  | (t, v) :: r => FV g F H (get ρ t) v ∧ EFz g F H ρ r
theorem EFz_get {ρ : Env} : ∀ (ρ' : Env), EFz g F H ρ ρ' → ∀ t, FV g F H (get ρ t) (get ρ' t) := by
  intro ρ'
  induction ρ' with
  | nil => intro _ t; exact .any _
  | cons x r ih =>
    intro h t
    obtain ⟨d, v⟩ := x
    obtain ⟨h1, h2⟩ := h
    simp only [get]
    cases hb : Nat.beq d t with
    | true =>
      have := Nat.eq_of_beq_eq_true hb
      subst this
      exact h1
    | false => exact ih h2 t
def apartL (g F : List Nat) : Bool := F.all fun b => g.all fun c => !Nat.beq b c
theorem HRel.fz (hH : HRel p σ H w) {H' : Heap} (hlt : ∀ x ∈ g, x < H.length) (hnd : noDup g = true) (hap : apartL g F = true) (hle : HFz g F H H' g) : HRel (pfz p σ H F) (renS g σ) H' w := by
  obtain ⟨hlen, hget⟩ := HFz_get H' g hle
  have hs := renS_get (σ := σ) (g := g) rfl (by rw [hH.len]; exact hlt)
  have hg : ∀ (i j : Nat), g[i]? = some j → (renS g σ)[i]? = σ[j]? := fun i j h => by
    have hi := (List.getElem?_eq_some_iff.1 h).1
    rw [hs i hi]
    simp [gOf, List.getD_eq_getElem?_getD, h]
  have nfz : ∀ (i j r : Nat) (k : Blk), g[i]? = some j → H[j]? = some (some k) → σ[j]? = some r → ¬ Frozen σ H F r := fun i j r k h1 h2 h3 ⟨b, cs, hb, hcs, hr⟩ => by
    have := hH.inj b j r _ k hcs h2 hr h3
    subst this
    have := List.all_eq_true.1 (List.all_eq_true.1 hap b hb) b (List.mem_iff_getElem?.2 ⟨i, h1⟩)
    simp at this
  refine ⟨by simp [renS, hlen], fun b hb => hb.elim (hH.lt b) fun ⟨⟨i, cs, _, h2, h3⟩, _⟩ => ?_, fun i b hb => ?_, fun i j r a b ha hb hi hj => ?_, hH.gl.part fun _ h => .inl h⟩
  · obtain ⟨r, g1, g2, g3, _⟩ := hH.blk i _ h2
    rw [h3] at g1
    injection g1 with g1
    subst g1
    exact g3
  · obtain ⟨j, b0, h1, h2, h3⟩ := hget i b hb
    obtain ⟨r, g1, g2, g3, g4⟩ := hH.blk j _ h2
    refine ⟨r, by rw [hg i j h1]; exact g1, fun hu => hu.elim g2 (fun h => nfz i j r _ h1 h2 g1 h.1), g3, ?_⟩
    cases h3 with
    | row xs ys hl hv =>
      obtain ⟨c, e, fr, q1, q2, q3, q4⟩ := g4
      refine ⟨c, e, fr, q1, by omega, q3, fun k y v hy hcv => ?_⟩
      have hk : k < xs.length := by have := (List.getElem?_eq_some_iff.1 hy).1; omega
      have e1 : xs[k]? = some xs[k] := List.getElem?_eq_getElem hk
      obtain ⟨z1, z2⟩ := q4 k _ v e1 hcv
      exact ⟨VRel.fz hH hg (hv k _ y e1 hy) v z1, z2⟩
    | iter s pos => exact g4
    | dfr => exact g4
    | raw o => exact g4
    | bytes e bs => exact g4
    | mp ks xs ys hl hv =>
      obtain ⟨es, cl, z1, z2, z3, z4, z5⟩ := g4
      refine ⟨es, cl, z1, z2, by omega, z4, fun k y e hy hc => ?_⟩
      have hk : k < xs.length := by have := (List.getElem?_eq_some_iff.1 hy).1; omega
      have e1 : xs[k]? = some xs[k] := List.getElem?_eq_getElem hk
      exact VRel.fz hH hg (hv k _ y e1 hy) e.val (z5 k _ e e1 hc)
    | yl Y k => exact ⟨g4.1, Y.stI k p _ w w g4.2 rfl (fun _ h => .inl h) (fun _ _ => rfl) (.refl w)⟩
    | yz Y => exact ⟨g4.1, Y.stZ p _ w w g4.2 rfl (fun _ h => .inl h) (fun _ _ => rfl) (.refl w)⟩
  · obtain ⟨i1, a0, a1, a2, _⟩ := hget i a ha
    obtain ⟨j1, b0, b1, b2, _⟩ := hget j b hb
    rw [hg i i1 a1] at hi
    rw [hg j j1 b1] at hj
    have := hH.inj i1 j1 r _ _ a2 b2 hi hj
    subst this
    exact noDup_inj g hnd i j i1 a1 b1
end
theorem Wk_fz (g F : List Nat) {ρ ρ' : Env} {n m : Nat} {H H' : Heap} (hlt : (g.all fun x => Nat.blt x H.length) = true) (hnd : noDup g = true) (hap : apartL g F = true) (hle : HFz g F H H' g) (hρ : EFz g F H ρ ρ') (hm : m ≤ g.length)
    (hid : ∀ i, i < m → gOf g i = i) : Wk ⟨ρ, n, H, m, []⟩ ⟨ρ', n, H', m, []⟩ := by
  rw [Wk_eq]
  refine ⟨rfl, rfl, fun p σ a w hR => ?_⟩
  have hlt' : ∀ x ∈ g, x < H.length := fun x hx => by simpa [Nat.blt_eq] using List.all_eq_true.1 hlt x hx
  have hlen := hR.heap.len
  simp only at hlen
  have hs := renS_get (σ := σ) (g := g) rfl (by rw [hlen]; exact hlt')
  have hg : ∀ (i j : Nat), g[i]? = some j → (renS g σ)[i]? = σ[j]? := fun i j h => by
    have hi := (List.getElem?_eq_some_iff.1 h).1
    rw [hs i hi]
    simp [gOf, List.getD_eq_getElem?_getD, h]
  obtain ⟨hl, _⟩ := HFz_get H' g hle
  refine ⟨pfz p σ H F, renS g σ, ext_fz hR.heap, fun i hi => by rw [hs i (Nat.lt_of_lt_of_le hi hm), hid i hi], hR.size, ?_, fun t => ?_, hR.heap.fz hlt' hnd hap hle, by simp only; omega⟩
  · have := hR.df
    cases hd : a.defers with
    | nil => trivial
    | cons x t => rw [hd] at this; simp [DRel] at this
  · exact VRel.fz hR.heap hg (EFz_get ρ' hρ t) _ (hR.env t)
theorem Fin_fz (g F : List Nat) {m : Nat} {v v' : AV} {H H' : Heap} (hlt : (g.all fun x => Nat.blt x H.length) = true) (hnd : noDup g = true) (hap : apartL g F = true) (hle : HFz g F H H' g) (hv : FV g F H v v') (hm : m ≤ g.length)
    (hid : ∀ i, i < m → gOf g i = i) : Fin m v H v' H' := by
  rw [Fin_eq]
  intro p σ w x hmH hH hx
  have hlt' : ∀ x ∈ g, x < H.length := fun x hx => by simpa [Nat.blt_eq] using List.all_eq_true.1 hlt x hx
  have hs := renS_get (σ := σ) (g := g) rfl (by rw [hH.len]; exact hlt')
  have hg : ∀ (i j : Nat), g[i]? = some j → (renS g σ)[i]? = σ[j]? := fun i j h => by
    have hi := (List.getElem?_eq_some_iff.1 h).1
    rw [hs i hi]
    simp [gOf, List.getD_eq_getElem?_getD, h]
  exact ⟨pfz p σ H F, renS g σ, ext_fz hH, fun i hi => by rw [hs i (Nat.lt_of_lt_of_le hi hm), hid i hi], hH.fz hlt' hnd hap hle, VRel.fz hH hg hv x hx⟩
end Go.Eng
set_option linter.unusedVariables false
set_option linter.unusedSimpArgs false
namespace Go.Eng
open Go
def pos (g : List Nat) (j : Nat) : Option Nat := go g 0 j
where go : List Nat → Nat → Nat → Option Nat
  | [], _, _ => none
  | x :: t, i, j => match Nat.beq x j with
    | true => some i
    | false => go t (i + 1) j
theorem pos_go {j : Nat} (g : List Nat) : ∀ i, (∀ k, pos.go g i j = some k → ∃ q, k = i + q ∧ g[q]? = some j) ∧ (pos.go g i j = none → j ∉ g) := by
  induction g with
  | nil => intro i; exact ⟨fun k h => by simp [pos.go] at h, fun _ => by simp⟩
  | cons x t ih =>
    intro i
    unfold pos.go
    cases hb : Nat.beq x j with
    | true =>
      have := Nat.eq_of_beq_eq_true hb
      subst this
      exact ⟨fun k h => ⟨0, by simp at h; omega, rfl⟩, fun h => by simp at h⟩
    | false =>
      obtain ⟨h1, h2⟩ := ih (i + 1)
      refine ⟨fun k h => ?_, fun h => ?_⟩
      · obtain ⟨q, e1, e2⟩ := h1 k h
        exact ⟨q + 1, by omega, by simpa using e2⟩
      · have := h2 h
        have hne : x ≠ j := fun e => by subst e; simp at hb
        simp [Ne.symm hne, this]
theorem pos_some {g : List Nat} {j i : Nat} (h : pos g j = some i) : g[i]? = some j := by
  obtain ⟨q, h1, h2⟩ := (pos_go g 0).1 i h
  have : i = q := by omega
  subst this
  exact h2
theorem pos_none {g : List Nat} {j : Nat} (h : pos g j = none) : j ∉ g := (pos_go g 0).2 h
def hmap (g : List Nat) (n : Nat) (i : Nat) : Nat :=
  match Nat.blt i g.length with
  | true => gOf g i
  | false => i - g.length + n
def patch1 (f : Nat → Nat) (g : List Nat) (H1 : Heap) : Heap → Nat → Heap
  | [], _ => []
  | b :: t, j => (match pos g j with
    | some i => match H1[i]? with
      | some (some k) => some (renB f k)
      | _ => none
    | none => b) :: patch1 f g H1 t (j + 1)
def renH (f : Nat → Nat) : Heap → Heap
  | [] => []
  | none :: t => none :: renH f t
  | some b :: t => some (renB f b) :: renH f t
def patch (g : List Nat) (H H1 : Heap) : Heap := patch1 (hmap g H.length) g H1 H 0 ++ renH (hmap g H.length) (H1.drop g.length)
theorem patch1_get (f : Nat → Nat) (g : List Nat) (H1 : Heap) (H : Heap) : ∀ (j0 : Nat), (patch1 f g H1 H j0).length = H.length ∧ ∀ i : Nat, (patch1 f g H1 H j0)[i]? = (H[i]?).map fun b => match pos g (j0 + i) with
    | some q => match H1[q]? with
      | some (some k) => some (renB f k)
      | _ => none
    | none => b := by
  induction H with
  | nil => intro j0; exact ⟨rfl, fun i => by simp [patch1]⟩
  | cons b t ih =>
    intro j0
    obtain ⟨h1, h2⟩ := ih (j0 + 1)
    refine ⟨by simp [patch1, h1], fun i => ?_⟩
    cases i with
    | zero => rfl
    | succ i =>
      simp only [patch1, List.getElem?_cons_succ, h2]
      rw [show j0 + 1 + i = j0 + (i + 1) by omega]
theorem renH_get (f : Nat → Nat) (H : Heap) : (renH f H).length = H.length ∧ ∀ i : Nat, (renH f H)[i]? = (H[i]?).map (Option.map (renB f)) := by
  induction H with
  | nil => exact ⟨rfl, fun i => by simp [renH]⟩
  | cons b t ih =>
    obtain ⟨h1, h2⟩ := ih
    cases b with
    | none => exact ⟨by simp [renH, h1], fun i => by cases i <;> simp [renH, h2]⟩
    | some b => exact ⟨by simp [renH, h1], fun i => by cases i <;> simp [renH, h2]⟩
def passY (pY : Bool) (g : List Nat) (H H0 : Heap) (Q : AV → Heap → Prop) : Prop :=
  match pY with
  | true => noYx g H 0 = true
  | false => noY H0 = true ∧ ∀ v1 H1, Q v1 H1 → noY H1 = true
theorem Tri.sub (pY : Bool) {P : Program} {f : FuncId} {args0 : List AV} {H0 : Heap} {Q : AV → Heap → Prop} (h : Tri P f args0 H0 Q) (g : List Nat) {args : List AV} {H : Heap} (hlt : (g.all fun x => Nat.blt x H.length) = true) (hnd : noDup g = true)
    (hle : HLe g g.length H H0 g) (hargs : args = renL (gOf g) args0) (hl : lowL g.length args0 = true) (hY : passY pY g H H0 Q) :
    Tri P f args H fun v H' => ∃ v1 H1, Q v1 H1 ∧ v = Eng.ren (hmap g H.length) v1 ∧ H' = patch g H H1 := by
  subst hargs
  simp only [Tri_eq] at *
  refine ⟨h.1, fun p σ w vs hH hs hv => ?_⟩
  have hlt' : ∀ x ∈ g, x < H.length := fun x hx => by simpa [Nat.blt_eq] using List.all_eq_true.1 hlt x hx
  let live : Nat → Prop := fun b => ∃ (i : Nat) (k : Blk), i ∉ g ∧ H[i]? = some (some k) ∧ σ[i]? = some b
  let p0 : PQ := ⟨p.r, fun b => p.u b ∨ live b, fun b => pY = true ∧ p.f b, fun b hb => .inl (p.sub b hb), fun b h => .inl (p.fu b h.2), fun b h => p.fr b h.2⟩
  have hlive : ∀ b, live b → ¬ p.u b ∧ b < w.heap.size := fun b ⟨i, k, _, hi, hb⟩ => by
    obtain ⟨r, g1, g2, g3, _⟩ := hH.blk i k hi
    rw [hb] at g1
    injection g1 with g1
    subst g1
    exact ⟨g2, g3⟩
  have hlen0 : H0.length = g.length := (HLe_get H0 g hle).1
  have hget0 := (HLe_get H0 g hle).2
  have hr0 := hH.ren hlt' hnd hle
  have hsg := renS_get (σ := σ) (g := g) rfl (by rw [hH.len]; exact hlt')
  have hgi : ∀ (i j : Nat), g[i]? = some j → (renS g σ)[i]? = σ[j]? := fun i j h => by
    have hi := (List.getElem?_eq_some_iff.1 h).1
    rw [hsg i hi]
    simp [gOf, List.getD_eq_getElem?_getD, h]
  have hH0 : HRel p0 (renS g σ) H0 w := by
    refine ⟨hr0.len, fun b hb => hb.elim (hH.lt b) fun hb => (hlive b hb).2, fun i k hk => ?_, hr0.inj, hH.gl.part fun _ h => h⟩
    obtain ⟨r, g1, g2, g3, g4⟩ := hr0.blk i k hk
    refine ⟨r, g1, fun hu => hu.elim g2 fun ⟨i2, k2, hn, h2, h3⟩ => ?_, g3, ?_⟩
    rotate_left
    · cases k with
      | row cs =>
        obtain ⟨c, e, fr, q1, q2, q3, q4⟩ := g4
        exact ⟨c, e, fr, q1, q2, q3, fun i x v hx hv => ⟨(q4 i x v hx hv).1.mono' (p := p) (p' := p0) (fun b hb => hb) (fun _ _ => rfl) (.refl w) (fun _ _ h => h), (q4 i x v hx hv).2⟩⟩
      | iter s pos => exact g4
      | dfr => exact g4
      | raw o => exact g4
      | bytes e bs => exact g4
      | mp ks vs =>
        obtain ⟨es, cl, z1, z2, z3, z4, z5⟩ := g4
        exact ⟨es, cl, z1, z2, z3, z4, fun i x e hx he => (z5 i x e hx he).mono' (p := p) (p' := p0) (fun b hb => hb) (fun _ _ => rfl) (.refl w) (fun _ _ h => h)⟩
      | yl Y k =>
        cases pY with
        | false => have := noY_get hY.1 hk; simp [isY] at this
        | true => exact ⟨g4.1, Y.stI k p p0 w w g4.2 (by funext b; simp [p0]) (fun _ h => h) (fun _ _ => rfl) (.refl w)⟩
      | yz Y =>
        cases pY with
        | false => have := noY_get hY.1 hk; simp [isY] at this
        | true => exact ⟨g4.1, Y.stZ p p0 w w g4.2 (by funext b; simp [p0]) (fun _ h => h) (fun _ _ => rfl) (.refl w)⟩
    obtain ⟨j, e1, e2, _⟩ := hget0 i k hk
    rw [hgi i j e1] at g1
    have := hH.inj i2 j r _ _ h2 e2 h3 g1
    subst this
    exact hn (List.mem_iff_getElem?.2 ⟨i, e1⟩)
  refine (h.2 p0 (renS g σ) w vs hH0 (by rw [hs, renL_length]) fun i x v hx hv' => ?_).mono ?_
  · have h1 := hv i (Eng.ren (gOf g) x) v (by rw [renL_get, hx]; rfl) hv'
    exact (h1.ren hsg x rfl (lowL_get hl hx)).mono' (p := p) (p' := p0) (fun b hb => hb) (fun _ _ => rfl) (.refl w) (fun _ _ h => h)
  rintro e w' ⟨v, x, p', σ1, H1, rfl, hex, hm1, hH1, hvx, hq⟩
  have hnl : ∀ b, p'.r b → ¬ live b := fun b hb hlb => by
    rcases hex.back b hb with h1 | h1
    · exact (hlive b hlb).1 (p.sub b h1)
    · exact h1 (.inr hlb)
  have hpu : ∀ b, p.u b → p'.u b ∧ ¬ live b := fun b hb => ⟨hex.subu b (.inl hb), fun hl => (hlive b hl).1 hb⟩
  have hfl : ∀ b, p'.f b → ¬ live b := fun b hb hlb => (hex.backf b hb).elim (fun h => (hlive b hlb).1 (p.fu b h.2)) fun h => h (.inr hlb)
  let p2 : PQ := ⟨p'.r, fun b => p'.u b ∧ ¬ live b, fun b => (pY = true ∧ p'.f b) ∨ (pY = false ∧ p.f b), fun b hb => ⟨p'.sub b hb, hnl b hb⟩, fun b hb => hb.elim (fun h => ⟨p'.fu b h.2, hfl b h.2⟩) fun h => hpu b (p.fu b h.2),
    fun b hb hr => hb.elim (fun h => p'.fr b h.2 hr) fun h => (hex.back b hr).elim (p.fr b h.2) fun hn => hn (.inl (p.fu b h.2))⟩
  have hex2 : Ext p w p2 w' := ⟨fun b hb => hex.subr b hb, hpu,
    fun b hb => (hex.back b hb).elim .inl fun hn => .inr fun hu => hn (.inl hu),
    fun b hb => by cases pY with
      | true => exact .inl ⟨rfl, hex.subf b ⟨rfl, hb⟩⟩
      | false => exact .inr ⟨rfl, hb⟩,
    fun b hb => hb.elim (fun h => (hex.backf b h.2).elim (fun h => .inl h.2) fun hn => .inr fun hu => hn (.inl hu)) fun h => .inl h.2,
    fun b hb hf => hex.same b (.inl hb) (fun h => hf h.2), hex.shape⟩
  have hlf : ∀ r, live r → ¬ p0.f r := fun r hl h => (hlive r hl).1 (p.fu r h.2)
  have hlen1 := hH1.len
  have hgl : g.length ≤ σ1.length := by
    rcases Nat.lt_or_ge σ1.length g.length with hlt1 | h1
    · exfalso
      have hj : g[σ1.length]? = some (g[σ1.length]'hlt1) := List.getElem?_eq_getElem hlt1
      have hσ := hgi _ _ hj
      have : g[σ1.length]'hlt1 < σ.length := by rw [hH.len]; exact hlt' _ (List.getElem_mem _)
      rw [List.getElem?_eq_getElem this] at hσ
      have := (List.getElem?_eq_some_iff.1 (hm1 _ _ hσ)).1
      omega
    · exact h1
  let σ2 := σ ++ σ1.drop g.length
  have hleft : ∀ (i r : Nat), σ[i]? = some r → σ2[i]? = some r := fun i r hi => by
    rw [List.getElem?_append_left (List.getElem?_eq_some_iff.1 hi).1]
    exact hi
  have hmono1 : ∀ (i r : Nat), σ1[i]? = some r → σ2[hmap g H.length i]? = some r := fun i r hi => by
    unfold hmap
    cases hb : Nat.blt i g.length with
    | true =>
      have hi' : i < g.length := by simpa [Nat.blt_eq] using hb
      have hj : g[i]? = some (g[i]'hi') := List.getElem?_eq_getElem hi'
      have hgo : gOf g i = g[i]'hi' := by simp [gOf, List.getD_eq_getElem?_getD, hj]
      have hlt2 : g[i]'hi' < σ.length := by rw [hH.len]; exact hlt' _ (List.getElem_mem _)
      have hσ : σ[g[i]'hi']? = some (σ[g[i]'hi']'hlt2) := List.getElem?_eq_getElem hlt2
      have := hm1 i _ ((hgi i _ hj).trans hσ)
      rw [hi] at this
      simp only [hgo]
      rw [hleft _ _ hσ, this]
    | false =>
      have hi' : g.length ≤ i := by
        rcases Nat.lt_or_ge i g.length with h | h
        · have : Nat.blt i g.length = true := by simpa [Nat.blt_eq] using h
          rw [this] at hb; simp at hb
        · exact h
      show (σ ++ σ1.drop g.length)[i - g.length + H.length]? = some r
      rw [← hH.len, List.getElem?_append_right (by omega), List.getElem?_drop]
      rw [show g.length + (i - g.length + σ.length - σ.length) = i by omega]
      exact hi
  have hlt2 : ∀ b, b < w.heap.size → b < w'.heap.size := fun b hb => Nat.lt_of_lt_of_le hb hex.shape.1
  refine ⟨v, _, p2, σ2, _, rfl, hex2, hleft, ?_, (hvx.renF hmono1).mono' (p := p') (p' := p2) (fun b hb => hb) (fun _ _ => rfl) (.refl w') (fun _ _ h => h), x, H1, hq, rfl, rfl⟩
  obtain ⟨pl, pg⟩ := patch1_get (hmap g H.length) g H1 H 0
  obtain ⟨rl, rg⟩ := renH_get (hmap g H.length) (H1.drop g.length)
  have split : ∀ (i : Nat) (k : Blk), (patch g H H1)[i]? = some (some k) → (i ∉ g ∧ H[i]? = some (some k)) ∨ (∃ j k1, i = hmap g H.length j ∧ H1[j]? = some (some k1) ∧ k = renB (hmap g H.length) k1) := fun i k hk => by
    unfold patch at hk
    rcases Nat.lt_or_ge i H.length with hi | hi
    · rw [List.getElem?_append_left (by rw [pl]; exact hi), pg, List.getElem?_eq_getElem hi] at hk
      simp only [Nat.zero_add, Option.map_some] at hk
      split at hk
      · rename_i q hq
        have hgq := pos_some hq
        have hqlt := (List.getElem?_eq_some_iff.1 hgq).1
        split at hk
        · rename_i k1 hk1
          simp only [Option.some.injEq] at hk
          refine .inr ⟨q, k1, ?_, hk1, hk.symm⟩
          unfold hmap
          have : Nat.blt q g.length = true := by simpa [Nat.blt_eq] using hqlt
          rw [this]
          simp [gOf, List.getD_eq_getElem?_getD, hgq]
        · simp at hk
      · rename_i hq
        simp only [Option.some.injEq] at hk
        exact .inl ⟨pos_none hq, by rw [List.getElem?_eq_getElem hi, hk]⟩
    · rw [List.getElem?_append_right (by rw [pl]; exact hi), rg, pl, List.getElem?_drop] at hk
      refine .inr ⟨g.length + (i - H.length), ?_⟩
      cases hj : H1[g.length + (i - H.length)]? with
      | none => simp [hj] at hk
      | some o =>
        cases o with
        | none => simp [hj] at hk
        | some k1 =>
          simp [hj] at hk
          refine ⟨k1, ?_, rfl, hk.symm⟩
          unfold hmap
          have : Nat.blt (g.length + (i - H.length)) g.length = false := by
            cases hb : Nat.blt (g.length + (i - H.length)) g.length with
            | false => rfl
            | true => simp [Nat.blt_eq] at hb; omega
          rw [this]
          simp only
          omega
  have own : ∀ (i r : Nat) (k : Blk), i ∉ g → H[i]? = some (some k) → σ2[i]? = some r → σ[i]? = some r ∧ live r := fun i r k hn hk hr => by
    have hi : i < σ.length := by rw [hH.len]; exact (List.getElem?_eq_some_iff.1 hk).1
    rw [List.getElem?_append_left hi] at hr
    exact ⟨hr, i, k, hn, hk, hr⟩
  have back : ∀ (j r : Nat) (k1 : Blk), H1[j]? = some (some k1) → σ2[hmap g H.length j]? = some r → σ1[j]? = some r := fun j r k1 hk hr => by
    have hj : j < σ1.length := by rw [hlen1]; exact (List.getElem?_eq_some_iff.1 hk).1
    have e : σ1[j]? = some (σ1[j]'hj) := List.getElem?_eq_getElem hj
    have := hmono1 j _ e
    rw [hr] at this
    rw [e, this]
  refine ⟨by simp [patch, σ2, pl, rl, hH.len, hlen1], fun b hb => hH1.lt b hb.1, fun i k hk => ?_, fun i j r a b ha hb hi hj => ?_, hH.gl.ext hex2⟩
  · rcases split i k hk with ⟨hn, h1⟩ | ⟨j, k1, rfl, h1, rfl⟩
    · obtain ⟨r, g1, g2, g3, g4⟩ := hH.blk i k h1
      have hl : live r := ⟨i, k, hn, h1, g1⟩
      exact ⟨r, hleft i r g1, fun hu => hu.2 hl, hlt2 r g3, g4.mono hex2 hleft (hex.same r (.inr hl) (hlf r hl)) (fun hy => by
        cases pY with
        | true => have := noYx_get hY h1 (by simpa using hn); rw [this] at hy; simp at hy
        | false => exact ⟨by funext b; simp [p2], fun b hb => hex.same b (.inl (p.fu b hb)) (fun h => by simp [p0] at h)⟩)⟩
    · obtain ⟨r, g1, g2, g3, g4⟩ := hH1.blk j k1 h1
      refine ⟨r, hmono1 j r g1, fun hu => g2 hu.1, g3, ?_⟩
      cases k1 with
      | row cs =>
        obtain ⟨c, e, fr, q1, q2, q3, q4⟩ := g4
        refine ⟨c, e, fr, q1, by rw [renL_length]; exact q2, q3, fun i x v hx hv => ?_⟩
        rw [renL_get] at hx
        cases hy : cs[i]? with
        | none => simp [hy] at hx
        | some z =>
          simp only [hy, Option.map_some, Option.some.injEq] at hx
          subst hx
          obtain ⟨z1, z2⟩ := q4 i z v hy hv
          exact ⟨(z1.renF hmono1).mono' (p := p') (p' := p2) (fun b hb => hb) (fun _ _ => rfl) (.refl w') (fun _ _ h => h), z2⟩
      | iter s pos => exact g4
      | dfr => exact g4
      | raw o => exact g4
      | bytes e bs => exact g4
      | mp ks vs =>
        obtain ⟨es, cl, z1, z2, z3, z4, z5⟩ := g4
        refine ⟨es, cl, z1, z2, by rw [renL_length]; exact z3, z4, fun i x e hx he => ?_⟩
        rw [renL_get] at hx
        cases hy : vs[i]? with
        | none => simp [hy] at hx
        | some z =>
          simp only [hy, Option.map_some, Option.some.injEq] at hx
          subst hx
          exact ((z5 i z e hy he).renF hmono1).mono' (p := p') (p' := p2) (fun b hb => hb) (fun _ _ => rfl) (.refl w') (fun _ _ h => h)
      | yl Y k =>
        cases pY with
        | false => have := noY_get (hY.2 _ _ hq) h1; simp [isY] at this
        | true => exact ⟨g4.1, Y.stI k p' p2 w' w' g4.2 (by funext b; simp [p2]) (fun _ h => h) (fun _ _ => rfl) (.refl w')⟩
      | yz Y =>
        cases pY with
        | false => have := noY_get (hY.2 _ _ hq) h1; simp [isY] at this
        | true => exact ⟨g4.1, Y.stZ p' p2 w' w' g4.2 (by funext b; simp [p2]) (fun _ h => h) (fun _ _ => rfl) (.refl w')⟩
  · rcases split i a ha with ⟨hn1, h1⟩ | ⟨i', a1, rfl, h1, rfl⟩ <;> rcases split j b hb with ⟨hn2, h2⟩ | ⟨j', b1, rfl, h2, rfl⟩
    · exact hH.inj i j r a b h1 h2 (own i r a hn1 h1 hi).1 (own j r b hn2 h2 hj).1
    · exfalso
      obtain ⟨_, hl⟩ := own i r a hn1 h1 hi
      obtain ⟨r', g1, g2, _⟩ := hH1.blk j' b1 h2
      rw [back j' r b1 h2 hj] at g1
      injection g1 with g1
      subst g1
      exact g2 (hex.subu r (.inr hl))
    · exfalso
      obtain ⟨_, hl⟩ := own j r b hn2 h2 hj
      obtain ⟨r', g1, g2, _⟩ := hH1.blk i' a1 h1
      rw [back i' r a1 h1 hi] at g1
      injection g1 with g1
      subst g1
      exact g2 (hex.subu r (.inr hl))
    · rw [hH1.inj i' j' r a1 b1 h1 h2 (back i' r a1 h1 hi) (back j' r b1 h2 hj)]
theorem Tri.call {P : Program} {f : FuncId} {args0 : List AV} {H0 HH : Heap} {r0 : AV} (h : Tri P f args0 H0 fun v H => v = r0 ∧ H = HH) (g : List Nat) {args : List AV} {H : Heap} {K : AV → Heap → Prop} (hlt : (g.all fun x => Nat.blt x H.length) = true) (hnd : noDup g = true)
    (hle : HLe g g.length H H0 g) (hargs : args = renL (gOf g) args0) (hl : lowL g.length args0 = true) (hY : noY H0 = true) (hY2 : noY HH = true) {r : AV} {H' : Heap} (hr : Eng.ren (hmap g H.length) r0 = r) (hH : patch g H HH = H') (hK : K r H') : Tri P f args H K := by
  refine (h.sub false g hlt hnd hle hargs hl ⟨hY, fun v1 H1 hq => by rw [hq.2]; exact hY2⟩).mono ?_
  rintro v H2 ⟨v1, H1, ⟨rfl, rfl⟩, rfl, rfl⟩
  rw [hr, hH]
  exact hK
end Go.Eng
