/- The evaluator is true of single operations. -/
import Derived.Laws.Append
import Derived.Laws.BytesString
import Derived.Laws.Slices
import Derived.Laws.Strings
import Derived.Laws.StructEq
import Derived.Laws.Tables
import Derived.Test.YtbfefcmhciimcaaGreatDoorEvA
section
set_option linter.unusedSimpArgs false
set_option linter.unusedVariables false
namespace Go.Ev
variable {P : Program} {T : Tab}

theorem kw_eq (k : IntKind) (n : Int) : kw k n = k.wrap n := by
  unfold kw
  split
  · rename_i h
    simp only [Bool.and_eq_true, decide_eq_true_eq] at h
    obtain ⟨h1, h2⟩ := h
    cases k <;> simp [IntKind.min, IntKind.max, IntKind.wrap, IntKind.bits, IntKind.signed] at * <;> omega
  · rfl

theorem nat_beq {a b : Nat} : Nat.beq a b = true ↔ a = b := by simp

theorem uint8_beq (a b : UInt8) : Nat.beq a.toNat b.toNat = (a == b) := by
  rw [Bool.eq_iff_iff]; simp [UInt8.toNat_inj]
theorem beqB_eq : ∀ (x y : List UInt8), beqB x y = (x == y)
  | [], [] => rfl
  | [], _ :: _ => rfl
  | _ :: _, [] => rfl
  | a :: x, b :: y => by
    rw [beqB, uint8_beq, List.cons_beq_cons, beqB_eq x y]
    cases a == b <;> rfl
theorem bltB_eq : ∀ (x y : List UInt8), bltB x y = Op.bytesLess x y
  | x, [] => by cases x <;> rfl
  | [], _ :: _ => rfl
  | a :: x, b :: y => by
    have h1 : Nat.blt a.toNat b.toNat = decide (a < b) := by
      rw [Bool.eq_iff_iff, blt_iff]; simp [UInt8.lt_iff_toNat_lt]
    rw [bltB, Op.bytesLess, h1, uint8_beq, bltB_eq x y]
    cases decide (a < b) <;> cases a == b <;> simp
theorem ba_toList (x : ByteArray) : x.toList = x.data.toList := by
  exact ByteArray.toList_eq x
theorem bApp_eq (x y : ByteArray) : bApp x y = x ++ y := by
  apply ByteArray.ext
  simp [bApp]
theorem bSub_eq (x : ByteArray) (l h : Nat) : bSub x l h = x.extract l h := by
  apply ByteArray.ext
  apply Array.ext'
  rw [ByteArray.data_extract, Array.toList_extract]
  simp [bSub, List.extract]

/-! ### Operands -/
theorem cst_vg (g : GM) (v : Value) : VG g (cst v) v := by
  cases v with
  | pointer a => cases a with | none => exact .ptrN | some a => exact .top _
  | slice a n c => cases a with | none => exact .slcN n c | some a => exact .top _
  | map r => cases r with | none => exact .mapN | some a => exact .top _
  | bool b => exact .bool b
  | int k n => exact .int k n
  | string s => exact .string s
  | nilFunc => exact .nilF
  | nilIface => exact .nilI
  | _ => exact .top _
theorem cst_ok (g : GM) (l : LM) (v : Value) : VR g l (cst v) v := .g (cst_vg g v)

/-- What a whole number, a bool, a text stands for. -/
theorem VR.int {g : GM} {l : LM} {k : IntKind} {n : Int} {v' : Value} (h : VR g l (.int k n) v') : v' = .int k n := by
  cases h with | g h => cases h; rfl
theorem VR.bool {g : GM} {l : LM} {b : Bool} {v' : Value} (h : VR g l (.bool b) v') : v' = .bool b := by
  cases h with | g h => cases h; rfl
theorem VR.string {g : GM} {l : LM} {b : ByteArray} {v' : Value} (h : VR g l (.string b) v') : v' = .string b := by
  cases h with | g h => cases h; rfl

end Go.Ev
end
section
set_option linter.unusedSimpArgs false
set_option linter.unusedVariables false
namespace Go.Ev
variable {P : Program} {T : Tab}

/-- What is taken for granted of the program and the tables, once for all. -/
structure Facts (P : Program) (T : Tab) : Prop where
  eqs : ∀ t, memN T.eqs t = true → ∃ fs, P.underlying t = some (.struct fs) ∧ (∀ f ∈ fs.toList, f.name ≠ "_") ∧ P.stoodInHeld t = false ∧ P.eqGuardType P.depth t = false

theorem tyI_run {t : TypeId} {agg : Bool} {n : Nat} (h : tyI P t = some (agg, n)) (w : World) : (isAgg t).run P w = .ok agg w ∧ (sizeOf t).run P w = .ok n w := by
  unfold tyI at h
  cases hi : P.info? t with
  | none => rw [hi] at h; cases h
  | some i =>
    rw [hi] at h
    simp only at h
    cases hu : P.underlying t with
    | none => rw [hu] at h; cases h
    | some d =>
      rw [hu] at h
      simp only [Option.some.injEq, Prod.mk.injEq] at h
      obtain ⟨h1, h2⟩ := h
      constructor
      · simp only [isAgg, Sem.run_bind, run_underlying hu, Result.andThen_ok]
        subst h1
        cases d <;> rfl
      · simp [sizeOf, typeInfo, hi, h2]
theorem tyI_info {t : TypeId} {agg : Bool} {n : Nat} (h : tyI P t = some (agg, n)) : ∃ i, P.info? t = some i ∧ i.size = n := by
  unfold tyI at h
  cases hi : P.info? t with
  | none => rw [hi] at h; cases h
  | some i =>
    rw [hi] at h
    simp only at h
    cases hu : P.underlying t with
    | none => rw [hu] at h; cases h
    | some d => rw [hu] at h; simp only [Option.some.injEq, Prod.mk.injEq] at h; exact ⟨i, rfl, h.2⟩

theorem szOf_run {t : TypeId} {n : Nat} (h : szOf P t = some n) (w : World) : (sizeOf t).run P w = .ok n w := by
  unfold szOf at h
  cases hi : P.info? t with
  | none => rw [hi] at h; cases h
  | some i => rw [hi] at h; simp only [Option.some.injEq] at h; simp [sizeOf, typeInfo, hi, h]
theorem szOf_info {t : TypeId} {n : Nat} (h : szOf P t = some n) : ∃ i, P.info? t = some i ∧ i.size = n := by
  unfold szOf at h
  cases hi : P.info? t with
  | none => rw [hi] at h; cases h
  | some i => rw [hi] at h; simp only [Option.some.injEq] at h; exact ⟨i, rfl, h⟩
theorem byOf_info {t : TypeId} {n : Nat} (h : byOf P t = some n) : ∃ i, P.info? t = some i ∧ i.bytes = n := by
  unfold byOf at h
  cases hi : P.info? t with
  | none => rw [hi] at h; cases h
  | some i => rw [hi] at h; simp only [Option.some.injEq] at h; exact ⟨i, rfl, h⟩
theorem vcells_eq (v : Value) : vcells v = v.cells.toList := by cases v <;> rfl
theorem VGL.cst (g : GM) : ∀ (l : List Value), VGL g (l.map cst) l
  | [] => .nil
  | v :: l => .cons (cst_vg g v) (VGL.cst g l)
theorem zeroC_info {t : TypeId} {z : List Value} (h : zeroC P t = some z) : ∃ i zv, P.info? t = some i ∧ i.zero = some zv ∧ ∀ g, VGL g z zv.cells.toList := by
  unfold zeroC at h
  cases hi : P.info? t with
  | none => rw [hi] at h; cases h
  | some i =>
    rw [hi] at h
    simp only at h
    cases hz : i.zero with
    | none => rw [hz] at h; cases h
    | some zv =>
      rw [hz] at h; simp only [Option.some.injEq] at h
      exact ⟨i, zv, rfl, hz, fun g => by rw [← h, ← vcells_eq]; exact VGL.cst g _⟩
theorem zeroC_run {t : TypeId} {z : List Value} (h : zeroC P t = some z) (w : World) : ∃ zv : Value, (zeroValue t).run P w = .ok zv w ∧ ∀ g, VGL g z zv.cells.toList := by
  obtain ⟨i, zv, hi, hz, hv⟩ := zeroC_info h
  exact ⟨zv, by simp [zeroValue, typeInfo, hi, hz], hv⟩

theorem VGL.extract {g : GM} {l l' : List Value} (h : VGL g l l') (a n : Nat) : VGL g ((l.drop a).take n) ((⟨l'⟩ : Array Value).extract a (a + n)).toList := by
  rw [Array.toList_extract]
  have : (⟨l'⟩ : Array Value).toList.extract a (a + n) = (l'.drop a).take n := by simp [List.extract]
  rw [this]
  exact (h.drop a).take n

theorem partV_run {g : GM} {t : TypeId} {cs cs' : List Value} {off : Nat} {v : Value} (h : partV P t cs off = some v) (hc : VGL g cs cs') (w : World) :
    ∃ v', (part t ⟨cs'⟩ off).run P w = .ok v' w ∧ VG g v v' := by
  unfold partV at h
  cases ht : tyI P t with
  | none => rw [ht] at h; cases h
  | some p =>
    obtain ⟨agg, n⟩ := p
    rw [ht] at h
    obtain ⟨h1, h2⟩ := tyI_run ht w
    cases agg with
    | true =>
      simp only [Option.some.injEq] at h
      subst h
      refine ⟨.agg ((⟨cs'⟩ : Array Value).extract off (off + n)), ?_, ?_⟩
      · simp [part, h1, h2]
      · have := hc.extract off n
        exact VG.agg (l' := ((⟨cs'⟩ : Array Value).extract off (off + n)).toList) this
    | false =>
      simp only [lget_eq] at h
      obtain ⟨v', hv, hg⟩ := hc.get h
      refine ⟨v', ?_, hg⟩
      simp [part, h1, hv]

/-! ### Equality -/
theorem aeq_run (F : Facts P T) : ∀ (d : Nat) (t : TypeId) (x y : Value) (b : Bool), aeq P T d t x y = some b → ∀ (g : GM) (x' y' : Value) (w : World) (D : Nat), VG g x x' → VG g y y' → d ≤ D →
    (Op.equalIn D t x' y').run P w = .ok b w
  | 0, _, _, _, _, h, _, _, _, _, _, _, _, _ => by simp [aeq] at h
  | d + 1, t, x, y, b, h, g, x', y', w, D, hx, hy, hD => by
    obtain ⟨D, rfl⟩ : ∃ m, D = m + 1 := ⟨D - 1, by omega⟩
    have hD' : d ≤ D := by omega
    unfold aeq at h
    cases hu : P.underlying t with
    | none => rw [hu] at h; simp at h
    | some ds =>
      rw [hu] at h
      cases ds <;> first | (cases h; done) | (try dsimp only at h)
      · -- bool
        cases x <;> first | (cases h; done) | (try dsimp only at h)
        cases y <;> first | (cases h; done) | (try dsimp only at h)
        cases hx; cases hy; cases h
        exact run_equalIn_bool' w D t _ _ hu
      · -- int
        cases x <;> first | (cases h; done) | (try dsimp only at h)
        cases y <;> first | (cases h; done) | (try dsimp only at h)
        cases hx; cases hy
        split at h
        · rename_i hk
          have hk := of_decide_eq_true hk
          subst hk
          cases h
          exact run_equalIn_int w D t _ _ _ _ hu
        · cases h
      · -- string
        cases x <;> first | (cases h; done) | (try dsimp only at h)
        cases y <;> first | (cases h; done) | (try dsimp only at h)
        cases hx; cases hy; cases h
        rw [run_equalIn_string w D t _ _ hu, beqB_eq, ba_toList, ba_toList]
      · -- struct
        rename_i fs
        cases x <;> first | (cases h; done) | (try dsimp only at h)
        cases y <;> first | (cases h; done) | (try dsimp only at h)
        rename_i xs ys
        split at h
        · rename_i hm
          obtain ⟨fs', hu', hn, hst, _⟩ := F.eqs t hm
          rw [hu] at hu'; cases hu'
          have hfo : P.fieldsOf t = fs := by simp [Program.fieldsOf, hu]
          cases hx with
          | agg hx =>
          cases hy with
          | agg hy =>
          rename_i l₁ l₁' l₂ l₂'
          rw [run_equalIn_struct w D t ⟨l₁'⟩ ⟨l₂'⟩ (by rw [hfo]; exact hu) hst, hfo]
          clear hu hst
          generalize fs.toList = l at h hn ⊢
          induction l generalizing b with
          | nil => simp only [List.foldr_nil, Option.some.injEq] at h; subst h; rfl
          | cons f l ih =>
            simp only [List.foldr_cons] at h
            split at h
            · rename_i a c ha hc
              split at h
              · rename_i p q hp hq
                simp only [Option.some.injEq] at h
                subst h
                obtain ⟨a', ra, ga⟩ := partV_run ha hx w
                obtain ⟨c', rc, gc⟩ := partV_run hc hy w
                have re := aeq_run F d f.type a c p hp g a' c' w D ga gc hD'
                simp only [Op.eqFields, ne_eq, hn f (List.mem_cons_self ..), not_false_eq_true, if_true, Sem.run_bind, ra, rc, re, Result.andThen_ok]
                cases p
                · simp
                · simp only [Bool.not_true, Bool.false_eq_true, if_false, Bool.true_and]
                  exact ih q hq (fun f' hf' => hn f' (List.mem_cons_of_mem _ hf'))
              · cases h
            · cases h
        · cases h

end Go.Ev
end
section
set_option linter.unusedSimpArgs false
set_option linter.unusedVariables false
set_option maxHeartbeats 2000000
namespace Go.Ev
variable {P : Program} {T : Tab} {α : Type}

theorem VR.self {g : GM} {l : LM} {v : Value} (h : VG g v v) : VR g l v v := .g h

theorem uop_run {op : UnOp} {x : Value} {K : Value → Option α} {r : α} (h : uop op x K = some r) :
    ∃ v, K v = some r ∧ ∀ (g : GM) (l : LM) (x' : Value) (w : World), VR g l x x' → ∃ v', (Op.unary op x').run P w = .ok v' w ∧ VR g l v v' := by
  unfold uop at h
  cases op <;> cases x <;> first | (cases h; done) | skip
  · exact ⟨_, h, fun g l x' w hx => by
      rw [hx.int]; exact ⟨_, rfl, by rw [kw_eq]; exact .g (.int _ _)⟩⟩
  · exact ⟨_, h, fun g l x' w hx => by
      rw [hx.int]; exact ⟨_, rfl, .g (.int _ _)⟩⟩
  · exact ⟨_, h, fun g l x' w hx => by
      rw [hx.bool]; exact ⟨_, rfl, .g (.bool _)⟩⟩

theorem bopI_run {op : BinOp} {k : IntKind} {a b : Int} {K : Value → Option α} {r : α} (h : bopI op k a b K = some r) (t : TypeId) :
    ∃ v, K v = some r ∧ ∀ (g : GM) (l : LM) (w : World), ∃ v', (binOp op t (.int k a) (.int k b)).run P w = .ok v' w ∧ VR g l v v' := by
  unfold bopI at h
  cases op <;> first | (cases h; done) | skip
  case quo =>
    dsimp only at h
    split at h
    · cases h
    · rename_i hb
      refine ⟨_, h, fun g l w => ⟨.int k (k.wrap (a.tdiv b)), ?_, by rw [kw_eq]; exact .g (.int _ _)⟩⟩
      simp [binOp, Op.intDiv, hb]
  case rem =>
    dsimp only at h
    split at h
    · cases h
    · rename_i hb
      refine ⟨_, h, fun g l w => ⟨.int k (a.tmod b), ?_, .g (.int _ _)⟩⟩
      simp [binOp, Op.intDiv, hb]
  all_goals
    refine ⟨_, h, fun g l w => ?_⟩
    simp only [binOp, ne_eq, not_true_eq_false, if_false, Op.intArith, Op.intBits, Op.intCmp, bitI, kw_eq]
    exact ⟨_, rfl, by first | exact .g (.int _ _) | exact .g (.bool _)⟩

theorem bopS_run {op : BinOp} {x y : ByteArray} {K : Value → Option α} {r : α} (h : bopS op x y K = some r) (t : TypeId) :
    ∃ v, K v = some r ∧ ∀ (g : GM) (l : LM) (w : World), ∃ v', (binOp op t (.string x) (.string y)).run P w = .ok v' w ∧ VR g l v v' := by
  unfold bopS at h
  cases op <;> first | (cases h; done) | skip
  case add =>
    dsimp only at h
    split at h
    · rename_i hb
      refine ⟨_, h, fun g l w => ⟨.string (x ++ y), ?_, by rw [bApp_eq]; exact .g (.string _)⟩⟩
      have : ¬ ((x.size + y.size : Nat) : Int) > IntKind.i64.max := by simp [IntKind.max, IntKind.signed, IntKind.bits]; omega
      simp only [binOp, Op.stringOp]
      rw [if_neg this]; rfl
    · cases h
  all_goals
    refine ⟨_, h, fun g l w => ?_⟩
    simp only [binOp, Op.stringOp, beqB_eq, bltB_eq, ba_toList]
    exact ⟨_, rfl, .g (.bool _)⟩

theorem shI_run {op : BinOp} {k yk : IntKind} {a b : Int} {K : Value → Option α} {r : α} (ho : op = .shl ∨ op = .shr) (h : shI op k a b K = some r) (t : TypeId) :
    ∃ v, K v = some r ∧ ∀ (g : GM) (l : LM) (w : World), ∃ v', (binOp op t (.int k a) (.int yk b)).run P w = .ok v' w ∧ VR g l v v' := by
  unfold shI at h
  split at h
  · cases h
  · rename_i hb
    rcases ho with rfl | rfl
    · refine ⟨_, h, fun g l w => ⟨.int k (k.wrap (a * 2 ^ (min b.toNat k.bits))), ?_, by rw [kw_eq]; exact .g (.int _ _)⟩⟩
      simp only [binOp, Op.shift]; rw [if_neg hb]; rfl
    · refine ⟨_, h, fun g l w => ⟨.int k (a.fdiv (2 ^ (min b.toNat k.bits))), ?_, .g (.int _ _)⟩⟩
      simp only [binOp, Op.shift]; rw [if_neg hb]; rfl

theorem eqGuard_none (op : BinOp) (t : TypeId) (x y : Operand) (a b : Value) (w : World) (h1 : a = .nilIface → b = .nilIface → (isC x || isC y) = true)
    (h2 : ∀ p q, a = .agg p → b = .agg q → P.eqGuardType P.depth t = false) : (eqGuard op t x y a b).run P w = .ok () w := by
  unfold eqGuard
  cases hop : (!(op matches .eql | .neq)) with
  | true => simp
  | false =>
    simp only [Bool.false_eq_true, if_false]
    cases a <;> cases b <;> first
      | rfl
      | (have := h1 rfl rfl
         cases x <;> cases y <;> first | rfl | (simp [isC] at this))
      | (have := h2 _ _ rfl rfl
         simp only [Sem.run_bind, run_program, Result.andThen_ok, this]; rfl)

def Other : Value → Value → Prop
  | .int _ _, .int _ _ => False
  | .float _ _, .float _ _ => False
  | .complex _ _ _, .complex _ _ _ => False
  | .string _, .string _ => False
  | _, _ => True
theorem binOp_eql {t : TypeId} {x y : Value} (h : Other x y) : binOp .eql t x y = (do pure (.bool (← Op.equal t x y)) : Sem Value) := by
  unfold binOp
  split <;> first | rfl | (exact h.elim) | (rename_i h1; cases h1) | simp_all
theorem binOp_neq {t : TypeId} {x y : Value} (h : Other x y) : binOp .neq t x y = (do pure (.bool (!(← Op.equal t x y))) : Sem Value) := by
  unfold binOp
  split <;> first | rfl | (exact h.elim) | (rename_i h1; cases h1) | simp_all

structure EqlOk (P : Program) (xc : Bool) (t : TypeId) (x' y' : Value) (b : Bool) (w : World) : Prop where
  eq : (Op.equal t x' y').run P w = .ok b w
  nl : x' = .nilIface → y' = .nilIface → xc = true
  ag : ∀ p q, x' = .agg p → y' = .agg q → P.eqGuardType P.depth t = false
  ot : Other x' y'

theorem eqlV_run (F : Facts P T) {xc : Bool} {t : TypeId} {x y : Value} {b : Bool} (h : eqlV P T xc t x y = some b) (g : GM) (l : LM) (x' y' : Value) (w : World) (hx : VR g l x x') (hy : VR g l y y') :
    EqlOk P xc t x' y' b w := by
  obtain ⟨D, hD, hd⟩ : ∃ D, 6 ≤ D + 1 ∧ Op.maxDepth = D + 1 := ⟨9999, by omega, rfl⟩
  have mk : ∀ {x' y' : Value} {b : Bool}, (Op.equalIn (D + 1) t x' y').run P w = .ok b w → (x' = .nilIface → y' = .nilIface → xc = true) → (∀ p q, x' = .agg p → y' = .agg q → P.eqGuardType P.depth t = false) → Other x' y' → EqlOk P xc t x' y' b w :=
    fun a b c d => ⟨by unfold Op.equal; rw [hd]; exact a, b, c, d⟩
  unfold eqlV at h
  split at h
  case h_1 =>
    split at h
    · rename_i hu
      cases h
      rw [hx.bool, hy.bool]
      exact mk (run_equalIn_bool' w D t _ _ hu) nofun nofun trivial
    · cases h
  case h_2 =>
    split at h
    · rename_i hu
      cases h
      cases hx with
      | g hx => cases hx; cases hy with
        | g hy => cases hy <;> exact mk (by simp [Op.equalIn, run_underlying hu]) nofun nofun trivial
        | ptr hy => exact mk (by simp [Op.equalIn, run_underlying hu]) nofun nofun trivial
    · cases h
  case h_3 =>
    split at h
    · rename_i hu
      cases h
      cases hy with
      | g hy =>
        cases hy
        cases hx with
        | g hx => cases hx; exact mk (by simp [Op.equalIn, run_underlying hu]) nofun nofun trivial
        | ptr hx => exact mk (by simp [Op.equalIn, run_underlying hu]) nofun nofun trivial
    · cases h
  case h_4 =>
    split at h
    · rename_i hu
      split at h
      · rename_i hsz
        split at h
        · rename_i ha hb
          split at h
          · rename_i hc
            cases h
            simp only [Bool.and_eq_true, Nat.beq_eq] at hc
            cases hx with
            | ptr hx => exact absurd ha hx.1
            | g hx =>
              cases hy with
              | ptr hy => exact absurd hb hy.1
              | g hy =>
                cases hx with
                | @ptr _ a' hx =>
                cases hy with
                | @ptr _ b' hy =>
                obtain ⟨_, s1, i, hi, p1, q1⟩ := hx
                obtain ⟨_, s2, j, hj, p2, q2⟩ := hy
                rw [hc.1, hj] at hi; cases hi
                have e : a' = b' := by
                  cases a'; cases b'
                  simp only at p1 q1 p2 q2 s1 s2
                  simp [p1, p2, q1, q2, s1, s2, hc.2]
                subst e
                exact mk (by simp [Op.equalIn, run_underlying hu, szOf_run hsz, sameAddr]) nofun nofun trivial
          · cases h
        · cases h
      · cases h
    · cases h
  case h_5 =>
    split at h
    · rename_i hu
      cases h
      cases hx with
      | g hx =>
        cases hx
        cases hy with
        | g hy => cases hy <;> exact mk (by simp [Op.equalIn, run_underlying hu]) nofun nofun trivial
        | slc hy => exact mk (by simp [Op.equalIn, run_underlying hu]) nofun nofun trivial
        | slcE hy _ _ => exact mk (by simp [Op.equalIn, run_underlying hu]) nofun nofun trivial
    · cases h
  case h_6 =>
    split at h
    · rename_i hu
      cases h
      cases hy with
      | g hy =>
        cases hy
        cases hx with
        | g hx => cases hx <;> exact mk (by simp [Op.equalIn, run_underlying hu]) nofun nofun trivial
        | slc hx => exact mk (by simp [Op.equalIn, run_underlying hu]) nofun nofun trivial
        | slcE hx _ _ => exact mk (by simp [Op.equalIn, run_underlying hu]) nofun nofun trivial
    · cases h
  case h_7 =>
    split at h
    · rename_i hu
      cases h
      cases hx with
      | g hx =>
        cases hx
        cases hy with
        | g hy => cases hy <;> exact mk (by simp [Op.equalIn, run_underlying hu]) nofun nofun trivial
    · cases h
  case h_8 =>
    split at h
    · rename_i hu
      cases h
      cases hx with
      | g hx =>
        cases hx
        cases hy with
        | g hy => cases hy; exact mk (by simp [Op.equalIn, run_underlying hu]) nofun nofun trivial
    · cases h
  case h_9 =>
    split at h
    · rename_i hu
      cases h
      cases hx with
      | g hx =>
        cases hx
        cases hy with
        | g hy => cases hy; exact mk (by simp [Op.equalIn, run_underlying hu]) nofun nofun trivial
    · cases h
  case h_10 =>
    split at h
    · rename_i hu
      cases h
      cases hx with
      | g hx =>
        cases hx
        cases hy with
        | g hy => cases hy <;> exact mk (by simp [Op.equalIn, run_underlying hu]) nofun nofun trivial
    · cases h
  case h_11 =>
    split at h
    · rename_i hu
      cases h
      cases hx with
      | g hx =>
        cases hy with
        | g hy => cases hx <;> cases hy <;> exact mk (by simp [Op.equalIn, run_underlying hu]) nofun nofun trivial
    · cases h
  case h_12 =>
    split at h
    · split at h
      · rename_i hu
        cases h
        cases hx with
        | g hx =>
          cases hx
          cases hy with
          | g hy => cases hy; exact mk (by simp [Op.equalIn, run_underlying hu]) (fun _ _ => rfl) nofun trivial
      · cases h
    · cases h
  case h_13 =>
    split at h
    · rename_i hu
      cases h
      cases hx with
      | g hx =>
        cases hx
        cases hy with
        | g hy => cases hy; exact mk (by simp [Op.equalIn, run_underlying hu]) nofun nofun trivial
    · cases h
  case h_14 =>
    split at h
    · rename_i hu
      cases h
      cases hx with
      | g hx =>
        cases hx
        cases hy with
        | g hy => cases hy; exact mk (by simp [Op.equalIn, run_underlying hu]) nofun nofun trivial
    · cases h
  case h_15 =>
    cases hx with
    | g hx =>
      cases hy with
      | g hy =>
        have hr := aeq_run F 6 t _ _ b h g _ _ w (D + 1) hx hy hD
        have hg : P.eqGuardType P.depth t = false := by
          unfold aeq at h
          split at h <;> first | (cases h; done) | skip
          all_goals (try dsimp only at h)
          all_goals first
            | (cases h; done)
            | (split at h
               · rename_i hm
                 obtain ⟨_, _, _, _, q⟩ := F.eqs t hm
                 exact q
               · cases h)
        cases hx
        cases hy
        exact mk hr nofun (fun _ _ _ _ => hg) trivial
  case h_16 => cases h

theorem bop_run (F : Facts P T) {op : BinOp} {ox oy : Operand} {t : TypeId} {x y : Value} {K : Value → Option α} {r : α} (h : bop P T op (isC ox || isC oy) t x y K = some r) :
    ∃ v, K v = some r ∧ ∀ (g : GM) (l : LM) (x' y' : Value) (w : World), VR g l x x' → VR g l y y' → ∃ v', (do eqGuard op t ox oy x' y'; binOp op t x' y' : Sem Value).run P w = .ok v' w ∧ VR g l v v' := by
  unfold bop at h
  split at h
  · rename_i k a k' b
    have key : ∀ {v : Value}, (∀ (g : GM) (l : LM) (w : World), ∃ v', (binOp op t (.int k a) (.int k' b)).run P w = .ok v' w ∧ VR g l v v') →
        ∀ (g : GM) (l : LM) (x' y' : Value) (w : World), VR g l (.int k a) x' → VR g l (.int k' b) y' → ∃ v', (do eqGuard op t ox oy x' y'; binOp op t x' y' : Sem Value).run P w = .ok v' w ∧ VR g l v v' := by
      intro v hv g l x' y' w hx hy
      rw [hx.int, hy.int]
      obtain ⟨v', hr, hg⟩ := hv g l w
      refine ⟨v', ?_, hg⟩
      rw [Sem.run_bind, eqGuard_none op t ox oy (.int k a) (.int k' b) w nofun nofun]
      exact hr
    split at h
    · obtain ⟨v, hv, hr⟩ := shI_run (yk := k') (P := P) (.inl rfl) h t
      exact ⟨v, hv, key hr⟩
    · obtain ⟨v, hv, hr⟩ := shI_run (yk := k') (P := P) (.inr rfl) h t
      exact ⟨v, hv, key hr⟩
    · split at h
      · rename_i hk
        have hk := of_decide_eq_true hk
        subst hk
        obtain ⟨v, hv, hr⟩ := bopI_run (P := P) h t
        exact ⟨v, hv, key hr⟩
      · cases h
  · rename_i a b
    obtain ⟨v, hv, hr⟩ := bopS_run (P := P) h t
    refine ⟨v, hv, fun g l x' y' w hx hy => ?_⟩
    rw [hx.string, hy.string]
    obtain ⟨v', hr, hg⟩ := hr g l w
    refine ⟨v', ?_, hg⟩
    rw [Sem.run_bind, eqGuard_none op t ox oy (.string a) (.string b) w nofun nofun]
    exact hr
  · split at h
    · split at h
      · rename_i b hb
        refine ⟨_, h, fun g l x' y' w hx hy => ?_⟩
        have e := eqlV_run F hb g l x' y' w hx hy
        refine ⟨.bool b, ?_, .g (.bool _)⟩
        rw [Sem.run_bind, eqGuard_none _ t ox oy _ _ w e.nl e.ag, binOp_eql e.ot]
        simp [e.eq]
      · cases h
    · split at h
      · rename_i b hb
        refine ⟨_, h, fun g l x' y' w hx hy => ?_⟩
        have e := eqlV_run F hb g l x' y' w hx hy
        refine ⟨.bool (!b), ?_, .g (.bool _)⟩
        rw [Sem.run_bind, eqGuard_none _ t ox oy _ _ w e.nl e.ag, binOp_neq e.ot]
        simp [e.eq]
      · cases h
    · cases h

end Go.Ev
end
section
set_option linter.unusedSimpArgs false
set_option linter.unusedVariables false
set_option maxHeartbeats 1000000
namespace Go.Ev
variable {P : Program} {T : Tab} {α : Type}

/-! ### What stands behind a pointer, a slice -/
def PR (g : GM) (l : LM) (a a' : Addr) : Prop := AR g a a' ∨ LR l a a'
theorem PR.spot {g : GM} {l : LM} {a a' : Addr} (h : PR g l a a') : a'.spot = none := by
  rcases h with h | h
  · exact h.2.1
  · exact h.2.1
theorem PR.vr {g : GM} {l : LM} {a a' : Addr} (h : PR g l a a') : VR g l (.pointer (some a)) (.pointer (some a')) := by
  rcases h with h | h
  · exact .g (.ptr h)
  · exact .ptr h
theorem VR.ptr_inv {g : GM} {l : LM} {a : Addr} {x' : Value} (h : VR g l (.pointer (some a)) x') : ∃ a', x' = .pointer (some a') ∧ PR g l a a' := by
  cases h with
  | g h => cases h with | ptr h => exact ⟨_, rfl, .inl h⟩
  | ptr h => exact ⟨_, rfl, .inr h⟩
theorem AR.add {g : GM} {a a' : Addr} (h : AR g a a') (n : Nat) : AR g (addA a n) (a'.add n) := by
  obtain ⟨p, q, i, hi, r, s⟩ := h
  rw [add_none q]
  exact ⟨p, rfl, i, hi, r, by simp only [addA]; omega⟩
theorem LR.add {l : LM} {a a' : Addr} (h : LR l a a') (n : Nat) : LR l (addA a n) (a'.add n) := by
  obtain ⟨p, q, r, s⟩ := h
  rw [add_none q]
  exact ⟨p, rfl, r, by simp only [addA]; omega⟩
theorem PR.add {g : GM} {l : LM} {a a' : Addr} (h : PR g l a a') (n : Nat) : PR g l (addA a n) (a'.add n) :=
  h.imp (fun h => h.add n) (fun h => h.add n)

/-- A slice that may be empty without a place. -/
def ER (g : GM) (l : LM) (a a' : Addr) : Prop := (a.spot = none ∧ a'.spot = none ∧ ∃ i, g a.block = some i ∧ a'.block = i.blk) ∨ (a.spot ≠ none ∧ a'.spot = none ∧ l a.block = some a'.block)
theorem ER.vr {g : GM} {l : LM} {a a' : Addr} (h : ER g l a a') {c : Nat} (hc : capU ≤ c) : VR g l (.slice (some a) 0 c) (.slice (some a') 0 0) := by
  rcases h with ⟨p, q, i, hi, hb⟩ | h
  · exact .g (.slcE hi ⟨p, q, hb⟩ 0 rfl c hc)
  · exact .slcE h rfl hc
theorem PR.er {g : GM} {l : LM} {a a' : Addr} (h : PR g l a a') (n : Nat) : ER g l (addA a n) a' := by
  rcases h with ⟨p, q, i, hi, r, s⟩ | ⟨p, q, r, s⟩
  · exact .inl ⟨p, q, i, hi, r⟩
  · exact .inr ⟨p, q, r⟩
theorem ER.add {g : GM} {l : LM} {a a' : Addr} (h : ER g l a a') (n : Nat) : ER g l (addA a n) a' := h

inductive SR (g : GM) (l : LM) (a a' : Addr) (n c c' : Nat) : Prop where
  | g (h : AR g a a') (hc : CapR g a a' n c c')
  | l (h : LR l a a') (hc : (c < capU ∧ c' = c) ∨ (capU ≤ c ∧ n ≤ c'))
  | e (h : ER g l a a') (hn : n = 0) (hc : capU ≤ c) (hc' : c' = 0)
theorem VR.slc_inv {g : GM} {l : LM} {a : Addr} {n c : Nat} {x' : Value} (h : VR g l (.slice (some a) n c) x') : ∃ a' c', x' = .slice (some a') n c' ∧ SR g l a a' n c c' := by
  cases h with
  | g h => cases h with
    | slc h k => exact ⟨_, _, rfl, .g h k⟩
    | slcE h k _ hb _ hc => exact ⟨_, _, rfl, .e (.inl ⟨k.1, k.2.1, _, h, k.2.2⟩) hb hc hb⟩
  | slc h k => exact ⟨_, _, rfl, .l h k⟩
  | slcE h hb hc => exact ⟨_, _, rfl, .e (.inr h) hb hc hb⟩
theorem SR.pr {g : GM} {l : LM} {a a' : Addr} {n c c' : Nat} (h : SR g l a a' n c c') (hn : 0 < n) : PR g l a a' := by
  cases h with
  | g h _ => exact .inl h
  | l h _ => exact .inr h
  | e _ h _ _ => omega
theorem SR.spot {g : GM} {l : LM} {a a' : Addr} {n c c' : Nat} (h : SR g l a a' n c c') : a'.spot = none := by
  cases h with
  | g h _ => exact h.2.1
  | l h _ => exact h.2.1
  | e h _ _ _ => rcases h with h | h
                 · exact h.2.1
                 · exact h.2.1
theorem SR.cap {g : GM} {l : LM} {a a' : Addr} {n c c' : Nat} (h : SR g l a a' n c c') (hc : c < capU) : c' = c ∧ PR g l a a' := by
  cases h with
  | g h k => rcases k with k | ⟨k, e, _⟩
             · exact ⟨k.2, .inl h⟩
             · omega
  | l h k => rcases k with k | k
             · exact ⟨k.2, .inr h⟩
             · omega
  | e _ _ h _ => omega
theorem VR.slcN_inv {g : GM} {l : LM} {n c : Nat} {x' : Value} (h : VR g l (.slice none n c) x') : x' = .slice none n c := by
  cases h with | g h => cases h; rfl
theorem VR.agg_inv {g : GM} {l : LM} {cs : Array Value} {x' : Value} (h : VR g l (.agg cs) x') : ∃ cs', x' = .agg ⟨cs'⟩ ∧ VGL g cs.toList cs' := by
  cases h with | g h => cases h with | agg h => exact ⟨_, rfl, h⟩
theorem VR.tuple_inv {g : GM} {l : LM} {cs : Array Value} {x' : Value} (h : VR g l (.tuple cs) x') : ∃ cs', x' = .tuple ⟨cs'⟩ ∧ VGL g cs.toList cs' := by
  cases h with | g h => cases h with | tuple h => exact ⟨_, rfl, h⟩
theorem VR.nilI_inv {g : GM} {l : LM} {x' : Value} (h : VR g l .nilIface x') : x' = .nilIface := by
  cases h with | g h => cases h; rfl
theorem VR.iface_inv {g : GM} {l : LM} {t : TypeId} {v x' : Value} (h : VR g l (.iface t v) x') : ∃ v', x' = .iface t v' ∧ VG g v v' := by
  cases h with | g h => cases h with | iface _ h => exact ⟨_, rfl, h⟩

/-! ### Places -/
theorem idxAddrK_run {t : TypeId} {x i : Value} {K : Value → Option α} {r : α} (h : idxAddrK P t x i K = some r) :
    ∃ v, K v = some r ∧ ∀ (g : GM) (l : LM) (x' i' : Value) (w : World), VR g l x x' → VR g l i i' → ∃ v', (Instr.indexAt t x' i').run P w = .ok v' w ∧ VR g l v v' := by
  unfold idxAddrK at h
  cases i <;> first | (cases h; done) | skip
  rename_i k n
  dsimp only at h
  split at h
  · rename_i len e hu
    split at h
    · rename_i a
      split at h
      · rename_i sz hsz
        split at h
        · rename_i hn
          refine ⟨_, h, fun g l x' i' w hx hi => ?_⟩
          obtain ⟨a', rfl, ha⟩ := hx.ptr_inv
          rw [hi.int]
          refine ⟨.pointer (some (a'.add (n.toNat * sz))), ?_, (ha.add _).vr⟩
          simp [Instr.indexAt, asIntOf, run_underlying hu, Instr.sureAddr, hn, szOf_run hsz]
        · cases h
      · cases h
    · cases h
  · rename_i e hu
    split at h
    · rename_i a len c
      split at h
      · rename_i sz hsz
        split at h
        · rename_i hn
          refine ⟨_, h, fun g l x' i' w hx hi => ?_⟩
          obtain ⟨a', c', rfl, ha⟩ := hx.slc_inv
          rw [hi.int]
          refine ⟨.pointer (some (a'.add (n.toNat * sz))), ?_, ((ha.pr (by omega)).add _).vr⟩
          simp [Instr.indexAt, asIntOf, run_underlying hu, hn, szOf_run hsz]
        · cases h
      · cases h
    · cases h
  · cases h

theorem idxK_run {t : TypeId} {x i : Value} {K : Value → Option α} {r : α} (h : idxK P t x i K = some r) :
    ∃ v, K v = some r ∧ ∀ (g : GM) (l : LM) (x' i' : Value) (w : World), VR g l x x' → VR g l i i' → ∃ v', (Instr.index t x' i').run P w = .ok v' w ∧ VR g l v v' := by
  unfold idxK at h
  cases i <;> first | (cases h; done) | skip
  rename_i k n
  dsimp only at h
  split at h
  · rename_i len e hu
    split at h
    · rename_i cs
      split at h
      · rename_i sz hsz
        split at h
        · rename_i hn
          split at h
          · rename_i v hv
            refine ⟨_, h, fun g l x' i' w hx hi => ?_⟩
            obtain ⟨cs', rfl, hc⟩ := hx.agg_inv
            rw [hi.int]
            obtain ⟨v', hr, hg⟩ := partV_run hv hc w
            refine ⟨v', ?_, .g hg⟩
            simp [Instr.index, asIntOf, run_underlying hu, hn, szOf_run hsz, hr]
          · cases h
        · cases h
      · cases h
    · cases h
  · rename_i hu
    split at h
    · rename_i b
      split at h
      · rename_i hn
        split at h
        · rename_i c hc
          refine ⟨_, h, fun g l x' i' w hx hi => ?_⟩
          rw [hi.int, hx.string]
          refine ⟨.int .u8 c.toNat, ?_, .g (.int _ _)⟩
          have hb : b[n.toNat]? = some c := by
            rw [lget_eq] at hc
            have hlt : n.toNat < b.size := by omega
            rw [ByteArray.getElem?_lt' b _ hlt]
            simp only [ByteArray.getElem_eq_getElem_data, Option.some.injEq]
            have : b.data.toList[n.toNat]? = some b.data[n.toNat] := by simp
            rw [this] at hc
            exact Option.some.inj hc
          simp [Instr.index, asIntOf, run_underlying hu, hn.1, hb]
        · cases h
      · cases h
    · cases h
  · cases h

theorem oField_run {t : TypeId} {x : Value} {f : Nat} {s : Env} {H : Hp} {K : Value → Env → Hp → Option α} {r : α} (h : oField P t x f s H K = some r) :
    ∃ v, K v s H = some r ∧ ∀ (g : GM) (l : LM) (x' : Value) (w : World), VR g l x x' → ∃ v', (Instr.field t x' f).run P w = .ok v' w ∧ VR g l v v' := by
  unfold oField at h
  split at h
  · rename_i fs hu
    split at h
    · split at h
      · rename_i fd hf
        split at h
        · rename_i v hv
          refine ⟨_, h, fun g l x' w hx => ?_⟩
          obtain ⟨cs', rfl, hc⟩ := hx.agg_inv
          obtain ⟨v', hr, hg⟩ := partV_run hv hc w
          refine ⟨v', ?_, .g hg⟩
          have hf' : fs[f]? = some fd := by rw [lget_eq] at hf; simpa using hf
          simp [Instr.field, asAgg, run_underlying hu, hf', hr]
        · cases h
      · cases h
    · cases h
  · cases h

theorem oFieldAddr_run {t : TypeId} {x : Value} {f : Nat} {s : Env} {H : Hp} {K : Value → Env → Hp → Option α} {r : α} (h : oFieldAddr P t x f s H K = some r) :
    ∃ v, K v s H = some r ∧ ∀ (g : GM) (l : LM) (x' : Value) (w : World), VR g l x x' → ∃ v', (Instr.fieldAt t x' f).run P w = .ok v' w ∧ VR g l v v' := by
  unfold oFieldAddr at h
  split at h
  · rename_i fs hu
    split at h
    · split at h
      · rename_i fd hf
        split at h
        · rename_i sz hsz
          refine ⟨_, h, fun g l x' w hx => ?_⟩
          obtain ⟨a', rfl, ha⟩ := hx.ptr_inv
          refine ⟨.pointer (some (a'.add fd.offset)), ?_, (ha.add _).vr⟩
          have hf' : fs[f]? = some fd := by rw [lget_eq] at hf; simpa using hf
          simp [Instr.fieldAt, fieldPlace, Instr.sureAddr, run_underlying hu, hf', szOf_run hsz]
        · cases h
      · cases h
    · cases h
  · cases h

theorem oExtract_run {x : Value} {i : Nat} {s : Env} {H : Hp} {K : Value → Env → Hp → Option α} {r : α} (h : oExtract x i s H K = some r) :
    ∃ v, K v s H = some r ∧ ∀ (g : GM) (l : LM) (x' : Value) (w : World), VR g l x x' → ∃ v', (Instr.extract x' i).run P w = .ok v' w ∧ VR g l v v' := by
  unfold oExtract at h
  split at h
  · split at h
    · rename_i v hv
      refine ⟨_, h, fun g l x' w hx => ?_⟩
      obtain ⟨cs', rfl, hc⟩ := hx.tuple_inv
      rw [lget_eq] at hv
      obtain ⟨v', hr, hg⟩ := hc.get hv
      refine ⟨v', ?_, .g hg⟩
      have : (⟨cs'⟩ : Array Value)[i]? = some v' := by simpa using hr
      simp [Instr.extract, this]
    · cases h
  · cases h

theorem oNilCheck_run {x : Value} {s : Env} {H : Hp} {K : Value → Env → Hp → Option α} {r : α} (h : oNilCheck x s H K = some r) :
    K x s H = some r ∧ ∀ (g : GM) (l : LM) (x' : Value), VR g l x x' → (∃ a, x' = .pointer (some a)) ∨ (∃ f p c, x' = .func (.func f) p c) ∨ ∃ t v, x' = .iface t v := by
  unfold oNilCheck at h
  split at h
  · exact ⟨h, fun g l x' hx => let ⟨a, e, _⟩ := hx.ptr_inv; .inl ⟨a, e⟩⟩
  · split at h
    · refine ⟨h, fun g l x' hx => ?_⟩
      cases hx with | g hx => cases hx; exact .inr (.inl ⟨_, _, _, rfl⟩)
    · cases h
  · exact ⟨h, fun g l x' hx => let ⟨a, e, _⟩ := hx.iface_inv; .inr (.inr ⟨_, a, e⟩)⟩
  · cases h

theorem oMakeIface_run {t : TypeId} {x : Value} {s : Env} {H : Hp} {K : Value → Env → Hp → Option α} {r : α} (h : oMakeIface P t x s H K = some r) :
    ∃ v, K v s H = some r ∧ ∀ (g : GM) (l : LM) (x' : Value) (w : World), VR g l x x' → ∃ v', (Instr.makeInterface t x').run P w = .ok v' w ∧ VR g l v v' := by
  unfold oMakeIface at h
  split at h
  · cases h
  · rename_i d hni hu
    split at h
    · rename_i hn
      refine ⟨_, h, fun g l x' w hx => ⟨.iface t x', ?_, .g (.iface t (hx.nl hn))⟩⟩
      simp only [Instr.makeInterface, Sem.run_bind, run_underlying hu, Result.andThen_ok]; rfl
    · cases h
  · cases h

theorem VRL.nl {g : GM} {l : LM} : ∀ {xs xs' : List Value}, xs.all nl = true → (xs.length = xs'.length) → (∀ (n : Nat) (v : Value), xs[n]? = some v → ∃ v' : Value, xs'[n]? = some v' ∧ VR g l v v') → VGL g xs xs'
  | [], [], _, _, _ => .nil
  | [], _ :: _, _, h, _ => by simp at h
  | _ :: _, [], _, h, _ => by simp at h
  | x :: xs, x' :: xs', hn, hl, h => by
    simp only [List.all_cons, Bool.and_eq_true] at hn
    obtain ⟨v', e, hv⟩ := h 0 x rfl
    simp at e; subst e
    refine .cons (hv.nl hn.1) (VRL.nl (l := l) hn.2 (by simpa using hl) fun n v e => ?_)
    obtain ⟨v', e', hv⟩ := h (n + 1) v (by simpa using e)
    exact ⟨v', by simpa using e', hv⟩

theorem oMakeFunc_run {f : Fn} {first captured : List Value} {s : Env} {H : Hp} {K : Value → Env → Hp → Option α} {r : α} (h : oMakeFunc f first captured s H K = some r) :
    ∃ v, K v s H = some r ∧ first.all nl = true ∧ captured.all nl = true ∧ ∀ (g : GM) (l : LM) (p c : List Value) (w : World), VGL g first p → VGL g captured c →
      ∃ v', (Instr.makeFunc f ⟨p⟩ ⟨c⟩).run P w = .ok v' w ∧ VR g l v v' := by
  unfold oMakeFunc at h
  split at h
  · split at h
    · rename_i hn
      simp only [Bool.and_eq_true] at hn
      exact ⟨_, h, hn.1, hn.2, fun g l p c w hp hc => ⟨_, rfl, .g (.func hp hc)⟩⟩
    · cases h
  · cases h

theorem unc_vr {g : GM} {agg : Bool} {z z' : List Value} {v : Value} (h : unc agg z = some v) (hz : VGL g z z') : ∃ v', unc agg z' = some v' ∧ VG g v v' := by
  unfold unc at h
  split at h
  · cases h; exact ⟨_, rfl, .agg hz⟩
  · split at h
    · cases h
      cases hz with
      | cons a b => cases b; exact ⟨_, rfl, a⟩
    · cases h

end Go.Ev
end
section
set_option linter.unusedSimpArgs false
set_option linter.unusedVariables false
set_option maxHeartbeats 1000000
namespace Go.Ev
variable {P : Program} {T : Tab} {α : Type}

theorem VGL.of_get {g : GM} : ∀ {l l' : List Value}, l.length = l'.length → (∀ (n : Nat) (v v' : Value), l[n]? = some v → l'[n]? = some v' → VG g v v') → VGL g l l'
  | [], [], _, _ => .nil
  | [], _ :: _, h, _ => by simp at h
  | _ :: _, [], h, _ => by simp at h
  | v :: l, v' :: l', hl, h => .cons (h 0 v v' rfl rfl) (VGL.of_get (by simpa using hl) fun n a b ea eb => h (n + 1) a b (by simpa using ea) (by simpa using eb))

theorem lay_some {c : List Value} {off : Nat} {vs c' : List Value} (h : lay c off vs = some c') : off + vs.length ≤ c.length ∧ c'.length = c.length ∧
    ∀ k : Nat, c'[k]? = if off ≤ k ∧ k < off + vs.length then vs[k - off]? else c[k]? := by
  unfold lay at h
  split at h
  · rename_i hb
    have hb : off + vs.length ≤ c.length := by simpa using hb
    simp only [Option.some.injEq] at h
    subst h
    refine ⟨hb, by simp; omega, fun k => ?_⟩
    have ht : (c.take off).length = off := by simp; omega
    by_cases h1 : k < off
    · rw [if_neg (by omega), List.getElem?_append_left (by omega)]
      simp [List.getElem?_take, h1]
    · rw [List.getElem?_append_right (by omega), ht]
      by_cases h2 : k < off + vs.length
      · rw [if_pos ⟨by omega, h2⟩, List.getElem?_append_left (by omega)]
      · rw [if_neg (by omega), List.getElem?_append_right (by omega), List.getElem?_drop]
        congr 1; omega
  · cases h

theorem layA_vgl {g : GM} {c : List Value} {off : Nat} {vs r : List Value} (h : lay c off vs = some r) {c' : Array Value} {vs' : List Value} (hc : VGL g c c'.toList) (hv : VGL g vs vs') : VGL g r (layA c' off vs').toList := by
  obtain ⟨hb, hl, hg⟩ := lay_some h
  have e1 := hc.length
  have e2 := hv.length
  simp only [Array.length_toList] at e1
  refine VGL.of_get (by simp [layA_size]; omega) fun n v v' ea eb => ?_
  rw [hg n] at ea
  simp only [Array.getElem?_toList] at eb
  rw [layA_get vs' c' off n (by omega)] at eb
  rw [← e2] at eb
  split at ea
  · rename_i hn
    rw [if_pos hn] at eb
    obtain ⟨u, hu, hr⟩ := hv.get ea
    rw [hu] at eb; cases eb; exact hr
  · rename_i hn
    rw [if_neg hn] at eb
    obtain ⟨u, hu, hr⟩ := hc.get ea
    simp only [Array.getElem?_toList] at hu
    rw [hu] at eb; cases eb; exact hr

theorem foldl_layA : ∀ (vs : List Value) (cells : Array Value) (off j : Nat),
    ((vs.zipIdx j).foldl (fun cs (p : Value × Nat) => cs.setIfInBounds (off + p.2) p.1) cells) = layA cells (off + j) vs
  | [], _, _, _ => rfl
  | v :: vs, cells, off, j => by
    simp only [List.zipIdx_cons, List.foldl_cons, layA]
    rw [foldl_layA vs _ off (j + 1)]
    congr 1
theorem fill_fold (v : Value) (cells : Array Value) (off : Nat) :
    (v.cells.zipIdx.foldl (fun cs (c, j) => cs.setIfInBounds (off + j) c) cells) = layA cells off v.cells.toList := by
  rw [← Array.foldl_toList]
  have : v.cells.zipIdx.toList = v.cells.toList.zipIdx 0 := by simp
  rw [this]
  exact foldl_layA v.cells.toList cells off 0

/-- Parts that stand for parts. -/
inductive PL (g : GM) (l : LM) : List (Nat × Value) → List (Nat × Value) → Prop where
  | nil : PL g l [] []
  | cons {i : Nat} {v v' : Value} {r r' : List (Nat × Value)} (h : VR g l v v') (k : PL g l r r') : PL g l ((i, v) :: r) ((i, v') :: r')

theorem nl_cells {v : Value} (h : (vcells v).all nl = true) : nl v = true := by
  cases v <;> first | rfl | (simpa [vcells] using h)
theorem VR.cells {g : GM} {l : LM} {v v' : Value} (h : VR g l v v') (ho : (vcells v).all one = true) (hn : (vcells v).all Ev.nl = true) : VGL g (vcells v) v'.cells.toList :=
  (h.nl (nl_cells hn)).cells ho

theorem fillC_run {g : GM} {l : LM} {place : Nat → Option (Nat × Nat)} : ∀ {parts parts' : List (Nat × Value)}, PL g l parts parts' → ∀ {cs c : List Value} {cs' : Array Value},
    fillC place cs parts = some c → VGL g cs cs'.toList → ∃ c', Instr.fill place cs' parts' = some c' ∧ VGL g c c'.toList
  | _, _, .nil, cs, c, cs', h, hc => by
    simp only [fillC, Option.some.injEq] at h; subst h
    exact ⟨cs', rfl, hc⟩
  | (i, v) :: _, (_, v') :: _, .cons hv k, cs, c, cs', h, hc => by
    simp only [fillC] at h
    split at h
    · cases h
    · rename_i off n hp
      split at h
      · cases h
      · rename_i hb
        simp only [Bool.and_eq_true] at hb
        have hb' := hb
        split at h
        · rename_i cs₁ hl
          have hcells := hv.cells hb'.1.2 hb'.2
          have hlen := hcells.length
          have hn : (vcells v).length = n := by simpa using hb'.1.1
          obtain ⟨hle, _, _⟩ := lay_some hl
          have e1 := hc.length
          simp only [Array.length_toList] at e1 hlen
          obtain ⟨c', hf, hg⟩ := fillC_run k h (layA_vgl hl hc hcells)
          refine ⟨c', ?_, hg⟩
          rw [Instr.fill]
          simp only [hp]
          rw [if_neg (by simp; omega), fill_fold]
          exact hf
        · cases h

theorem places_some : ∀ (fs : List Field), fs.all (fun f => (szOf P f.type).isSome) = true →
    ∃ places : List (Nat × Nat), fs.mapM (fun f => (P.info? f.type).map fun i => (f.offset, i.size)) = some places ∧
      ∀ i : Nat, places[i]? = match fs[i]? with | some f => (match szOf P f.type with | some n => some (f.offset, n) | none => none) | none => none
  | [], _ => ⟨[], rfl, fun i => by simp⟩
  | f :: fs, h => by
    simp only [List.all_cons, Bool.and_eq_true] at h
    obtain ⟨pl, hp, hg⟩ := places_some fs h.2
    obtain ⟨n, hn⟩ := Option.isSome_iff_exists.1 h.1
    obtain ⟨i, hi, hs⟩ := szOf_info hn
    refine ⟨(f.offset, n) :: pl, by simp [List.mapM_cons, hi, hp, hs], fun k => ?_⟩
    cases k with
    | zero => simp [hn]
    | succ k => simpa using hg k
theorem oBuild_run {t : TypeId} {parts : List (Nat × Value)} {s : Env} {H : Hp} {K : Value → Env → Hp → Option α} {r : α} (h : oBuild P t parts s H K = some r) :
    ∃ v, K v s H = some r ∧ ∀ (g : GM) (l : LM) (parts' : List (Nat × Value)) (w : World), PL g l parts parts' → ∃ v', (Instr.build t ⟨parts'⟩).run P w = .ok v' w ∧ VR g l v v' := by
  unfold oBuild at h
  split at h
  · cases h
  · rename_i z hz
    obtain ⟨i, zv, hi, hiz, hzg⟩ := zeroC_info hz
    split at h
    · rename_i fs hu
      split at h
      · rename_i hall
        split at h
        · rename_i c hf
          refine ⟨_, h, fun g l parts' w hp => ?_⟩
          obtain ⟨pl, hpl, hplg⟩ := places_some fs.toList hall
          have hfp : fldPlace P fs = fun i => (pl.toArray[i]? : Option (Nat × Nat)) := by
            funext i
            rw [List.getElem?_toArray, hplg i]
            unfold fldPlace
            rw [lget_eq]
            cases fs.toList[i]? <;> rfl
          rw [hfp] at hf
          obtain ⟨c', hr, hg⟩ := fillC_run hp hf (hzg g)
          refine ⟨.agg c', ?_, .g (.agg (l' := c'.toList) hg)⟩
          refine run_build w t ⟨parts'⟩ c' ?_
          unfold Program.built
          simp only [hi, hu, hiz, hpl]
          exact hr
        · cases h
      · cases h
    · rename_i n e hu
      split at h
      · rename_i n hsz
        split at h
        · rename_i c hf
          refine ⟨_, h, fun g l parts' w hp => ?_⟩
          obtain ⟨j, hj, hjs⟩ := szOf_info hsz
          obtain ⟨c', hr, hg⟩ := fillC_run hp hf (hzg g)
          refine ⟨.agg c', ?_, .g (.agg (l' := c'.toList) hg)⟩
          refine run_build w t ⟨parts'⟩ c' ?_
          unfold Program.built
          simp only [hi, hu, hiz, hj]
          simp only [hjs]
          exact hr
        · cases h
      · cases h
    · cases h

theorem minmax_run {mx : Bool} : ∀ {l : List Value} {x v : Value}, minmax mx x l = some v → ∀ {g : GM} {lm : LM} {x' : Value} {l' : List Value} (w : World), VR g lm x x' → l.length = l'.length →
    (∀ (n : Nat) (u : Value), l[n]? = some u → ∃ u' : Value, l'[n]? = some u' ∧ VR g lm u u') →
    ∃ v', (l'.foldlM (match mx with | true => Builtin.max2 | false => Builtin.min2) x').run P w = .ok v' w ∧ VR g lm v v'
  | [], x, v, h, g, lm, x', [], w, hx, _, _ => by
    simp only [minmax, Option.some.injEq] at h; subst h
    exact ⟨x', by cases mx <;> rfl, hx⟩
  | [], _, _, _, _, _, _, _ :: _, _, _, hl, _ => by simp at hl
  | _ :: _, _, _, _, _, _, _, [], _, _, hl, _ => by simp at hl
  | y :: l, x, v, h, g, lm, x', y' :: l', w, hx, hl, hr => by
    obtain ⟨u, e, hy⟩ := hr 0 y rfl
    simp at e; subst e
    unfold minmax at h
    split at h
    · rename_i e; cases e
    · rename_i k a k' b l0 e
      cases e
      split at h
      · rename_i hk
        have hk := of_decide_eq_true hk
        subst hk
        rw [hx.int, hy.int]
        have hr' : ∀ (n : Nat) (u : Value), l[n]? = some u → ∃ u' : Value, l'[n]? = some u' ∧ VR g lm u u' := fun n u e => by have := hr (n + 1) u (by simpa using e); simpa using this
        have hl' : l.length = l'.length := by simpa using hl
        cases mx
        · obtain ⟨v', h1, h2⟩ := minmax_run h w (g := g) (lm := lm) (.g (.int k _)) hl' hr'
          exact ⟨v', by rw [List.foldlM_cons]; simp only [Builtin.min2, Sem.run_bind]; exact h1, h2⟩
        · obtain ⟨v', h1, h2⟩ := minmax_run h w (g := g) (lm := lm) (.g (.int k _)) hl' hr'
          exact ⟨v', by rw [List.foldlM_cons]; simp only [Builtin.max2, Sem.run_bind]; exact h1, h2⟩
      · cases h
    · cases h

theorem sliceBound_ok {k : IntKind} {n : Int} {y : Nat} (h : 0 ≤ n ∧ n ≤ y) (c : BoundsCode) (w : World) : (Instr.sliceBound (.int k n) y c).run P w = .ok n.toNat w := by
  simp [Instr.sliceBound, asIntOf, h]

/-- An operand that may be missing. -/
inductive OR (g : GM) (l : LM) : Option Value → Option Value → Prop where
  | none : OR g l none none
  | some {v v' : Value} (h : VR g l v v') : OR g l (some v) (some v')

theorem bndK_run {len cap : Nat} {lo hi mx : Option Value} {K : Nat → Nat → Nat → Option α} {r : α} (h : bndK len cap lo hi mx K = some r) :
    ∃ a b m, K a b m = some r ∧ a ≤ b ∧ (mx.isSome = true → b ≤ m) ∧ (mx = none → m = cap) ∧ (mx.isSome = true → m ≤ cap) ∧ (mx = none → hi = none → b = len) ∧ (mx = none → hi.isSome = true → b ≤ cap) ∧ ∀ (g : GM) (l : LM) (lo' hi' mx' : Option Value) (w : World) (isS : Bool) (cap' : Nat),
      OR g l lo lo' → OR g l hi hi' → OR g l mx mx' → cap ≤ cap' → (Instr.sliceBounds isS len cap' lo' hi' mx').run P w = .ok (a, b, if mx.isSome then m else cap') w := by
  unfold bndK at h
  split at h
  · split at h
    · split at h
      · rename_i m _ _ h' hm
        split at h
        · rename_i hh
          split at h
          · refine ⟨_, _, _, h, by omega, by simp; omega, by simp, by simp; omega, by simp, by simp, ?_⟩
            intro g l lo' hi' mx' w isS cap' h1 h2 h3 hc
            cases h1; cases h2 with | some h2 => cases h3 with | some h3 =>
            rw [h2.int, h3.int]
            simp only [Instr.sliceBounds, Sem.run_bind]
            rw [sliceBound_ok (by omega)]
            simp only [Result.andThen_ok]
            rw [sliceBound_ok (by omega)]
            simp
          · rename_i l0
            split at h
            · rename_i hl
              refine ⟨_, _, _, h, by omega, by simp; omega, by simp, by simp; omega, by simp, by simp, ?_⟩
              intro g l lo' hi' mx' w isS cap' h1 h2 h3 hc
              cases h1 with | some h1 => cases h2 with | some h2 => cases h3 with | some h3 =>
              rw [h1.int, h2.int, h3.int]
              simp only [Instr.sliceBounds, Sem.run_bind]
              rw [sliceBound_ok (by omega)]
              simp only [Result.andThen_ok]
              rw [sliceBound_ok (by omega)]
              simp only [Result.andThen_ok]
              rw [sliceBound_ok (by omega)]
              simp
            · cases h
          · cases h
        · cases h
      · cases h
    · cases h
  · cases h
  · split at h
    · split at h
      · refine ⟨_, _, _, h, by omega, by simp, by simp, by simp, by simp, by simp, ?_⟩
        intro g l lo' hi' mx' w isS cap' h1 h2 h3 hc
        cases h1; cases h2; cases h3
        simp [Instr.sliceBounds]
      · rename_i l0
        split at h
        · rename_i hl
          refine ⟨_, _, _, h, by omega, by simp, by simp, by simp, by simp, by simp, ?_⟩
          intro g l lo' hi' mx' w isS cap' h1 h2 h3 hc
          cases h2; cases h3; cases h1 with | some h1 =>
          rw [h1.int]
          simp only [Instr.sliceBounds, Sem.run_bind, Sem.run_pure, Result.andThen_ok]
          rw [sliceBound_ok (by omega)]
          simp
        · cases h
      · cases h
    · split at h
      · rename_i hh
        split at h
        · refine ⟨_, _, _, h, by omega, by simp, by simp, by simp, by simp, by simp; omega, ?_⟩
          intro g l lo' hi' mx' w isS cap' h1 h2 h3 hc
          cases h1; cases h3; cases h2 with | some h2 =>
          rw [h2.int]
          simp only [Instr.sliceBounds, Sem.run_bind, Sem.run_pure, Result.andThen_ok]
          rw [sliceBound_ok (by omega)]
          simp
        · rename_i l0
          split at h
          · rename_i hl
            refine ⟨_, _, _, h, by omega, by simp, by simp, by simp, by simp, by simp; omega, ?_⟩
            intro g l lo' hi' mx' w isS cap' h1 h2 h3 hc
            cases h3; cases h1 with | some h1 => cases h2 with | some h2 =>
            rw [h1.int, h2.int]
            simp only [Instr.sliceBounds, Sem.run_bind, Sem.run_pure, Result.andThen_ok]
            rw [sliceBound_ok (by omega)]
            simp only [Result.andThen_ok]
            rw [sliceBound_ok (by omega)]
            simp
          · cases h
        · cases h
      · cases h
    · cases h

end Go.Ev
end
section
set_option linter.unusedSimpArgs false
set_option linter.unusedVariables false
set_option maxHeartbeats 1000000
namespace Go.Ev
variable {P : Program} {T : Tab} {α : Type}

theorem PR.slc {g : GM} {l : LM} {a a' : Addr} (h : PR g l a a') (n : Nat) {c : Nat} (hc : c < capU) : VR g l (.slice (some a) n c) (.slice (some a') n c) := by
  rcases h with h | h
  · exact .g (.slc h (.inl ⟨hc, rfl⟩))
  · exact .slc h (.inl ⟨hc, rfl⟩)
theorem PR.ite {g : GM} {l : LM} {a a' : Addr} (h : PR g l a a') (m k sz : Nat) : PR g l (if m = k then a else addA a (k * sz)) (if m = k then a' else a'.add (k * sz)) := by
  split
  · exact h
  · exact h.add _

theorem sliceK_run {t : TypeId} {x : Value} {lo hi mx : Option Value} {s : Env} {H : Hp} {K : Value → Env → Hp → Option α} {r : α} (h : sliceK P t x lo hi mx s H K = some r) :
    ∃ v, K v s H = some r ∧ ∀ (g : GM) (l : LM) (x' : Value) (lo' hi' mx' : Option Value) (w : World), VR g l x x' → OR g l lo lo' → OR g l hi hi' → OR g l mx mx' →
      ∃ v', (Instr.sliceAt t x' lo' hi' mx').run P w = .ok v' w ∧ VR g l v v' := by
  unfold sliceK at h
  split at h
  · -- an array
    rename_i n e hu
    split at h
    · rename_i a
      split at h
      · rename_i sz hsz
        split at h
        · rename_i hn
          have hn := blt_iff.1 hn
          obtain ⟨p, q, m, hK, h1, h2, h3, h4, h5, h6, hb⟩ := bndK_run (P := P) h
          refine ⟨_, hK, fun g l x' lo' hi' mx' w hx r1 r2 r3 => ?_⟩
          obtain ⟨a', rfl, ha⟩ := hx.ptr_inv
          have hb := hb g l lo' hi' mx' w false n r1 r2 r3 (Nat.le_refl _)
          have hm : (if mx.isSome then m else n) = m ∧ m ≤ n := by
            cases mx with
            | none => exact ⟨by simpa using (h3 rfl).symm, Nat.le_of_eq (h3 rfl)⟩
            | some _ => exact ⟨by simp, h4 rfl⟩
          rw [hm.1] at hb
          refine ⟨.slice (some (if m = p then a' else a'.add (p * sz))) (q - p) (m - p), ?_, (ha.ite m p sz).slc _ (by omega)⟩
          simp [Instr.sliceAt, run_underlying hu, Instr.sureAddr, hb, szOf_run hsz]
        · cases h
      · cases h
    · cases h
  · -- a text
    rename_i hu
    split at h
    · rename_i b
      split at h
      · cases h
      · obtain ⟨p, q, m, hK, h1, h2, h3, h4, h5, h6, hb⟩ := bndK_run (P := P) h
        refine ⟨_, hK, fun g l x' lo' hi' mx' w hx r1 r2 r3 => ?_⟩
        rw [hx.string]
        cases r3
        have hb := hb g l lo' hi' none w false b.size r1 r2 .none (Nat.le_refl _)
        refine ⟨.string (b.extract p q), ?_, by rw [bSub_eq]; exact .g (.string _)⟩
        simp only [Instr.sliceAt, Instr.slice, Sem.run_bind, run_underlying hu, Result.andThen_ok, Option.isSome_none, Bool.false_eq_true, if_false, hb]
        rfl
    · cases h
  · -- a slice
    rename_i e hu
    split at h
    · rename_i len cap
      split at h
      · rename_i sz hsz
        obtain ⟨p, q, m, hK, h1, h2, h3, h4, h5, h6, hb⟩ := bndK_run (P := P) h
        refine ⟨_, hK, fun g l x' lo' hi' mx' w hx r1 r2 r3 => ?_⟩
        rw [hx.slcN_inv]
        have hb := hb g l lo' hi' mx' w true cap r1 r2 r3 (Nat.le_refl _)
        have hm : (if mx.isSome then m else cap) = m := by
          cases mx with
          | none => simpa using (h3 rfl).symm
          | some _ => simp
        rw [hm] at hb
        refine ⟨.slice none (q - p) (m - p), ?_, .g (.slcN _ _)⟩
        simp [Instr.sliceAt, Instr.slice, run_underlying hu, hb, szOf_run hsz]
      · cases h
    · rename_i a len cap
      split at h
      · rename_i sz hsz
        split at h
        · rename_i hc
          have hc := blt_iff.1 hc
          obtain ⟨p, q, m, hK, h1, h2, h3, h4, h5, h6, hb⟩ := bndK_run (P := P) h
          refine ⟨_, hK, fun g l x' lo' hi' mx' w hx r1 r2 r3 => ?_⟩
          obtain ⟨a', c', rfl, ha⟩ := hx.slc_inv
          obtain ⟨e1, hp⟩ := ha.cap hc
          subst e1
          have hb := hb g l lo' hi' mx' w true c' r1 r2 r3 (Nat.le_refl _)
          have hm : (if mx.isSome then m else c') = m ∧ m ≤ c' := by
            cases mx with
            | none => exact ⟨by simpa using (h3 rfl).symm, Nat.le_of_eq (h3 rfl)⟩
            | some _ => exact ⟨by simp, h4 rfl⟩
          rw [hm.1] at hb
          refine ⟨.slice (some (if m = p then a' else a'.add (p * sz))) (q - p) (m - p), ?_, (hp.ite m p sz).slc _ (by omega)⟩
          simp only [Instr.sliceAt, Instr.slice, Sem.run_bind, run_underlying hu, Result.andThen_ok, hb, szOf_run hsz]
          split <;> rfl
        · split at h
          · rename_i hc
            have hc : cap = capU + sz := by simpa using hc
            split at h
            · obtain ⟨p, q, m, hK, h1, h2, h3, h4, h5, h6, hb⟩ := bndK_run (P := P) h
              refine ⟨_, hK, fun g l x' lo' hi' mx' w hx r1 r2 r3 => ?_⟩
              obtain ⟨a', c', rfl, ha⟩ := hx.slc_inv
              cases r3
              have hq : q ≤ len := by
                cases hi with
                | none => exact Nat.le_of_eq (h5 rfl rfl)
                | some _ => exact h6 rfl rfl
              have hlc : len ≤ c' := by
                cases ha with
                | g h k => rcases k with k | ⟨k, _, e, _⟩
                           · omega
                           · exact e
                | l h k => omega
                | e h hn _ _ => omega
              have hb := hb g l lo' hi' none w true c' r1 r2 .none hlc
              simp only [Option.isSome_none, Bool.false_eq_true, if_false] at hb
              refine ⟨.slice (some (if c' = p then a' else a'.add (p * sz))) (q - p) (c' - p), ?_, ?_⟩
              · simp only [Instr.sliceAt, Instr.slice, Sem.run_bind, run_underlying hu, Result.andThen_ok, hb, szOf_run hsz]
                split <;> rfl
              · by_cases hp : c' = p
                · rw [if_pos hp]
                  have e1 : q - p = 0 := by omega
                  have e2 : c' - p = 0 := by omega
                  rw [e1, e2]
                  refine ER.vr ?_ (by omega)
                  cases ha with
                  | g h _ => exact PR.er (.inl h) _
                  | l h _ => exact PR.er (.inr h) _
                  | e h _ _ _ => exact h.add _
                · rw [if_neg hp]
                  cases ha with
                  | g hA k =>
                    rcases k with k | ⟨k, e, f, i, hi, hk⟩
                    · omega
                    · have : k = sz := by omega
                      subst this
                      refine .g (.slc (hA.add _) (.inr ⟨k, rfl, by omega, i, hi, ?_⟩))
                      rw [add_none hA.2.1]
                      show a'.off + p * k + (c' - p) * k ≤ i.csz
                      have : p * k + (c' - p) * k = c' * k := by rw [← Nat.add_mul]; congr 1; omega
                      omega
                  | l h k => exact .slc (h.add _) (.inr ⟨by omega, by omega⟩)
                  | e h hn _ _ => omega
            · split at h
              · rename_i hl
                simp only [Bool.and_eq_true] at hl
                have hl0 := blt_iff.1 hl.2
                have hl := blt_iff.1 hl.1
                obtain ⟨p, q, m, hK, h1, h2, h3, h4, h5, h6, hb⟩ := bndK_run (P := P) h
                rename_i mv
                refine ⟨_, hK, fun g l x' lo' hi' mx' w hx r1 r2 r3 => ?_⟩
                obtain ⟨a', c', rfl, ha⟩ := hx.slc_inv
                have hml : m ≤ len := h4 rfl
                have hqm : q ≤ m := h2 rfl
                have hlc : len ≤ c' := by
                  cases ha with
                  | g h k => rcases k with k | ⟨k, _, e, _⟩
                             · omega
                             · exact e
                  | l h k => omega
                  | e h hn _ _ => omega
                have hb := hb g l lo' hi' mx' w true c' r1 r2 r3 hlc
                simp only [Option.isSome_some, if_true] at hb
                refine ⟨.slice (some (if m = p then a' else a'.add (p * sz))) (q - p) (m - p), ?_, ?_⟩
                · simp only [Instr.sliceAt, Instr.slice, Sem.run_bind, run_underlying hu, Result.andThen_ok, hb, szOf_run hsz]
                  split <;> rfl
                · exact ((ha.pr hl0).ite m p sz).slc _ (by omega)
              · cases h
          · cases h
      · cases h
    · cases h
  · cases h

theorem zeroV_run {t : TypeId} {zv : Value} (h : zeroV P t = some zv) (w : World) : ∃ zv', (zeroValue t).run P w = .ok zv' w ∧ ∀ g, VG g zv zv' := by
  unfold zeroV at h
  split at h
  · rename_i i hi
    split at h
    · rename_i z hz
      refine ⟨z, by simp [zeroValue, typeInfo, hi, hz], fun g => ?_⟩
      split at h
      · rename_i c
        cases h
        exact .agg (l' := c.toList) (VGL.cst g _)
      · cases h
        exact cst_vg g _
    · cases h
  · cases h

theorem assertK_run {x : Value} {xt asserted : TypeId} {ok : Bool} {K : Value → Option α} {r : α} (h : assertK P x asserted ok K = some r) :
    ∃ v, K v = some r ∧ ∀ (g : GM) (l : LM) (x' : Value) (w : World), VR g l x x' → ∃ v', (Instr.typeAssert x' xt asserted ok).run P w = .ok v' w ∧ VR g l v v' := by
  unfold assertK at h
  split at h
  · cases h
  · rename_i d hni hu
    have hni' : ∀ ms, d ≠ .interface ms := fun ms e => hni ms e
    split at h
    · split at h
      · split at h
        · rename_i zv hz
          refine ⟨_, h, fun g l x' w hx => ?_⟩
          rw [hx.nilI_inv]
          obtain ⟨zv', hr, hg⟩ := zeroV_run hz w
          refine ⟨.tuple #[zv', .bool false], ?_, .g (.tuple (.cons (hg g) (.cons (.bool _) .nil)))⟩
          unfold Instr.typeAssert
          simp only [Sem.run_bind, run_underlying hu, Result.andThen_ok]
          cases d <;> first | (exact absurd rfl (hni' _)) | simp [hr]
        · cases h
      · cases h
    · rename_i t v
      split at h
      · rename_i ht
        have ht : t = asserted := by simpa using ht
        subst ht
        refine ⟨_, h, fun g l x' w hx => ?_⟩
        obtain ⟨v', rfl, hv⟩ := hx.iface_inv
        refine ⟨if ok then .tuple #[v', .bool true] else v', ?_, ?_⟩
        · unfold Instr.typeAssert
          simp only [Sem.run_bind, run_underlying hu, Result.andThen_ok]
          cases d <;> first | (exact absurd rfl (hni' _)) | simp
        · cases ok
          · exact .g hv
          · exact .g (.tuple (.cons hv (.cons (.bool _) .nil)))
      · rename_i ht
        have ht : t ≠ asserted := fun e => by rw [e] at ht; simp at ht
        split at h
        · split at h
          · rename_i zv hz
            refine ⟨_, h, fun g l x' w hx => ?_⟩
            obtain ⟨v', rfl, hv⟩ := hx.iface_inv
            obtain ⟨zv', hr, hg⟩ := zeroV_run hz w
            refine ⟨.tuple #[zv', .bool false], ?_, .g (.tuple (.cons (hg g) (.cons (.bool _) .nil)))⟩
            unfold Instr.typeAssert
            simp only [Sem.run_bind, run_underlying hu, Result.andThen_ok]
            cases d <;> first | (exact absurd rfl (hni' _)) | simp [hr, ht]
          · cases h
        · cases h
    · cases h
  · cases h

theorem VR.strAny {g : GM} {l : LM} {b : ByteArray} {x' : Value} (h : VR g l (.string b) x') : x' = .string b := h.string

/-- Conversions that look at no memory. -/
theorem convK_pure {fn : FuncId} {dst : Option Tmp} {src d : TypeId} {x : Value} {s : Env} {H : Hp} {K : Value → Env → Hp → Option α} {r : α} (h : convK P T fn dst src d x s H K = some r)
    (he : ∀ o, isEff P (.convert src d o) = false) : ∃ v, K v s H = some r ∧ ∀ (g : GM) (l : LM) (x' : Value) (w : World), VR g l x x' → ∃ v', (convert src d x').run P w = .ok v' w ∧ VR g l v v' := by
  have he := he (.tmp 0)
  unfold convK at h
  unfold isEff at he
  dsimp only at he
  split at he
  · rename_i ks hus
    split at he
    · rename_i kd hud
      rw [hud] at h
      dsimp only at h
      split at h
      · rename_i k n
        rw [hus] at h
        dsimp only at h
        refine ⟨_, h, fun g l x' w hx => ?_⟩
        rw [hx.int]
        refine ⟨.int kd (kd.wrap n), ?_, by rw [kw_eq]; exact .g (.int _ _)⟩
        simp [convert, run_underlying hus, run_underlying hud, Conv.intToInt]
      · cases h
    · cases he
  · rename_i hus
    split at he
    · rename_i hud
      rw [hud, hus] at h
      dsimp only [cToStr] at h
      split at h
      · rename_i b
        refine ⟨_, h, fun g l x' w hx => ?_⟩
        rw [hx.string]
        refine ⟨.string b, ?_, .g (.string _)⟩
        simp [convert, run_underlying hus, run_underlying hud]
      · cases h
    · cases he
  · cases he

end Go.Ev
end
section
set_option linter.unusedSimpArgs false
set_option linter.unusedVariables false
set_option maxHeartbeats 1000000
namespace Go.Ev
variable {P : Program} {T : Tab} {α : Type}

/-! ### What makes a block -/
/-- A run that makes one block more, which `obj` stands for under the number `b`. -/
def GAlloc (P : Program) (T : Tab) (S : Sem Value) (b : Nat) (obj : AObj) (v : Value) (g : GM) (w : World) : Prop :=
  ∃ v' w' ob csz, S.run P w = .ok v' w' ∧ New w ob w' ∧ ObjR P T g ⟨w.heap.size, 0, csz⟩ obj ob ∧ ∀ g', g.le g' → g' b = some ⟨w.heap.size, 0, csz⟩ → VG g' v v'
/-- A run that makes one block more, which is the frame's own. -/
def LAlloc (P : Program) (S : Sem Value) (t : Tmp) (cs : List Value) (v : Value) (g : GM) (w : World) : Prop :=
  ∃ v' w' ob, S.run P w = .ok v' w' ∧ New w ob w' ∧ LocC g w' w.heap.size cs ∧ ∀ (g' : GM) (l : LM), l t = some w.heap.size → VR g' l v v'

theorem mkVar_some {fn : FuncId} {dst : Option Tmp} {e : TypeId} {c : List Value} {s : Env} {H : Hp} {K : Addr → Env → Hp → Option α} {r : α} (h : mkVar T fn dst e c s H K = some r) :
    c.all one = true ∧ c.all nl = true ∧ (K ⟨H.next, 0, none⟩ s (H.alloc (.cells c e 0 false)) = some r ∨
      ∃ t, dst = some t ∧ s.ls.get t = some none ∧ K ⟨t, 0, some 0⟩ (setL s t (some c)) H = some r) := by
  unfold mkVar at h
  split at h
  · cases h
  · rename_i hc
    simp only [Bool.and_eq_true] at hc
    refine ⟨hc.1, hc.2, ?_⟩
    split at h
    · cases h
    · rename_i t
      split at h
      · exact .inl h
      · split at h
        · rename_i hl
          exact .inr ⟨t, rfl, hl, h⟩
        · cases h

theorem CellsR.of_vgl {g : GM} {c : List Value} {c' : Array Value} (h : VGL g c c'.toList) : CellsR g 0 c c' := fun k v e => by
  obtain ⟨v', a, b⟩ := h.get e
  exact ⟨v', by simpa using a, b⟩
theorem row_obj {g : GM} {c : List Value} {c' : Array Value} (h : VGL g c c'.toList) (e : TypeId) (n : Nat) : ObjR P T g ⟨n, 0, c'.size⟩ (.cells c e 0 false) (.cells c' e) := by
  have := h.length
  exact ⟨c', 0, 0, rfl, rfl, by simp at this; simp [this], CellsR.of_vgl h, .inl rfl, .inl rfl⟩
theorem row_loc {g : GM} {w w' : World} {c : List Value} {c' : Array Value} {e : TypeId} (h : VGL g c c'.toList) (hw : New w (.cells c' e) w') : LocC g w' w.heap.size c :=
  ⟨c', e, 0, 0, hw.at_, CellsR.of_vgl h, fun k _ => by omega⟩

theorem galloc_ptr {g : GM} {c : List Value} {c' : Array Value} (h : VGL g c c'.toList) (e : TypeId) (b : Nat) (w : World) :
    GAlloc P T (do pure (.pointer (some (← newRow e c')))) b (.cells c e 0 false) (.pointer (some ⟨b, 0, none⟩)) g w :=
  ⟨.pointer (some ⟨w.heap.size, 0, none⟩), _, _, c'.size, rfl, New.push w (.cells c' e), row_obj h e _, fun _ _ hb => .ptr ⟨rfl, rfl, _, hb, rfl, rfl⟩⟩
theorem lalloc_ptr {g : GM} {c : List Value} {c' : Array Value} (h : VGL g c c'.toList) (e : TypeId) (t : Tmp) (w : World) :
    LAlloc P (do pure (.pointer (some (← newRow e c')))) t c (.pointer (some ⟨t, 0, some 0⟩)) g w :=
  ⟨.pointer (some ⟨w.heap.size, 0, none⟩), _, _, rfl, New.push w (.cells c' e), row_loc h (New.push w _), fun _ _ hb => .ptr ⟨by simp, rfl, hb, rfl⟩⟩
theorem galloc_slc {g : GM} {c : List Value} {c' : Array Value} (h : VGL g c c'.toList) (e : TypeId) (b : Nat) (w : World) {n k : Nat} (hk : k < capU) :
    GAlloc P T (do pure (.slice (some (← newRow e c')) n k)) b (.cells c e 0 false) (.slice (some ⟨b, 0, none⟩) n k) g w :=
  ⟨.slice (some ⟨w.heap.size, 0, none⟩) n k, _, _, c'.size, rfl, New.push w (.cells c' e), row_obj h e _, fun _ _ hb => .slc ⟨rfl, rfl, _, hb, rfl, rfl⟩ (.inl ⟨hk, rfl⟩)⟩
theorem lalloc_slc {g : GM} {c : List Value} {c' : Array Value} (h : VGL g c c'.toList) (e : TypeId) (t : Tmp) (w : World) {n k : Nat} (hk : k < capU) :
    LAlloc P (do pure (.slice (some (← newRow e c')) n k)) t c (.slice (some ⟨t, 0, some 0⟩) n k) g w :=
  ⟨.slice (some ⟨w.heap.size, 0, none⟩) n k, _, _, rfl, New.push w (.cells c' e), row_loc h (New.push w _), fun _ _ hb => .slc ⟨by simp, rfl, hb, rfl⟩ (.inl ⟨hk, rfl⟩)⟩

/-- What an operation that makes a block comes to. -/
inductive Alc (P : Program) (T : Tab) (dst : Option Tmp) (s : Env) (H : Hp) (S : GM → LM → World → Sem Value → Prop) : Value → Env → Hp → Prop where
  | g (obj : AObj) (v : Value) (h : ∀ g l w x, S g l w x → GAlloc P T x H.next obj v g w) : Alc P T dst s H S v s (H.alloc obj)
  | l (t : Tmp) (cs : List Value) (v : Value) (ht : dst = some t) (hl : s.ls.get t = some none) (h : ∀ g l w x, S g l w x → LAlloc P x t cs v g w) : Alc P T dst s H S v (setL s t (some cs)) H

theorem oAlloc_run {fn : FuncId} {dst : Option Tmp} {e : TypeId} {s : Env} {H : Hp} {K : Value → Env → Hp → Option α} {r : α} (h : oAlloc P T fn dst e s H K = some r) :
    ∃ v s1 H1, K v s1 H1 = some r ∧ Alc P T dst s H (fun _ _ _ x => x = Instr.alloc e true (.tuple #[])) v s1 H1 := by
  unfold oAlloc at h
  split at h
  · rename_i c hz
    obtain ⟨h1, h2, h3⟩ := mkVar_some h
    have key : ∀ (w : World), ∃ zv : Value, (∀ g, VGL g c zv.cells.toList) ∧ (Instr.alloc e true (.tuple #[])).run P w = (do pure (.pointer (some (← newRow e zv.cells))) : Sem Value).run P w := fun w => by
      obtain ⟨zv, hr, hg⟩ := zeroC_run hz w
      exact ⟨zv, hg, by simp [Instr.alloc, newVar, hr]⟩
    rcases h3 with h3 | ⟨t, ht, hl, h3⟩
    · refine ⟨_, _, _, h3, .g _ _ fun g l w x hx => ?_⟩
      subst hx
      obtain ⟨zv, hg, e1⟩ := key w
      obtain ⟨v', w', ob, csz, p, q⟩ := galloc_ptr (P := P) (T := T) (hg g) e H.next w
      exact ⟨v', w', ob, csz, by rw [e1, p], q⟩
    · refine ⟨_, _, _, h3, .l t _ _ ht hl fun g l w x hx => ?_⟩
      subst hx
      obtain ⟨zv, hg, e1⟩ := key w
      obtain ⟨v', w', ob, p, q⟩ := lalloc_ptr (P := P) (hg g) e t w
      exact ⟨v', w', ob, by rw [e1, p], q⟩
  · cases h

theorem oBox_run {fn : FuncId} {dst : Option Tmp} {e : TypeId} {x : Value} {s : Env} {H : Hp} {K : Value → Env → Hp → Option α} {r : α} (h : oBox T fn dst e x s H K = some r) :
    ∃ v s1 H1, K v s1 H1 = some r ∧ Alc P T dst s H (fun g l _ y => ∃ x', VR g l x x' ∧ y = Instr.box e x') v s1 H1 := by
  unfold oBox at h
  obtain ⟨h1, h2, h3⟩ := mkVar_some h
  rcases h3 with h3 | ⟨t, ht, hl, h3⟩
  · refine ⟨_, _, _, h3, .g _ _ fun g l w y hy => ?_⟩
    obtain ⟨x', hx, rfl⟩ := hy
    exact galloc_ptr (hx.cells h1 h2) e H.next w
  · refine ⟨_, _, _, h3, .l t _ _ ht hl fun g l w y hy => ?_⟩
    obtain ⟨x', hx, rfl⟩ := hy
    exact lalloc_ptr (hx.cells h1 h2) e t w

theorem rep_get (z : List Value) : ∀ (k i : Nat), i < k * z.length → ((List.replicate k z).flatten)[i]? = z[i % z.length]?
  | 0, i, h => by omega
  | k + 1, i, h => by
    simp only [List.replicate_succ, List.flatten_cons]
    by_cases hi : i < z.length
    · rw [List.getElem?_append_left hi, Nat.mod_eq_of_lt hi]
    · have e : (k + 1) * z.length = k * z.length + z.length := Nat.succ_mul ..
      rw [List.getElem?_append_right (by omega), rep_get z k (i - z.length) (by omega), ← Nat.mod_eq_sub_mod (by omega)]
theorem rep_len (z : List Value) (k : Nat) : ((List.replicate k z).flatten).length = k * z.length := by
  simp [List.length_flatten]
theorem rep_vgl {g : GM} {z : List Value} {z' : Array Value} (h : VGL g z z'.toList) (k : Nat) : VGL g (List.replicate k z).flatten ((Array.range (k * z.length)).map (z'[· % z'.size]!)).toList := by
  have hl := h.length
  simp only [Array.length_toList] at hl
  refine VGL.of_get (by rw [rep_len]; simp) fun n v v' ea eb => ?_
  have hn : n < k * z.length := by
    rcases Nat.lt_or_ge n (k * z.length) with h | h
    · exact h
    · rw [List.getElem?_eq_none (by rw [rep_len]; exact h)] at ea; cases ea
  rw [rep_get z k n hn] at ea
  have hz : 0 < z.length := by
    rcases Nat.eq_zero_or_pos z.length with h | h
    · rw [h] at hn; omega
    · exact h
  have hm : n % z'.size < z'.size := Nat.mod_lt _ (by omega)
  obtain ⟨u, hu, hr⟩ := h.get ea
  simp only [Array.getElem?_toList, Array.getElem?_map, Array.getElem?_range, hn, if_true, Option.map_some, Option.some.injEq] at eb
  rw [hl] at hu
  simp only [Array.getElem?_toList] at hu
  rw [getElem!_pos z' _ hm] at eb
  rw [Array.getElem?_eq_getElem hm] at hu
  cases hu
  rw [← eb]; exact hr

theorem oBuildSlice_run {fn : FuncId} {dst : Option Tmp} {t : TypeId} {len : Nat} {parts : List (Nat × Value)} {s : Env} {H : Hp} {K : Value → Env → Hp → Option α} {r : α} (h : oBuildSlice P T fn dst t len parts s H K = some r) :
    ∃ v s1 H1, K v s1 H1 = some r ∧ Alc P T dst s H (fun g l _ y => ∃ parts', PL g l parts parts' ∧ y = Instr.buildSlice t len ⟨parts'⟩) v s1 H1 := by
  unfold oBuildSlice at h
  split at h
  · rename_i e hu
    split at h
    · cases h
    · rename_i n hsz
      split at h
      · cases h
      · rename_i z hz
        split at h
        · rename_i hc
          simp only [Bool.and_eq_true, Nat.ble_eq, Nat.beq_eq] at hc
          obtain ⟨⟨hc1, hc2⟩, hc3⟩ := hc
          split at h
          · rename_i c hf
            have key : ∀ (g : GM) (l : LM) (w : World) (parts' : List (Nat × Value)), PL g l parts parts' → ∃ c' : Array Value, VGL g c c'.toList ∧
                (Instr.buildSlice t len ⟨parts'⟩).run P w = (do pure (.slice (some (← newRow e c')) len len) : Sem Value).run P w := fun g l w parts' hp => by
              obtain ⟨zv, hr, hg⟩ := zeroC_run hz w
              have hrep : VGL g (List.replicate len z).flatten ((Array.range (len * n)).map ((if len * n = 0 then #[] else zv.cells)[· % (if len * n = 0 then #[] else zv.cells).size]!)).toList := by
                split
                · rename_i h0
                  refine VGL.of_get (by rw [rep_len, hc3]; simp) fun k v v' ea eb => ?_
                  simp [h0] at eb
                · have := rep_vgl (hg g) len
                  rw [hc3] at this
                  exact this
              obtain ⟨c', hr', hg'⟩ := fillC_run hp hf hrep
              refine ⟨c', hg', ?_⟩
              have h24 : ¬ len * n > 2 ^ 24 := by omega
              have hrow : rowPlace n = fun i => some (i * n, n) := rfl
              rw [hrow] at hr'
              by_cases h0 : len * n = 0
              · simp only [h0, if_true] at hr'
                simp [Instr.buildSlice, run_underlying hu, szOf_run hsz, h0] at hr' ⊢
                rw [hr']
                rfl
              · simp only [h0, if_false] at hr'
                simp only [Instr.buildSlice, Sem.run_bind, run_underlying hu, Result.andThen_ok, szOf_run hsz, h24, h0, if_false, hr]
                simp only [Sem.run_pure, Result.andThen_ok, hr']
                rfl
            obtain ⟨h1, h2, h3⟩ := mkVar_some h
            rcases h3 with h3 | ⟨t, ht, hl, h3⟩
            · refine ⟨_, _, _, h3, .g _ _ fun g l w y hy => ?_⟩
              obtain ⟨parts', hp, rfl⟩ := hy
              obtain ⟨c', hg, e1⟩ := key g l w parts' hp
              obtain ⟨v', w', ob, csz, p, q⟩ := galloc_slc (P := P) (T := T) hg e H.next w (n := len) (k := len) (by unfold capU; omega)
              exact ⟨v', w', ob, csz, by rw [e1, p], q⟩
            · refine ⟨_, _, _, h3, .l t _ _ ht hl fun g l w y hy => ?_⟩
              obtain ⟨parts', hp, rfl⟩ := hy
              obtain ⟨c', hg, e1⟩ := key g l w parts' hp
              obtain ⟨v', w', ob, p, q⟩ := lalloc_slc (P := P) hg e t w (n := len) (k := len) (by unfold capU; omega)
              exact ⟨v', w', ob, by rw [e1, p], q⟩
          · cases h
        · cases h
  · cases h

theorem oMakeSlice_run {t : TypeId} {x y : Value} {dst : Option Tmp} {s : Env} {H : Hp} {K : Value → Env → Hp → Option α} {r : α} (h : oMakeSlice P t x y s H K = some r) :
    ∃ v s1 H1, K v s1 H1 = some r ∧ Alc P T dst s H (fun g l _ z => ∃ x' y', VR g l x x' ∧ VR g l y y' ∧ z = Instr.makeSlice t x' y') v s1 H1 := by
  unfold oMakeSlice at h
  split at h
  · rename_i e hu
    split at h
    · rename_i lx
      split at h
      · rename_i cy
        split at h
        · cases h
        · rename_i n hsz
          split at h
          · cases h
          · rename_i by' hby
            split at h
            · cases h
            · rename_i z hz
              split at h
              · rename_i hc
                simp only [Bool.and_eq_true, Nat.beq_eq] at hc
                split at h
                · rename_i hb
                  refine ⟨_, _, _, h, .g _ _ fun g l w y hy => ?_⟩
                  obtain ⟨x', y', hx, hy, rfl⟩ := hy
                  rw [hx.int, hy.int]
                  obtain ⟨i, hi, hib⟩ := byOf_info hby
                  obtain ⟨zv, hr, hg⟩ := zeroC_run hz w
                  obtain ⟨cn, rfl⟩ : ∃ cn : Nat, cy = cn := ⟨cy.toNat, by omega⟩
                  obtain ⟨ln, rfl⟩ : ∃ ln : Nat, lx = ln := ⟨lx.toNat, by omega⟩
                  have hrep : VGL g (List.replicate cn z).flatten ((Array.range (cn * n)).map ((if cn * n = 0 then #[] else zv.cells)[· % (if cn * n = 0 then #[] else zv.cells).size]!)).toList := by
                    split
                    · rename_i h0
                      refine VGL.of_get (by rw [rep_len, hc.1]; simp) fun k v v' ea eb => ?_
                      simp [h0] at eb
                    · have := rep_vgl (hg g) cn
                      rw [hc.1] at this
                      exact this
                  have hcU : cn < capU := by unfold capU; omega
                  obtain ⟨v', w', ob, csz, p, q⟩ := galloc_slc (P := P) (T := T) hrep e H.next w (n := ln) (k := cn) hcU
                  refine ⟨v', w', ob, csz, ?_, q⟩
                  rw [← p]
                  have w1 : IntKind.i64.wrap (ln : Int) = ln := by simp [IntKind.wrap, IntKind.bits, IntKind.signed]; omega
                  have w2 : IntKind.i64.wrap (cn : Int) = cn := by simp [IntKind.wrap, IntKind.bits, IntKind.signed]; omega
                  have h1 : ¬ ((cn : Int) < 0) := by omega
                  have h2 : ¬ ((by' : Int) * (cn : Int) > 2 ^ 48) := by
                    have : (by' : Int) * (cn : Int) ≤ 1099511627776 := by rw [Int.mul_comm]; exact hb.2.2.1
                    omega
                  have h3 : ¬ ((ln : Int) < 0) := by omega
                  have h4 : ¬ ((ln : Int) > (cn : Int)) := by omega
                  have h5 : ¬ (cn * by' > roomBytes) := by
                    have : ((cn * by' : Nat) : Int) ≤ 1099511627776 := by push_cast; exact hb.2.2.1
                    unfold roomBytes; omega
                  have hti : (typeInfo e).run P w = .ok i w := by simp [typeInfo, hi]
                  simp only [Instr.makeSlice, Sem.run_bind, run_underlying hu, Result.andThen_ok, asInt, asIntOf, Sem.run_pure, hti, hib, w1, w2, h1, h2, h3, h4, decide_false, Bool.or_self, Bool.false_eq_true, if_false, askRoom, Int.toNat_natCast, h5, szOf_run hsz]
                  by_cases h0 : cn * n = 0
                  · simp [h0]
                  · simp [h0, hr]
                · cases h
              · cases h
      · cases h
    · cases h
  · cases h

theorem makeMap_run {t : TypeId} {dst : Option Tmp} {s : Env} {H : Hp} : Alc P T dst s H (fun _ _ _ x => x = Instr.makeMap t none) (.map (some H.next)) s (H.alloc (.map [] 0)) :=
  .g _ _ fun g l w x hx => by
    subst hx
    exact ⟨.map (some w.heap.size), _, _, 0, rfl, New.push w (.map #[] 0), ⟨#[], rfl, .nil⟩, fun g' _ hb => VG.map (i := ⟨w.heap.size, 0, 0⟩) hb⟩

end Go.Ev
end
section
set_option linter.unusedSimpArgs false
set_option linter.unusedVariables false
set_option maxHeartbeats 1000000
namespace Go.Ev
variable {P : Program} {T : Tab} {α : Type}

def Env.withL (s : Env) (ls : LS) : Env := ⟨s.nt, s.ts, ls, s.ds⟩
theorem setL_eq (s : Env) (t : Tmp) (c : Option (List Value)) : setL s t c = s.withL (s.ls.set t c) := by cases s; rfl
theorem withL_self (s : Env) : s.withL s.ls = s := by cases s; rfl
theorem withL_ls (s : Env) (ls : LS) : (s.withL ls).ls = ls := rfl

theorem sub_some {c : List Value} {off n : Nat} {r : List Value} (h : sub c off n = some r) : r.length = n ∧ ∀ k, k < n → r[k]? = c[off + k]? := by
  unfold sub at h
  simp only at h
  split at h
  · rename_i hb
    simp only [Option.some.injEq] at h
    subst h
    refine ⟨by simpa using hb, fun k hk => ?_⟩
    rw [List.getElem?_take, if_pos hk, List.getElem?_drop]
  · cases h

/-- Cells that lie in the world. -/
def At (w : World) (a : Addr) (cs : List Value) : Prop := ∃ c e fr, w.heap[a.block]? = some (.cells c e fr) ∧ ∀ (k : Nat) (v : Value), cs[k]? = some v → c[a.off + k]? = some v

theorem cells_at {g : GM} {d : Nat} {c : List Value} {c' : Array Value} (hc : CellsR g d c c') {off n : Nat} {r : List Value} (h : sub c off n = some r) :
    ∃ r', VGL g r r' ∧ ∀ (k : Nat) (v : Value), r'[k]? = some v → c'[off + d + k]? = some v := by
  obtain ⟨hl, hg⟩ := sub_some h
  refine ⟨(List.range n).map fun k => c'.getD (off + d + k) undef, VGL.of_get (by simp [hl]) fun k v v' ea eb => ?_, fun k v e => ?_⟩
  · have hk : k < n := by
      rcases Nat.lt_or_ge k n with h | h
      · exact h
      · rw [List.getElem?_eq_none (by omega)] at ea; cases ea
    rw [hg k hk] at ea
    obtain ⟨u, hu, hr⟩ := hc _ _ ea
    have e1 : d + (off + k) = off + d + k := by omega
    rw [e1] at hu
    simp only [List.getElem?_map, List.getElem?_range hk, Option.map_some, Option.some.injEq] at eb
    have hlt : off + d + k < c'.size := by
      rcases Nat.lt_or_ge (off + d + k) c'.size with h | h
      · exact h
      · rw [Array.getElem?_eq_none h] at hu; cases hu
    rw [Array.getElem?_eq_getElem hlt] at hu
    cases hu
    simp only [Array.getD, hlt, dite_true] at eb
    rw [← eb]; exact hr
  · have hk : k < n := by
      rcases Nat.lt_or_ge k n with h | h
      · exact h
      · rw [List.getElem?_eq_none (by simpa using h)] at e; cases e
    have hrk : ∃ v0, r[k]? = some v0 := ⟨r[k]'(by omega), List.getElem?_eq_getElem (by omega)⟩
    obtain ⟨v0, hv0⟩ := hrk
    rw [hg k hk] at hv0
    obtain ⟨u, hu, _⟩ := hc _ _ hv0
    have e1 : d + (off + k) = off + d + k := by omega
    rw [e1] at hu
    simp only [List.getElem?_map, List.getElem?_range hk, Option.map_some, Option.some.injEq] at e
    have hlt : off + d + k < c'.size := by
      rcases Nat.lt_or_ge (off + d + k) c'.size with h | h
      · exact h
      · rw [Array.getElem?_eq_none h] at hu; cases hu
    rw [← e]
    simp [Array.getD, hlt]

theorem rd_ok {g : GM} {l : LM} {s : Env} {H : Hp} {w : World} (h : MR P T g l s.ls H w) {a a' : Addr} (ha : PR g l a a') {n : Nat} {cs : List Value} (hr : rd s H a n = some cs) :
    ∃ cs', VGL g cs cs' ∧ cs'.length = n ∧ At w a' cs' := by
  unfold rd at hr
  rcases ha with ⟨p, q, i, hi, e1, e2⟩ | ⟨p, q, e1, e2⟩
  · rw [p] at hr
    simp only at hr
    split at hr
    · rename_i c e fz sg hb
      obtain ⟨o', ho', c', lo, hi', e3, e4, e5, hc, e6⟩ := h.gr.obj _ _ _ hi hb
      subst e3
      obtain ⟨r', hv, hat⟩ := cells_at hc hr
      refine ⟨r', hv, by rw [← hv.length]; exact (sub_some hr).1, c', e, (lo, hi'), by rw [e1]; exact ho', fun k v e => ?_⟩
      rw [e2]; exact hat k v e
    · cases hr
  · split at hr
    · split at hr
      · rename_i c hb
        obtain ⟨_, _, cs₀, hcs, c', e, lo, hi', hh, hc, _⟩ := h.lc _ _ e1
        rw [hb] at hcs; cases hcs
        obtain ⟨r', hv, hat⟩ := cells_at hc hr
        refine ⟨r', hv, by rw [← hv.length]; exact (sub_some hr).1, c', e, (lo, hi'), hh, fun k v e => ?_⟩
        rw [e2]; exact hat k v e
      · cases hr
    · rename_i hs; exact absurd hs p

theorem At.load {w : World} {a : Addr} (hs : a.spot = none) {v : Value} {cs : List Value} (h : At w a (v :: cs)) : (load a).run P w = .ok v w := by
  obtain ⟨c, e, fr, hb, hg⟩ := h
  have := hg 0 v rfl
  have hc : w.cell? a = some v := by simp only [World.cell?, hb, hs]; simpa using this
  rw [run_load, hc]
theorem At.loadCells {w : World} {a : Addr} (hs : a.spot = none) {cs : List Value} (h : At w a cs) : (loadCells a cs.length).run P w = .ok cs.toArray w := by
  obtain ⟨c, e, fr, hb, hg⟩ := h
  exact run_loadCells' hs hb cs hg

def ldN (agg : Bool) (n : Nat) : Nat := match agg with | true => n | false => 1
theorem rd_len {s : Env} {H : Hp} {a : Addr} {n : Nat} {cs : List Value} (hr : rd s H a n = some cs) : cs.length = n := by
  unfold rd at hr
  split at hr
  · split at hr
    · exact (sub_some hr).1
    · cases hr
  · split at hr
    · exact (sub_some hr).1
    · cases hr

/-- What a load sees, in the evaluator. -/
structure LdR (P : Program) (s : Env) (H : Hp) (t : TypeId) (x : Value) (a : Addr) (cs : List Value) (v : Value) : Prop where
  x : x = .pointer (some a)
  ty : ∃ agg n, tyI P t = some (agg, n) ∧ cs.length = ldN agg n ∧ unc agg cs = some v
  rd : rd s H a cs.length = some cs

theorem oLoad_ld {t : TypeId} {x : Value} {s : Env} {H : Hp} {K : Value → Env → Hp → Option α} {r : α} (h : oLoad P t x s H K = some r) : ∃ v a cs, K v s H = some r ∧ LdR P s H t x a cs v := by
  unfold oLoad at h
  split at h
  · rename_i a
    split at h
    · rename_i agg n ht
      split at h
      · rename_i cs hr
        split at h
        · rename_i v hu
          have hl : cs.length = ldN agg n := rd_len hr
          have hr : rd s H a (ldN agg n) = some cs := hr
          exact ⟨v, a, cs, h, rfl, ⟨agg, n, ht, hl, hu⟩, by rw [hl]; exact hr⟩
        · cases h
      · cases h
    · cases h
  · cases h

theorem LdR.run {g : GM} {l : LM} {s : Env} {H : Hp} {w : World} (h : MR P T g l s.ls H w) {t : TypeId} {x x' : Value} {a : Addr} {cs : List Value} {v : Value} (hl : LdR P s H t x a cs v) (hx : VR g l x x') :
    ∃ v', (Instr.loadAt t x').run P w = .ok v' w ∧ VR g l v v' := by
  obtain ⟨rfl, ⟨agg, n, ht, hn, hu⟩, hr⟩ := hl
  obtain ⟨a', rfl, ha⟩ := hx.ptr_inv
  obtain ⟨cs', hv, hl', hat⟩ := rd_ok h ha hr
  obtain ⟨r1, r2⟩ := tyI_run ht w
  obtain ⟨v', hu', hg⟩ := unc_vr hu hv
  refine ⟨v', ?_, .g hg⟩
  cases agg with
  | true =>
    simp only [unc, Option.some.injEq] at hu'
    simp only [ldN] at hn
    have := hat.loadCells (P := P) ha.spot
    rw [hl', hn] at this
    subst hu'
    simp [Instr.loadAt, Instr.sureAddr, loadVar, r1, r2, this]
  | false =>
    unfold unc at hu'
    dsimp only at hu'
    split at hu'
    · simp only [Option.some.injEq] at hu'
      subst hu'
      have := hat.load (P := P) ha.spot
      simp only [Instr.loadAt, Instr.sureAddr, loadVar, Sem.run_bind, Sem.run_pure, Result.andThen_ok, r1, Bool.false_eq_true, if_false, this]
    · cases hu'

/-! ### Stores -/
theorem lay_cellsR {g : GM} {d : Nat} {c : List Value} {c' : Array Value} (hc : CellsR g d c c') (hd : d + c.length ≤ c'.size) {off : Nat} {vs vs' r : List Value} (h : lay c off vs = some r) (hv : VGL g vs vs') :
    CellsR g d r (layA c' (off + d) vs') := by
  obtain ⟨h1, h2, h3⟩ := lay_some h
  have hl := hv.length
  intro k v e
  rw [h3 k] at e
  rw [layA_get vs' c' (off + d) (d + k) (by omega)]
  split at e
  · rename_i hk
    rw [if_pos (by omega)]
    obtain ⟨v', p, q⟩ := hv.get e
    exact ⟨v', by rw [show d + k - (off + d) = k - off from by omega]; exact p, q⟩
  · rename_i hk
    rw [if_neg (by omega)]
    exact hc k v e

/-- What a store leaves as it was. -/
def WrK (s : Env) (H : Hp) (a : Addr) (vs : List Value) (ls1 : LS) (H1 : Hp) : Prop :=
  (a.spot = none ∧ ls1 = s.ls) ∨ (a.spot ≠ none ∧ H1 = H ∧ ∃ c c1, s.ls.get a.block = some (some c) ∧ lay c a.off vs = some c1 ∧ ls1 = s.ls.set a.block (some c1))

theorem wr_ok {g : GM} {l : LM} {s : Env} {H : Hp} {w : World} (h : MR P T g l s.ls H w) {a a' : Addr} (ha : PR g l a a') {vs vs' : List Value} (hv : VGL g vs vs') (ho : vs.all one = true) {K : Env → Hp → Option α} {r : α}
    (hr : wr s H a vs K = some r) : ∃ ls1 H1, K (s.withL ls1) H1 = some r ∧ WrK s H a vs ls1 H1 ∧ ∃ w', (storeCells a' vs').run P w = .ok () w' ∧ MR P T g l ls1 H1 w' ∧ Stp P T g l s.ls H w g l ls1 H1 w' := by
  unfold wr at hr
  have hl := hv.length
  rcases ha with ⟨p, q, i, hi, e1, e2⟩ | ⟨p, q, e1, e2⟩
  · rw [p] at hr
    simp only at hr
    split at hr
    · rename_i c e fz sg hb
      split at hr
      · rename_i hfz
        have hfz : fz ≤ a.off := by simpa using hfz
        split at hr
        · rename_i c1 hlay
          obtain ⟨o', ho', c', lo, hi', e3, e4, e5, hc, e6⟩ := h.gr.obj _ _ _ hi hb
          subst e3
          obtain ⟨h1, h2, h3⟩ := lay_some hlay
          obtain ⟨w', hrun, hu⟩ := run_storeCells (P := P) vs' a' 0 w c' e lo hi' q (by rw [e1]; exact ho') (by omega) (fun k k1 k2 => by
            rcases e6 with e6 | e6 | e6
            · omega
            · omega
            · cases sg
              · simp only [Bool.false_eq_true, if_false] at e6; omega
              · simp only [if_true] at e6; omega) (hv.one ho)
          rw [e1] at hu
          obtain ⟨m1, m2⟩ := h.updG hi hb (by unfold isRo; exact blt_false.2 (by omega)) hu (o' := .cells c1 e fz sg) ⟨_, lo, hi', rfl, by rw [layA_size]; exact e4, by rw [h2]; exact e5, by
            have := lay_cellsR hc (by omega) hlay hv
            rw [show a'.off + 0 = a.off + i.del from by omega]; exact this, e6⟩
          exact ⟨s.ls, _, by rw [withL_self]; exact hr, .inl ⟨p, rfl⟩, w', hrun, m1, m2⟩
        · cases hr
      · cases hr
    · cases hr
  · split at hr
    · split at hr
      · rename_i c hb
        split at hr
        · rename_i c1 hlay
          obtain ⟨_, _, cs₀, hcs, c', e, lo, hi', hh, hc, hfz⟩ := h.lc _ _ e1
          rw [hb] at hcs; cases hcs
          obtain ⟨h1, h2, h3⟩ := lay_some hlay
          have hsz : c.length ≤ c'.size := by
            rcases Nat.lt_or_ge c'.size c.length with hlt | hge
            · obtain ⟨v', hv', _⟩ := hc c'.size c[c'.size] (List.getElem?_eq_getElem hlt)
              simp at hv'
            · exact hge
          obtain ⟨w', hrun, hu⟩ := run_storeCells (P := P) vs' a' 0 w c' e lo hi' q hh (by omega) (fun k k1 k2 => hfz k (by omega)) (hv.one ho)
          obtain ⟨m1, m2⟩ := h.updL e1 hb hu (cs' := c1) ⟨_, e, lo, hi', hu.at_, by
            have := lay_cellsR hc (by omega) hlay hv
            rw [show a'.off + 0 = a.off + 0 from by omega]; exact this, fun k hk => hfz k (by omega)⟩
          rw [setL_eq] at hr
          exact ⟨_, _, hr, .inr ⟨p, rfl, c, c1, hb, hlay, rfl⟩, w', hrun, m1, m2⟩
        · cases hr
      · cases hr
    · rename_i hs; exact absurd hs p

theorem oStore_run {g : GM} {l : LM} {s : Env} {H : Hp} {w : World} (h : MR P T g l s.ls H w) {t : TypeId} {x x' y y' : Value} (hx : VR g l x x') (hy : VR g l y y') {K : Value → Env → Hp → Option α} {r : α}
    (hr : oStore P t x (vcells y) s H K = some r) : ∃ ls1 H1, K undefV (s.withL ls1) H1 = some r ∧ (∃ a, x = .pointer (some a) ∧ WrK s H a (vcells y) ls1 H1) ∧ ∃ w', (Instr.storeAt t x' y').run P w = .ok () w' ∧ MR P T g l ls1 H1 w' ∧ Stp P T g l s.ls H w g l ls1 H1 w' := by
  unfold oStore at hr
  split at hr
  · split at hr
    · rename_i n hsz
      split at hr
      · rename_i hc
        simp only [Bool.and_eq_true, Nat.beq_eq] at hc
        obtain ⟨a', rfl, ha⟩ := hx.ptr_inv
        have hv := hy.cells hc.1.2 hc.2
        obtain ⟨ls1, H1, hk, hwk, w', hrun, m1, m2⟩ := wr_ok h ha hv hc.1.2 hr
        refine ⟨ls1, H1, hk, ⟨_, rfl, hwk⟩, w', ?_, m1, m2⟩
        have hl := hv.length
        simp only [Array.length_toList] at hl
        have hne : ¬ y'.cells.size ≠ n := by omega
        simp only [Instr.storeAt, Instr.sureAddr, storeVar, Sem.run_bind, Sem.run_pure, Result.andThen_ok, szOf_run hsz]
        rw [if_neg hne]
        exact hrun
      · cases hr
    · cases hr
  · cases hr

end Go.Ev
end
section
set_option linter.unusedSimpArgs false
set_option linter.unusedVariables false
set_option maxHeartbeats 1000000
namespace Go.Ev
variable {P : Program} {T : Tab} {α : Type}

/-- What an operation that acts comes to. -/
def Eff (P : Program) (T : Tab) (S : Sem Value) (g : GM) (l : LM) (ls : LS) (H : Hp) (w : World) (v : Value) (ls1 : LS) (H1 : Hp) : Prop :=
  ∃ v' w' g', S.run P w = .ok v' w' ∧ MR P T g' l ls1 H1 w' ∧ Stp P T g l ls H w g' l ls1 H1 w' ∧ VR g' l v v'

theorem Eff.same {S : Sem Value} {g : GM} {l : LM} {ls : LS} {H : Hp} {w : World} (h : MR P T g l ls H w) {v v' : Value} (hr : S.run P w = .ok v' w) (hv : VR g l v v') : Eff P T S g l ls H w v ls H :=
  ⟨v', w, g, hr, h, Stp.refl h.gr, hv⟩

/-- A world that has only drawn. -/
structure Drew (w w' : World) : Prop where
  heap : w'.heap = w.heap
  os : w'.os = w.os
  tape : w'.tape = w.tape
  output : w'.output = w.output
theorem At.drew {w w' : World} (h : Drew w w') {a : Addr} {cs : List Value} (k : At w a cs) : At w' a cs := by
  obtain ⟨c, e, fr, hb, hg⟩ := k
  exact ⟨c, e, fr, by rw [h.heap]; exact hb, hg⟩

theorem At.take {w : World} {a : Addr} {cs : List Value} (k : At w a cs) (n : Nat) : At w a (cs.take n) := by
  obtain ⟨c, e, fr, hb, hg⟩ := k
  refine ⟨c, e, fr, hb, fun k v e => hg k v ?_⟩
  rw [List.getElem?_take] at e
  split at e
  · exact e
  · cases e

/-- What is appended or copied. -/
structure SrcR (P : Program) (w : World) (sz : Nat) (x' : Value) (n : Nat) (cells' : List Value) : Prop where
  len : cells'.length = n * sz
  lenOf : ∀ w, (Builtin.lenOf x').run P w = .ok n w
  first : ∀ w', Drew w w' → ∀ m, m ≤ n → (Builtin.firstCells sz m x').run P w' = .ok (cells'.take (m * sz)).toArray w'

theorem srcC_run {g : GM} {l : LM} {s : Env} {H : Hp} {w : World} (h : MR P T g l s.ls H w) {sz : Nat} {x x' : Value} (hx : VR g l x x') {K : Nat → List Value → Option α} {r : α} (hr : srcC s H sz x K = some r) :
    ∃ n cells cells', K n cells = some r ∧ VGL g cells cells' ∧ SrcR P w sz x' n cells' := by
  unfold srcC at hr
  split at hr
  · rename_i n c
    rw [hx.slcN_inv]
    split at hr
    · rename_i hn
      have hn : n = 0 := by simpa using hn
      subst hn
      exact ⟨0, [], [], hr, .nil, by simp, fun w => rfl, fun w' _ m hm => by simp [Builtin.firstCells]⟩
    · cases hr
  · rename_i a n c
    split at hr
    · rename_i cs hrd
      obtain ⟨a', c', rfl, hs⟩ := hx.slc_inv
      have key : ∀ cs', VGL g cs cs' → cs'.length = n * sz → At w a' cs' → SrcR P w sz (.slice (some a') n c') n cs' := fun cs' hv hl hat =>
        ⟨hl, fun w => rfl, fun w' hd m hm => by
          have hlt : (cs'.take (m * sz)).length = m * sz := by
            rw [List.length_take, hl]; exact Nat.min_eq_left (Nat.mul_le_mul_right _ hm)
          have := ((hat.take (m * sz)).drew hd).loadCells (P := P) hs.spot
          rw [hlt] at this
          exact this⟩
      cases hs with
      | g ha _ =>
        obtain ⟨cs', hv, hl, hat⟩ := rd_ok h (.inl ha) hrd
        exact ⟨n, cs, cs', hr, hv, key cs' hv hl hat⟩
      | l ha _ =>
        obtain ⟨cs', hv, hl, hat⟩ := rd_ok h (.inr ha) hrd
        exact ⟨n, cs, cs', hr, hv, key cs' hv hl hat⟩
      | e ha hn _ hc' =>
        subst hn
        have hl := rd_len hrd
        have e0 : cs = [] := List.eq_nil_of_length_eq_zero (by rw [hl]; simp)
        subst e0
        refine ⟨0, [], [], hr, .nil, by simp, fun w => rfl, fun w' hd m hm => ?_⟩
        have : m = 0 := by omega
        subst this
        simp [Builtin.firstCells, loadCells, loadCellsFrom]
    · cases hr
  · rename_i b
    split at hr
    · rename_i hsz
      have hsz : sz = 1 := by simpa using hsz
      subst hsz
      rw [hx.string]
      have hb : VGL g (bytesV b) (bytesV b) := by
        unfold bytesV
        generalize b.data.toList = l
        induction l with
        | nil => exact .nil
        | cons a l ih => exact .cons (.int _ _) ih
      refine ⟨b.size, bytesV b, bytesV b, hr, hb, by simp [bytesV], fun w => rfl, fun w' hd m hm => ?_⟩
      have e1 : ((b.extract 0 m).data.map fun (x : UInt8) => Value.int .u8 x.toNat) = ((bytesV b).take (m * 1)).toArray := by
        apply Array.ext'
        simp [bytesV, ByteArray.data_extract, List.extract, List.map_take]
      show Result.ok _ w' = _
      rw [e1]
    · cases hr
  · cases hr

/-! ### append -/
section
variable {w : World}
theorem append_in {st e : TypeId} {argTypes : Array TypeId} {ty : TypeId} {sz n sLen sCap : Nat} {base : Option Addr} {y' : Value} {new : List Value} (hst : argTypes[0]? = some st) (hu : P.underlying st = some (.slice e)) (hsz : szOf P e = some sz)
    (hz : ∀ xt, argTypes[1]? = some xt → ∃ d, P.underlying xt = some d ∧ ∀ k, d ≠ .int k) (hs : SrcR P w sz y' n new) (hc : sLen + n ≤ sCap) {w' : World}
    (hstore : ∀ a, base = some a → (storeCells (a.add (sLen * sz)) new).run P w = .ok () w') (hno : base = none → w' = w) :
    (Builtin.append_ argTypes ty #[.slice base sLen sCap, y']).run P w = .ok (.slice base (sLen + n) sCap) w' := by
  have hf := hs.first w ⟨rfl, rfl, rfl, rfl⟩ n (Nat.le_refl _)
  rw [← hs.len, List.take_length] at hf
  cases h1 : argTypes[1]? with
  | none =>
    cases base with
    | none =>
      rw [hno rfl]
      simp [Builtin.append_, hst, h1, run_underlying hu, szOf_run hsz, hs.lenOf w, hc, hf]
    | some a =>
      have hst' := hstore a rfl
      simp [Builtin.append_, hst, h1, run_underlying hu, szOf_run hsz, hs.lenOf w, hc, hf, hst']
  | some xt =>
    obtain ⟨d, hd, hk⟩ := hz xt h1
    have hm : (d matches .int _) = false := by cases d <;> first | rfl | (exact absurd rfl (hk _))
    cases base with
    | none =>
      rw [hno rfl]
      simp [Builtin.append_, hst, h1, run_underlying hu, run_underlying hd, hm, szOf_run hsz, hs.lenOf w, hc, hf]
    | some a =>
      have hst' := hstore a rfl
      simp [Builtin.append_, hst, h1, run_underlying hu, run_underlying hd, hm, szOf_run hsz, hs.lenOf w, hc, hf, hst']

theorem append_out {st e : TypeId} {argTypes : Array TypeId} {ty : TypeId} {i : TypeInfo} {z : Value} {n sLen sCap : Nat} {base : Option Addr} {y' : Value} {old new : List Value} (hst : argTypes[0]? = some st) (hu : P.underlying st = some (.slice e))
    (hi : P.info? e = some i) (hzr : i.zero = some z)
    (hz : ∀ xt, argTypes[1]? = some xt → ∃ d, P.underlying xt = some d ∧ ∀ k, d ≠ .int k) (hs : SrcR P w i.size y' n new) (hc : sCap < sLen + n)
    (hold : ∀ w', Drew w w' → (Builtin.firstCells i.size sLen (.slice base sLen sCap)).run P w' = .ok old.toArray w')
    (hb : (sLen + n) * i.bytes ≤ 140737488355328) (hn : sLen + n ≤ 1099511627776) :
    ∃ cap w', sLen + n ≤ cap ∧ New w (.cells (old ++ new ++ (Builtin.zeroCells z.cells (cap - (sLen + n))).toList).toArray e) w' ∧
      (Builtin.append_ argTypes ty #[.slice base sLen sCap, y']).run P w = .ok (.slice (some ⟨w.heap.size, 0, none⟩) (sLen + n) cap) w' := by
  have hf := fun w' hd => hs.first w' hd n (Nat.le_refl _)
  rw [← hs.len, List.take_length] at hf
  have hn' : ¬ (sLen + n ≤ sCap) := by omega
  have h63' : ¬ (9223372036854775807 < ((sLen : Int) + (n : Int))) := by omega
  have h48' : ¬ (281474976710656 < Builtin.nextslicecap (sLen + n) sCap * i.bytes) := by
    have := growslice_fits hc hb
    omega
  have hd : Drew w w.drew := ⟨rfl, rfl, rfl, rfl⟩
  have hf' := hf w.drew hd
  have hfo := hold w.drew hd
  refine ⟨grownCap w (sLen + n) sCap e, w.drew.alloc (.cells (old ++ new ++ (Builtin.zeroCells z.cells (grownCap w (sLen + n) sCap e - (sLen + n))).toList).toArray e), ?_, ⟨rfl, rfl, rfl, rfl⟩, ?_⟩
  · unfold grownCap
    simp only [Question.cut]
    omega
  · cases h1 : argTypes[1]? with
    | none =>
      simp [Builtin.append_, hst, h1, run_underlying hu, sizeOf, typeInfo, zeroValue, hi, hzr, hs.lenOf w, hn', h63', h48', Question.forced, hf', hfo, newRow]
      refine ⟨rfl, ?_⟩
      congr 2
      apply Array.ext'
      simp [grownCap]
    | some xt =>
      obtain ⟨d, hd, hk⟩ := hz xt h1
      have hm : (d matches .int _) = false := by cases d <;> first | rfl | (exact absurd rfl (hk _))
      simp [Builtin.append_, hst, h1, run_underlying hu, run_underlying hd, hm, sizeOf, typeInfo, zeroValue, hi, hzr, hs.lenOf w, hn', h63', h48', Question.forced, hf', hfo, newRow]
      refine ⟨rfl, ?_⟩
      congr 2
      apply Array.ext'
      simp [grownCap]
end

end Go.Ev
end
section
set_option linter.unusedSimpArgs false
set_option linter.unusedVariables false
set_option maxHeartbeats 1000000
namespace Go.Ev
variable {P : Program} {T : Tab} {α : Type}

/-- A block is turned in place, and known from now on under a new number. -/
theorem MR.moveG {g : GM} {l : LM} {ls : LS} {H : Hp} {w : World} (h : MR P T g l ls H w) {b : Nat} {i : Img} {o : AObj} (hb : g b = some i) (ho : H.get b = some o) (hro : isRo o = false) {obj : AObj} {ob : Obj} {w' : World} (hu : Upd w i.blk ob w') {i' : Img} (hi : i'.blk = i.blk)
    (hr : ObjR P T g i' obj ob) : MR P T (g.bind H.next i') l ls ((H.put b none).alloc obj) w' ∧ Stp P T g l ls H w (g.bind H.next i') l ls ((H.put b none).alloc obj) w' := by
  obtain ⟨h1, _⟩ := h.die hb ho hro
  have hn0 : (H.put b none).next = H.next := Hp.next_put ..
  obtain ⟨h2, _, hdn⟩ := h1.grow (H' := (H.put b none).alloc obj) (by simp) (fun k hk => Hp.get_alloc_old _ _ hk)
  rw [hn0] at hdn
  have hbl := h.gr.dom _ _ hb
  have hget : ∀ k, k < H.next → ((H.put b none).alloc obj).get k = (H.put b none).get k := fun k hk => Hp.get_alloc_old _ _ (by rw [hn0]; exact hk)
  have hne : ∀ k, k ≠ i'.blk → w'.heap[k]? = w.heap[k]? := fun k hk => hu.ne k (by rw [← hi]; exact hk)
  have hm := h2.bindG (b := H.next) (i := i') (w' := w') hdn (by simp) (by rw [hu.size]; exact Nat.le_refl _) (by rw [hu.size, hi]; exact h.gr.lt _ _ hb)
    (by
      rintro ⟨k, j, o', e, eo, q⟩
      have hk := h.gr.dom _ _ e
      rw [hget k hk] at eo
      by_cases hkb : b = k
      · subst hkb; rw [Hp.get_put_same ho] at eo; cases eo
      · rw [Hp.get_put_ne H hkb] at eo
        exact hkb (h.gr.inj b k i j o o' hb e ho eo (by rw [q, hi])))
    (fun t ht => by
      obtain ⟨_, q, _⟩ := h.lc t _ ht
      exact q ⟨b, i, o, hb, ho, hi.symm⟩)
    (fun k _ hk => hne k hk)
    (fun o' e => by
      have : ((H.put b none).alloc obj).get H.next = some obj := by
        have := Hp.get_alloc_new (H.put b none) obj
        rwa [hn0] at this
      rw [this] at e; cases e
      exact ⟨ob, by rw [hi]; exact hu.at_, hr.mono (GM.le_bind hdn i')⟩)
  refine ⟨hm, ⟨⟨GM.le_bind hdn i', hm.gr, by rw [hu.size]; exact Nat.le_refl _, fun k j e => ?_, fun k hk hg => ?_, fun k hk hd => ?_, by simp, fun c hc hl _ => hu.ne c (fun e => hl ⟨b, i, o, hb, ho, e.symm⟩), hu.os, hu.tape, hu.output, fun k j o' e eo er => by
      have hkb : b ≠ k := fun q => by subst q; rw [ho] at eo; cases eo; rw [hro] at er; cases er
      exact ⟨by rw [hget k (h.gr.dom _ _ e), Hp.get_put_ne H hkb]; exact eo, hu.ne _ (fun q => hkb (h.gr.inj b k i j o o' hb e ho eo q.symm))⟩⟩,
    fun _ _ h => h, fun _ _ h => .inl h, fun _ _ => rfl⟩⟩
  · by_cases q : k = H.next
    · subst q; rw [GM.bind_same] at e; cases e; exact .inr ⟨Nat.le_refl _, .inr ⟨b, i, o, hb, ho, hi.symm⟩⟩
    · rw [GM.bind_ne g q] at e; exact .inl e
  · rw [hget k hk, Hp.get_put_ne H (fun e => by rw [e, hg] at hb; cases hb)]
  · rw [hget k hk, Hp.get_put_ne H (fun e => by rw [← e, ho] at hd; cases hd)]; exact hd

theorem row_obj' {g : GM} {c c1 : List Value} (h : VGL g c c1) {more : List Value} {e : TypeId} {fz : Nat} {sg : Bool} (n : Nat) : ObjR P T g ⟨n, 0, (c1 ++ more).length⟩ (.cells c e fz sg) (.cells (c1 ++ more).toArray e) := by
  have hl := h.length
  refine ⟨(c1 ++ more).toArray, 0, 0, rfl, by simp, by simp [hl], fun k v e => ?_, .inl rfl, .inl rfl⟩
  obtain ⟨v', p, q⟩ := h.get e
  refine ⟨v', ?_, q⟩
  have : k < c1.length := by
    rcases Nat.lt_or_ge k c1.length with h | h
    · exact h
    · rw [List.getElem?_eq_none h] at p; cases p
  simp only [Nat.zero_add, List.getElem?_toArray]
  rw [List.getElem?_append_left this]
  exact p

theorem zeroCells_len (z : Array Value) (n : Nat) : (Builtin.zeroCells z n).toList.length = n * z.size := by
  simp [Builtin.zeroCells]

theorem appendK_run {g : GM} {l : LM} {s : Env} {H : Hp} {w : World} (h : MR P T g l s.ls H w) {argTypes : Array TypeId} {ty : TypeId} {x x' y y' : Value} (hx : VR g l x x') (hy : VR g l y y') {K : Value → Env → Hp → Option α} {r : α}
    (hr : appendK P T argTypes x y s H K = some r) : ∃ v H1, K v s H1 = some r ∧ Eff P T (Builtin.append_ argTypes ty #[x', y']) g l s.ls H w v s.ls H1 := by
  unfold appendK at hr
  split at hr
  · cases hr
  · rename_i st hst
    have hst : argTypes[0]? = some st := by rw [lget_eq] at hst; simpa using hst
    split at hr
    · rename_i e hu
      split at hr
      · rename_i sz by' z hsz hby hzc
        obtain ⟨i, hi, his⟩ := szOf_info hsz
        obtain ⟨i2, hi2, hib⟩ := byOf_info hby
        rw [hi] at hi2; cases hi2
        obtain ⟨i3, zv, hi3, hiz, hzv⟩ := zeroC_info hzc
        rw [hi] at hi3; cases hi3
        split at hr
        · cases hr
        · rename_i hc
          simp only [Bool.and_eq_true, Nat.beq_eq] at hc
          obtain ⟨⟨⟨hc1, hc2⟩, hc3⟩, hc4⟩ := hc
          have hsz0 : 0 < sz := blt_iff.1 hc3
          have hz : ∀ xt, argTypes[1]? = some xt → ∃ d, P.underlying xt = some d ∧ ∀ k, d ≠ .int k := by
            intro xt hxt
            have hxt' : lget argTypes.toList 1 = some xt := by rw [lget_eq]; simpa using hxt
            rw [hxt'] at hc4
            dsimp only at hc4
            cases hd : P.underlying xt with
            | none => rw [hd] at hc4; cases hc4
            | some d => exact ⟨d, rfl, fun k e => by rw [hd, e] at hc4; cases hc4⟩
          obtain ⟨n, new, new', hr, hvn, hsrc⟩ := srcC_run h hy hr
          have hsrc' : SrcR P w i.size y' n new' := by rw [his]; exact hsrc
          have hnl : new'.length = n * sz := hsrc.len
          have hzl : zv.cells.size = sz := by have := (hzv g).length; simp at this; omega
          split at hr
          · cases hr
          · rename_i hnew
            simp only [Bool.and_eq_true] at hnew
            split at hr
            · -- nil
              rename_i len cap
              split at hr
              · cases hr
              · rename_i hlc
                simp only [Bool.and_eq_true, Nat.beq_eq] at hlc
                obtain ⟨rfl, rfl⟩ := hlc
                rw [hx.slcN_inv]
                split at hr
                · rename_i hn
                  have hn : n = 0 := by simpa using hn
                  subst hn
                  refine ⟨_, H, hr, Eff.same h (append_in hst hu hsz hz hsrc (by omega) (fun a e => by cases e) (fun _ => rfl)) (.g (.slcN 0 0))⟩
                · rename_i hn
                  have hn : 0 < n := by rcases Nat.eq_zero_or_pos n with e | e; · rw [e] at hn; simp at hn
                                        · exact e
                  split at hr
                  · rename_i hb
                    obtain ⟨cap, w', hcap, hw, hrun⟩ := append_out (base := none) (ty := ty) (sLen := 0) (sCap := 0) (old := []) hst hu hi hiz hz hsrc' (by omega) (fun w' _ => by simp [Builtin.firstCells]) (by rw [hib]; simp; omega) (by omega)
                    simp only [Nat.zero_add, List.nil_append] at hcap hw hrun
                    obtain ⟨m1, m2⟩ := h.allocG hw (row_obj' (P := P) (T := T) hvn w.heap.size (fz := 0) (sg := false))
                    refine ⟨_, _, hr, _, w', _, hrun, m1, m2, .g (.slc ⟨rfl, rfl, _, GM.bind_same _ _ _, rfl, rfl⟩ (.inr ⟨sz, rfl, hcap, _, GM.bind_same _ _ _, ?_⟩))⟩
                    simp only [List.length_append, zeroCells_len, hnl, hzl]
                    have : n * sz + (cap - n) * sz = cap * sz := by rw [← Nat.add_mul]; congr 1; omega
                    omega
                  · cases hr
            · -- some
              rename_i a len cap _
              split at hr
              · cases hr
              · rename_i hsp
                obtain ⟨a', c', rfl, hs⟩ := hx.slc_inv
                have hs' : (AR g a a' ∧ CapR g a a' len cap c') ∨ (ER g l a a' ∧ len = 0 ∧ capU ≤ cap ∧ c' = 0) := by
                  cases hs with
                  | g a b => exact .inl ⟨a, b⟩
                  | l a _ => exact absurd hsp a.1
                  | e a b c d => exact .inr ⟨a, b, c, d⟩
                have ha'n : a'.spot = none := hs.spot
                split at hr
                · -- nothing is appended
                  rename_i hn
                  have hn : n = 0 := by simpa using hn
                  subst hn
                  split at hr
                  · rename_i hlc
                    have hlc : len ≤ cap := by simpa using hlc
                    have hlc' : len ≤ c' := by
                      rcases hs' with ⟨_, k | ⟨_, _, k, _⟩⟩ | ⟨_, e1, _, e2⟩
                      · omega
                      · exact k
                      · omega
                    have e0 : new' = [] := List.eq_nil_of_length_eq_zero (by rw [hnl]; simp)
                    refine ⟨_, H, hr, Eff.same h (append_in hst hu hsz hz hsrc (by omega) (fun a e => by rw [e0]; rfl) (fun _ => rfl)) hx⟩
                  · cases hr
                · rename_i hn
                  have hn : 0 < n := by rcases Nat.eq_zero_or_pos n with e | e; · rw [e] at hn; simp at hn
                                        · exact e
                  split at hr
                  · rename_i c e' fz sg hb
                    split at hr
                    · cases hr
                    · rename_i he
                      have he : e = e' := by simpa using he
                      subst he
                      split at hr
                      · cases hr
                      · rename_i old hold
                        split at hr
                        · rename_i hbd
                          have hb47 : (len + n) * i.bytes ≤ 140737488355328 := by rw [hib]; omega
                          -- the cells behind the slice
                          have hrd : rd s H a (len * sz) = some old := by unfold rd; rw [hsp]; simp only [hb]; exact hold
                          have hol : old.length = len * sz := rd_len hrd
                          have hgrow : c' < len + n → ∃ old', VGL g old old' ∧ ∃ cap' w', len + n ≤ cap' ∧ New w (.cells (old' ++ new' ++ (Builtin.zeroCells zv.cells (cap' - (len + n))).toList).toArray e) w' ∧
                              (Builtin.append_ argTypes ty #[.slice (some a') len c', y']).run P w = .ok (.slice (some ⟨w.heap.size, 0, none⟩) (len + n) cap') w' := by
                            intro hlt
                            rcases hs' with ⟨hA, _⟩ | ⟨_, e1, _, e2⟩
                            · obtain ⟨old', hvo, hlo, hat⟩ := rd_ok h (.inl hA) hrd
                              refine ⟨old', hvo, append_out hst hu hi hiz hz hsrc' hlt (fun w' hd => ?_) hb47 (by omega)⟩
                              have := (hat.drew hd).loadCells (P := P) ha'n
                              rw [hlo] at this
                              rw [his]
                              exact this
                            · subst e1
                              have e3 : old = [] := List.eq_nil_of_length_eq_zero (by rw [hol]; simp)
                              subst e3
                              exact ⟨[], .nil, append_out hst hu hi hiz hz hsrc' hlt (fun w' hd => by simp [Builtin.firstCells, loadCells, loadCellsFrom]) hb47 (by omega)⟩
                          have hgrown : ∀ {old' : List Value} {cap' : Nat}, VGL g old old' → len + n ≤ cap' → 0 + cap' * sz ≤ (old' ++ new' ++ (Builtin.zeroCells zv.cells (cap' - (len + n))).toList).length := by
                            intro old' cap' hvo hcap
                            have := hvo.length
                            simp only [List.length_append, zeroCells_len, hnl, hzl, ← this, hol]
                            have : len * sz + n * sz + (cap' - (len + n)) * sz = cap' * sz := by rw [← Nat.add_mul, ← Nat.add_mul]; congr 1; omega
                            omega
                          split at hr
                          · -- the capacity is not known
                            rename_i hcU
                            have hcU : capU ≤ cap := blt_false.1 hcU
                            split at hr
                            · rename_i hck
                              simp only [Bool.and_eq_true, Nat.beq_eq, Nat.ble_eq, Bool.not_eq_true'] at hck
                              obtain ⟨⟨hck1, hck2⟩, hck3⟩ := hck
                              split at hr
                              case h_2 => cases hr
                              rename_i hfzc
                              have hfzc : fz ≤ c.length := by simpa using hfzc
                              have hro : isRo (.cells c e fz sg) = false := by unfold isRo; exact blt_false.2 hfzc
                              by_cases hfit : len + n ≤ c'
                              · -- in place
                                rcases hs' with ⟨hA, hC⟩ | ⟨_, e1, _, e2⟩
                                · obtain ⟨_, _, i0, hi0, e1, e2⟩ := hA
                                  rcases hC with hC | ⟨k, hk, hlc, i1, hi1, hcs⟩
                                  · omega
                                  · rw [hi0] at hi1; cases hi1
                                    have hksz : k = sz := by omega
                                    subst hksz
                                    obtain ⟨o', ho', c0, lo, hi', e3, e4, e5, hcc, e6, e7⟩ := h.gr.obj _ _ _ hi0 hb
                                    subst e3
                                    have hmul : (len + n) * k ≤ c' * k := Nat.mul_le_mul_right _ hfit
                                    have hadd : (len + n) * k = len * k + n * k := Nat.add_mul ..
                                    have haddr : a'.add (len * k) = ⟨a'.block, a'.off + len * k, none⟩ := add_none ha'n _
                                    obtain ⟨w', hst', hu'⟩ := run_storeCells (P := P) new' (a'.add (len * k)) 0 w c0 e lo hi' (by rw [haddr]) (by rw [haddr, e1]; exact ho') (by rw [haddr]; simp only; omega) (fun j j1 j2 => by
                                      rw [haddr] at j1 j2
                                      simp only at j1 j2
                                      rcases e6 with e6 | e6 | e6
                                      · omega
                                      · omega
                                      · cases sg
                                        · simp only [Bool.false_eq_true, if_false] at e6; omega
                                        · simp only [if_true] at e6; omega) (hvn.one hnew.1)
                                    rw [haddr, e1] at hu'
                                    have hobj : ObjR P T g ⟨i0.blk, a'.off, i0.csz⟩ (.cells (old ++ new) e fz sg) (.cells (layA c0 (a'.off + len * k + 0) new') e (lo, hi')) := by
                                      refine ⟨_, lo, hi', rfl, by rw [layA_size]; exact e4, ?_, fun j v ej => ?_, ?_, .inr hck3⟩
                                      · have := hvn.length
                                        simp only [List.length_append, hol]; omega
                                      · rw [layA_get new' c0 _ _ (by omega)]
                                        simp only
                                        by_cases hj : j < old.length
                                        · rw [List.getElem?_append_left hj] at ej
                                          rw [if_neg (by omega)]
                                          obtain ⟨hs1, hs2⟩ := sub_some hold
                                          rw [hs2 j (by omega)] at ej
                                          obtain ⟨v', p, q⟩ := hcc _ _ ej
                                          exact ⟨v', by rw [show a'.off + j = i0.del + (a.off + j) from by omega]; exact p, q⟩
                                        · rw [List.getElem?_append_right (by omega)] at ej
                                          have hjn : j - old.length < new.length := by
                                            rcases Nat.lt_or_ge (j - old.length) new.length with h | h
                                            · exact h
                                            · rw [List.getElem?_eq_none h] at ej; cases ej
                                          have := hvn.length
                                          rw [if_pos (by omega)]
                                          obtain ⟨v', p, q⟩ := hvn.get ej
                                          exact ⟨v', by rw [show a'.off + j - (a'.off + len * k + 0) = j - old.length from by omega]; exact p, q⟩
                                      · rcases e6 with e6 | e6 | e6
                                        · exact .inl e6
                                        · omega
                                        · refine .inr (.inr ?_)
                                          cases sg
                                          · simp only [Bool.false_eq_true, if_false] at e6 ⊢; omega
                                          · simpa using e6
                                    obtain ⟨m1, m2⟩ := h.moveG hi0 hb hro hu' (i' := ⟨i0.blk, a'.off, i0.csz⟩) rfl hobj
                                    refine ⟨_, _, hr, _, w', _, append_in hst hu hsz hz hsrc hfit (fun a2 e2 => by cases e2; exact hst') (fun e2 => by cases e2), m1, m2, .g (.slc ⟨rfl, ha'n, ⟨i0.blk, a'.off, i0.csz⟩, GM.bind_same _ _ _, e1, (Nat.zero_add _).symm⟩ (.inr ⟨k, rfl, hfit, _, GM.bind_same _ _ _, ?_⟩))⟩
                                    exact hcs
                                · omega
                              · obtain ⟨old', hvo, cap', w', hcap, hw, hrun⟩ := hgrow (by omega)
                                have hd : ∃ i0, g a.block = some i0 := by
                                  rcases hs' with ⟨⟨_, _, i0, e, _⟩, _⟩ | ⟨⟨_, _, i0, e, _⟩ | e, _⟩
                                  · exact ⟨i0, e⟩
                                  · exact ⟨i0, e⟩
                                  · exact absurd hsp e.1
                                obtain ⟨i0, hi0⟩ := hd
                                obtain ⟨m1, m2⟩ := h.die hi0 hb hro
                                obtain ⟨m3, m4⟩ := m1.allocG hw (row_obj' (P := P) (T := T) (hvo.append hvn) w.heap.size (fz := fz) (sg := sg))
                                rw [Hp.next_put] at m3 m4
                                refine ⟨_, _, hr, _, w', _, hrun, m3, m2.trans h.gr m4, .g (.slc ⟨rfl, rfl, _, GM.bind_same _ _ _, rfl, rfl⟩ (.inr ⟨sz, rfl, hcap, _, GM.bind_same _ _ _, hgrown hvo hcap⟩))⟩
                            · cases hr
                          · -- the capacity is known
                            rename_i hcU
                            have hcU : cap < capU := blt_iff.1 hcU
                            obtain ⟨e1, hp⟩ := hs.cap hcU
                            subst e1
                            split at hr
                            · rename_i hfit
                              split at hr
                              · rename_i hfz
                                split at hr
                                · rename_i c1 hlay
                                  have hwr : wr s H (addA a (len * sz)) new (fun s H => K (.slice (some a) (len + n) c') s H) = some r := by
                                    unfold wr addA
                                    simp only [hsp, hb, hfz, hlay]
                                    exact hr
                                  obtain ⟨ls1, H1, hk, hwk, w', hst', m1, m2⟩ := wr_ok h (hp.add (len * sz)) hvn hnew.1 hwr
                                  have els : ls1 = s.ls := by
                                    rcases hwk with hwk | hwk
                                    · exact hwk.2
                                    · exact absurd hsp hwk.1
                                  subst els
                                  rw [withL_self] at hk
                                  exact ⟨_, H1, hk, _, w', g, append_in hst hu hsz hz hsrc hfit (fun a2 e2 => by cases e2; exact hst') (fun e2 => by cases e2), m1, m2, hp.slc _ hcU⟩
                                · cases hr
                              · cases hr
                            · rename_i hfit
                              obtain ⟨old', hvo, cap', w', hcap, hw, hrun⟩ := hgrow (by omega)
                              obtain ⟨m3, m4⟩ := h.allocG hw (row_obj' (P := P) (T := T) (hvo.append hvn) w.heap.size (fz := 0) (sg := false))
                              refine ⟨_, _, hr, _, w', _, hrun, m3, m4, .g (.slc ⟨rfl, rfl, _, GM.bind_same _ _ _, rfl, rfl⟩ (.inr ⟨sz, rfl, hcap, _, GM.bind_same _ _ _, hgrown hvo hcap⟩))⟩
                        · cases hr
                  · cases hr
            · cases hr
      · cases hr
    · cases hr

end Go.Ev
end
section
set_option linter.unusedSimpArgs false
set_option linter.unusedVariables false
set_option maxHeartbeats 1000000
namespace Go.Ev
variable {P : Program} {T : Tab} {α : Type}

/-! ### copy -/
theorem Upd.self {w : World} {b : Nat} {o : Obj} (h : w.heap[b]? = some o) : Upd w b o w := ⟨rfl, h, fun _ _ => rfl, rfl, rfl, rfl⟩

theorem wr_nil {g : GM} {l : LM} {s : Env} {H : Hp} {w : World} (h : MR P T g l s.ls H w) {a : Addr} (hs : a.spot = none) {i : Img} (hi : g a.block = some i) {K : Env → Hp → Option α} {r : α}
    (hr : wr s H a [] K = some r) : ∃ H1, K s H1 = some r ∧ MR P T g l s.ls H1 w ∧ Stp P T g l s.ls H w g l s.ls H1 w := by
  unfold wr at hr
  rw [hs] at hr
  simp only at hr
  split at hr
  · rename_i c e fz sg hb
    split at hr
    · split at hr
      · rename_i c1 hlay
        obtain ⟨h1, h2, h3⟩ := lay_some hlay
        obtain ⟨o', ho', hob⟩ := h.gr.obj _ _ _ hi hb
        have e1 : c1 = c := List.ext_getElem? fun k => by rw [h3 k, if_neg (by simp)]
        subst e1
        obtain ⟨m1, m2⟩ := h.updG hi hb (by unfold isRo; exact blt_false.2 (by simp at h1; rename_i hfz _; have hfz := (Nat.ble_eq ..).mp hfz; omega)) (Upd.self ho') hob
        exact ⟨_, hr, m1, m2⟩
      · cases hr
    · cases hr
  · cases hr

theorem VGL.takeL {g : GM} {l l' : List Value} (h : VGL g l l') (n : Nat) : VGL g (l.take n) (l'.take n) := h.take n
theorem all_take {p : Value → Bool} : ∀ (l : List Value) (n : Nat), l.all p = true → (l.take n).all p = true
  | [], n, _ => by simp
  | _ :: _, 0, _ => by simp
  | a :: l, n + 1, h => by
    simp only [List.all_cons, Bool.and_eq_true] at h
    simp only [List.take_succ_cons, List.all_cons, Bool.and_eq_true]
    exact ⟨h.1, all_take l n h.2⟩

theorem copyK_run {g : GM} {l : LM} {s : Env} {H : Hp} {w : World} (h : MR P T g l s.ls H w) {argTypes : Array TypeId} {ty : TypeId} {x x' y y' : Value} (hx : VR g l x x') (hy : VR g l y y') {K : Value → Env → Hp → Option α} {r : α}
    (hr : copyK P argTypes x y s H K = some r) : ∃ v H1, K v s H1 = some r ∧ Eff P T (Builtin.copy_ argTypes ty #[x', y']) g l s.ls H w v s.ls H1 := by
  unfold copyK at hr
  split at hr
  · cases hr
  · rename_i st hst
    have hst : argTypes[0]? = some st := by rw [lget_eq] at hst; simpa using hst
    split at hr
    · rename_i e hu
      split at hr
      · rename_i sz hsz
        obtain ⟨n, new, new', hr2, hvn, hsrc⟩ := srcC_run h hy hr
        clear hr
        have hr := hr2
        clear hr2
        split at hr
        · cases hr
        · rename_i hnew
          simp only [Bool.and_eq_true] at hnew
          split at hr
          · rename_i len cap
            split at hr
            · rename_i hl
              have hl : len = 0 := by simpa using hl
              subst hl
              rw [hx.slcN_inv]
              refine ⟨_, H, hr, Eff.same h ?_ (.g (.int .i64 0))⟩
              have hf := hsrc.first w ⟨rfl, rfl, rfl, rfl⟩ 0 (Nat.zero_le _)
              have hm : Nat.min n 0 = 0 := Nat.min_zero n
              simp [Builtin.copy_, hst, run_underlying hu, szOf_run hsz, hsrc.lenOf w, hm, hf, goInt]
            · cases hr
          · rename_i a len cap
            split at hr
            · cases hr
            · rename_i hsp
              obtain ⟨a', c', rfl, hs⟩ := hx.slc_inv
              have hf := hsrc.first w ⟨rfl, rfl, rfl, rfl⟩ (Nat.min n len) (Nat.min_le_left _ _)
              have fin : ∀ H1 w' , K (.int .i64 (Nat.min n len : Nat)) s H1 = some r → (storeCells a' (new'.take (Nat.min n len * sz))).run P w = .ok () w' → MR P T g l s.ls H1 w' → Stp P T g l s.ls H w g l s.ls H1 w' →
                  ∃ v H1, K v s H1 = some r ∧ Eff P T (Builtin.copy_ argTypes ty #[.slice (some a') len c', y']) g l s.ls H w v s.ls H1 := by
                intro H1 w' hk hst' m1 m2
                refine ⟨_, H1, hk, .int .i64 (Nat.min n len : Nat), w', g, ?_, m1, m2, .g (.int _ _)⟩
                simp only [Builtin.copy_, Sem.run_bind, run_underlying hu, Result.andThen_ok, hsrc.lenOf w, szOf_run hsz, hf, hst, List.getElem?_toArray, List.getElem?_cons_zero, List.getElem?_cons_succ, hst', goInt]
                rfl
              have hcase : PR g l a a' ∨ (ER g l a a' ∧ len = 0) := by
                cases hs with
                | g a _ => exact .inl (.inl a)
                | l a _ => exact .inl (.inr a)
                | e a b _ _ => exact .inr ⟨a, b⟩
              rcases hcase with hp | ⟨he, hl⟩
              · obtain ⟨ls1, H1, hk, hwk, w', hst', m1, m2⟩ := wr_ok h hp (hvn.take (min n len * sz)) (all_take _ _ hnew.1) hr
                have els : ls1 = s.ls := by
                  rcases hwk with hwk | hwk
                  · exact hwk.2
                  · exact absurd hsp hwk.1
                subst els
                rw [withL_self] at hk
                exact fin H1 w' hk hst' m1 m2
              · subst hl
                have hm : Nat.min n 0 = 0 := Nat.min_zero n
                have hm2 : min n 0 = 0 := Nat.min_zero n
                have e0 : new.take (min n 0 * sz) = [] := by rw [hm2]; simp
                rw [e0] at hr
                rcases he with ⟨_, _, i, hi, _⟩ | he
                · obtain ⟨H1, hk, m1, m2⟩ := wr_nil h hsp hi hr
                  refine fin H1 w hk ?_ m1 m2
                  rw [hm]; simp [storeCells]
                · exact absurd hsp he.1
          · cases hr
      · cases hr
    · cases hr

/-! ### len of a map, look-ups, updates -/
theorem VR.map_inv {g : GM} {l : LM} {r : Nat} {x' : Value} (h : VR g l (.map (some r)) x') : ∃ i, g r = some i ∧ x' = .map (some i.blk) := by
  cases h with | g h => cases h with | map h => exact ⟨_, h, rfl⟩
theorem VR.mapN_inv {g : GM} {l : LM} {x' : Value} (h : VR g l (.map none) x') : x' = .map none := by
  cases h with | g h => cases h; rfl
theorem EntL.length {g : GM} : ∀ {l l' : List MapEntry}, EntL g l l' → l.length = l'.length
  | _, _, .nil => rfl
  | _, _, .cons _ k => by simp [EntL.length k]

theorem run_getObj_map {w : World} {r : Nat} {es : Array MapEntry} {cl : Nat} (h : w.heap[r]? = some (.map es cl)) : (getObj r).run P w = .ok (.map es cl) w := by
  simp [getObj, Sem.run, h]

theorem lenK_run {g : GM} {l : LM} {ls : LS} {H : Hp} {w : World} (h : MR P T g l ls H w) {argTypes : Array TypeId} {t ty : TypeId} (ht : lget argTypes.toList 0 = some t) {x x' : Value} (hx : VR g l x x') {K : Value → Option α} {r : α}
    (hr : lenK P t x H K = some r) : ∃ v, K v = some r ∧ ∃ v', (Builtin.len_ argTypes ty #[x']).run P w = .ok v' w ∧ VR g l v v' := by
  have ht : argTypes[0]? = some t := by rw [lget_eq] at ht; simpa using ht
  unfold lenK at hr
  split at hr
  · rename_i hu
    split at hr
    · rw [hx.string]
      exact ⟨_, hr, _, by simp [Builtin.len_, ht, run_underlying hu, goInt], .g (.int _ _)⟩
    · cases hr
  · rename_i n e hu
    exact ⟨_, hr, _, by simp [Builtin.len_, ht, run_underlying hu, goInt], .g (.int _ _)⟩
  · rename_i e hu
    split at hr
    · rename_i a n c
      cases a with
      | none => rw [hx.slcN_inv]; exact ⟨_, hr, _, by simp [Builtin.len_, ht, run_underlying hu, goInt], .g (.int _ _)⟩
      | some a => obtain ⟨a', c', rfl, _⟩ := hx.slc_inv; exact ⟨_, hr, _, by simp [Builtin.len_, ht, run_underlying hu, goInt], .g (.int _ _)⟩
    · cases hr
  · rename_i k e hu
    split at hr
    · rw [hx.mapN_inv]
      exact ⟨_, hr, _, by simp [Builtin.len_, ht, run_underlying hu, goInt], .g (.int _ _)⟩
    · rename_i b
      split at hr
      · rename_i es cl hb
        obtain ⟨i, hi, rfl⟩ := hx.map_inv
        obtain ⟨o', ho', es', rfl, hes⟩ := h.gr.obj _ _ _ hi hb
        refine ⟨_, hr, .int .i64 es.length, ?_, .g (.int _ _)⟩
        have := hes.length
        simp only [Array.length_toList] at this
        simp [Builtin.len_, ht, run_underlying hu, run_getObj_map ho', goInt, this]
      · cases hr
    · cases hr
  · cases hr

/-- A key that is a whole number, a bool, a text. -/
def plainKey : Value → Bool
  | .int _ _ => true
  | .bool _ => true
  | .string _ => true
  | _ => false
theorem VR.plain {g : GM} {l : LM} {k k' : Value} (h : VR g l k k') (hp : plainKey k = true) : k' = k := by
  cases k <;> first | (cases hp; done) | skip
  · exact h.bool
  · exact h.int
  · exact h.string
theorem keyEq_same {d : TypeDesc} {a b : Value} {r : Bool} (h : keyEq d a b = some r) : plainKey a = true ∧ plainKey b = true ∧ Instr.sameNow d a b = some r ∧ (r = true → Instr.sameBits 10000 b a = true) ∧
    (d = .bool ∨ d = .string ∨ ∃ k, d = .int k) := by
  unfold keyEq at h
  split at h
  · split at h
    · split at h
      · rename_i hk
        have hk := of_decide_eq_true hk
        subst hk
        cases h
        refine ⟨rfl, rfl, by simp [Instr.sameNow], fun e => ?_, .inr (.inr ⟨_, rfl⟩)⟩
        simp at e; simp [Instr.sameBits, e]
      · cases h
    · cases h
  · split at h
    · cases h
      refine ⟨rfl, rfl, ?_, fun e => ?_, .inr (.inl rfl)⟩
      · simp [Instr.sameNow, beqB_eq, beq_toListBytes, ba_toList]
      · rw [beqB_eq] at e
        simp at e; simp [Instr.sameBits, beq_toListBytes, ba_toList, e]
    · cases h
  · split at h
    · cases h
      refine ⟨rfl, rfl, by simp [Instr.sameNow], fun e => ?_, .inl rfl⟩
      simp at e; simp [Instr.sameBits, e]
    · cases h
  · cases h

theorem findK_run {g : GM} {d : TypeDesc} {k : Value} : ∀ {es es' : List MapEntry}, EntL g es es' → ∀ (i : Nat) {K : Option (Nat × Value) → Option α} {r : α}, findK d k es i K = some r →
    (K none = some r ∧ Instr.findNow d k es' i = some none) ∨ ∃ j e e', es[j]? = some e ∧ es'[j]? = some e' ∧ EntR g e e' ∧ K (some (i + j, e.val)) = some r ∧ Instr.findNow d k es' i = some (some (i + j, e'.val)) ∧ Instr.sameBits 10000 e'.key k = true
  | _, _, .nil, i, K, r, h => .inl ⟨h, rfl⟩
  | e :: es, e' :: es', .cons he hes, i, K, r, h => by
    simp only [findK] at h
    split at h
    · cases h
    · rename_i b hb
      obtain ⟨h1, h2, h3, h4, _⟩ := keyEq_same hb
      have hk : e'.key = e.key := VR.plain (l := fun _ => none) (.g he.1) h2
      split at h
      · refine .inr ⟨0, e, e', rfl, rfl, he, h, ?_, ?_⟩
        · simp [Instr.findNow, hk, h3]
        · rw [hk]; exact h4 rfl
      · rcases findK_run hes (i + 1) h with ⟨p, q⟩ | ⟨j, e1, e1', p1, p2, p3, p4, p5, p6⟩
        · exact .inl ⟨p, by simp [Instr.findNow, hk, h3, q]⟩
        · refine .inr ⟨j + 1, e1, e1', by simpa using p1, by simpa using p2, p3, ?_, ?_, p6⟩
          · rw [show i + (j + 1) = i + 1 + j from by omega]; exact p4
          · simp only [Instr.findNow, hk, h3]; rw [show i + (j + 1) = i + 1 + j from by omega]; exact p5

theorem checkKey_ok {b : Bool} {n : Nat} {t : TypeId} {d : TypeDesc} {v : Value} (hu : P.underlying t = some d) (hd : d = .bool ∨ d = .string ∨ ∃ k, d = .int k) (w : World) : (Instr.checkKey b (n + 1) t v).run P w = .ok () w := by
  rcases hd with rfl | rfl | ⟨k, rfl⟩ <;> simp [Instr.checkKey, run_underlying hu]

theorem findKey_ok {t : TypeId} {d : TypeDesc} {k : Value} {es : List MapEntry} {r : Option (Nat × Value)} (hu : P.underlying t = some d) (h : Instr.findNow d k es 0 = some r) (w : World) : (Instr.findKey t k es).run P w = .ok r w := by
  simp [Instr.findKey, run_underlying hu, h]

theorem okTup {g : GM} {l : LM} {v v' : Value} (ok b : Bool) (hv : VG g v v') : VR g l (match ok with | true => .tuple ⟨[v, .bool b]⟩ | false => v) (if ok then .tuple #[v', .bool b] else v') := by
  cases ok
  · exact .g hv
  · exact .g (.tuple (.cons hv (.cons (.bool _) .nil)))

theorem lookupK_run {g : GM} {l : LM} {s : Env} {H : Hp} {w : World} (h : MR P T g l s.ls H w) {t : TypeId} {m m' k k' : Value} {ok : Bool} (hm : VR g l m m') (hk : VR g l k k') {K : Value → Env → Hp → Option α} {r : α}
    (hr : lookupK P t m k ok s H K = some r) : ∃ v, K v s H = some r ∧ ∃ v', (Instr.lookup t m' k' ok).run P w = .ok v' w ∧ VR g l v v' := by
  obtain ⟨D, hD⟩ : ∃ D, 10000 = D + 1 := ⟨9999, rfl⟩
  unfold lookupK at hr
  split at hr
  · rename_i kt e hu
    split at hr
    · rename_i d hd
      split at hr
      · cases hr
      · rename_i zv hz
        obtain ⟨zv', hzr, hzg⟩ := zeroV_run hz w
        dsimp only at hr
        split at hr
        · cases hr
        · rename_i b hb
          obtain ⟨h1, _, _, _, hkd⟩ := keyEq_same hb
          have ek : k' = k := hk.plain h1
          subst ek
          cases m <;> first | (cases hr; done) | skip
          rename_i mo
          cases mo with
          | none =>
            rw [hm.mapN_inv]
            dsimp only at hr
            refine ⟨_, hr, _, ?_, okTup ok false (hzg g)⟩
            have hf : (Instr.findKey kt k' []).run P w = .ok none w := findKey_ok hd rfl w
            simp only [Instr.lookup, Sem.run_bind, run_underlying hu, Result.andThen_ok, Sem.run_pure]
            rw [hD, checkKey_ok hd hkd]
            simp only [Result.andThen_ok]
            rw [hf]
            simp only [Result.andThen_ok, Sem.run_bind, hzr, Sem.run_pure]
          | some b' =>
            dsimp only at hr
            split at hr
            · rename_i es cl hes
              obtain ⟨i, hi, rfl⟩ := hm.map_inv
              obtain ⟨o', ho', es', rfl, hent⟩ := h.gr.obj _ _ _ hi hes
              have base : ∀ {q : Option (Nat × Value)}, Instr.findNow d k' es'.toList 0 = some q → ∀ {v' : Value} {bb : Bool}, (∀ w0, w0 = w → (match q with | some (_, v) => (pure (v, true) : Sem (Value × Bool)) | none => do pure (← zeroValue e, false)).run P w0 = .ok (v', bb) w) →
                  (Instr.lookup t (.map (some i.blk)) k' ok).run P w = .ok (if ok then .tuple #[v', .bool bb] else v') w := by
                intro q hq v' bb hz
                have hf := findKey_ok (P := P) hd hq w
                have hz := hz w rfl
                simp only [Instr.lookup, Sem.run_bind, run_underlying hu, Result.andThen_ok, run_getObj_map ho', Sem.run_pure]
                rw [hD, checkKey_ok hd hkd]
                simp only [Result.andThen_ok, hf]
                cases q with
                | none =>
                  simp only [Sem.run_bind, hzr, Result.andThen_ok, Sem.run_pure] at hz ⊢
                  cases hz; rfl
                | some q =>
                  simp only [Sem.run_pure] at hz
                  cases hz; rfl
              rcases findK_run hent 0 hr with ⟨p, q⟩ | ⟨j, e1, e1', p1, p2, p3, p4, p5, p6⟩
              · exact ⟨_, p, _, base q (v' := zv') (bb := false) (fun w0 e0 => by subst e0; simp [hzr]), okTup ok false (hzg g)⟩
              · exact ⟨_, p4, _, base p5 (v' := e1'.val) (bb := true) (fun w0 e0 => by subst e0; rfl), okTup ok true p3.2.1⟩
            · cases hr
    · cases hr
  · cases hr

end Go.Ev
end
section
set_option linter.unusedSimpArgs false
set_option linter.unusedVariables false
set_option maxHeartbeats 1000000
namespace Go.Ev
variable {P : Program} {T : Tab} {α : Type}

theorem EntL.get {g : GM} : ∀ {l l' : List MapEntry}, EntL g l l' → ∀ {n : Nat} {e : MapEntry}, l[n]? = some e → ∃ e', l'[n]? = some e' ∧ EntR g e e'
  | _, _, .nil, n, v, h => by simp at h
  | _, _, .cons a b, 0, v, h => by simp at h; subst h; exact ⟨_, by simp, a⟩
  | _, _, .cons a b, n + 1, v, h => by simp at h; simpa using EntL.get b h
theorem EntL.set {g : GM} : ∀ {l l' : List MapEntry}, EntL g l l' → ∀ (n : Nat) {e e' : MapEntry}, EntR g e e' → EntL g (l.set n e) (l'.set n e')
  | _, _, .nil, n, _, _, _ => by simpa using EntL.nil
  | _, _, .cons a b, 0, _, _, h => .cons h b
  | _, _, .cons a b, n + 1, _, _, h => .cons a (EntL.set b n h)
theorem EntL.push {g : GM} : ∀ {l l' : List MapEntry}, EntL g l l' → ∀ {e e' : MapEntry}, EntR g e e' → EntL g (l ++ [e]) (l' ++ [e'])
  | _, _, .nil, _, _, h => .cons h .nil
  | _, _, .cons a b, _, _, h => .cons a (EntL.push b h)

theorem run_setObj_map {w : World} {r : Nat} {es : Array MapEntry} {cl : Nat} (h : w.heap[r]? = some (.map es cl)) (o : Obj) : (setObj r o).run P w = .ok () { w with heap := w.heap.setIfInBounds r o } := by
  simp [setObj, Sem.run, h]

theorem modify_toList (es : Array MapEntry) (j : Nat) (e : MapEntry) (f : MapEntry → MapEntry) (h : es.toList[j]? = some e) : (es.modify j f).toList = es.toList.set j (f e) := by
  apply List.ext_getElem?
  intro k
  simp only [Array.getElem?_toList, Array.getElem?_modify, List.getElem?_set]
  have hj : j < es.size := by
    rcases Nat.lt_or_ge j es.size with h' | h'
    · exact h'
    · rw [List.getElem?_eq_none (by simpa using h')] at h; cases h
  by_cases hk : j = k
  · subst hk
    simp only [Array.getElem?_toList] at h
    rw [Array.getElem?_eq_getElem hj] at h
    simp only [Option.some.injEq] at h
    simp [h, hj]
  · simp [hk]

theorem plain_nl {v : Value} (h : plainKey v = true) : nl v = true := by cases v <;> first | rfl | (cases h; done)
theorem mapUpK_run {g : GM} {l : LM} {s : Env} {H : Hp} {w : World} (h : MR P T g l s.ls H w) {t : TypeId} {m m' k k' x x' : Value} (hm : VR g l m m') (hk : VR g l k k') (hx : VR g l x x') {K : Value → Env → Hp → Option α} {r : α}
    (hr : mapUpK P t m k x s H K = some r) : ∃ H1, K undefV s H1 = some r ∧ ∃ w', (Instr.mapUpdate t m' k' x').run P w = .ok () w' ∧ MR P T g l s.ls H1 w' ∧ Stp P T g l s.ls H w g l s.ls H1 w' := by
  obtain ⟨D, hD⟩ : ∃ D, 10000 = D + 1 := ⟨9999, rfl⟩
  unfold mapUpK at hr
  split at hr
  · rename_i kt e hu
    split at hr
    · rename_i d hd
      split at hr
      · cases hr
      · rename_i b hb
        obtain ⟨h1, _, _, _, hkd⟩ := keyEq_same hb
        have ek : k' = k := hk.plain h1
        subst ek
        have hkk : VG g k' k' := hk.nl (plain_nl h1)
        split at hr
        · cases hr
        · rename_i hnl
          have hxg := hx.nl hnl
          cases m <;> first | (cases hr; done) | skip
          rename_i mo
          cases mo with
          | none => cases hr
          | some b' =>
            dsimp only at hr
            split at hr
            · rename_i es cl hes
              obtain ⟨i, hi, rfl⟩ := hm.map_inv
              obtain ⟨o', ho', es', rfl, hent⟩ := h.gr.obj _ _ _ hi hes
              have hlt := h.gr.lt _ _ hi
              have pre : ∀ {q : Option (Nat × Value)}, Instr.findNow d k' es'.toList 0 = some q → (Instr.mapUpdate t (.map (some i.blk)) k' x').run P w =
                  (match q with
                    | some (i', _) => do
                      let key ← Instr.keyThatStays (((es'[i']?).map (·.key)).getD k') k'
                      setObj i.blk (.map (es'.modify i' fun e => { e with key, val := x' }) cl)
                    | none => setObj i.blk (.map (es'.push { key := k', val := x', born := cl }) (cl + 1)) : Sem Unit).run P w := by
                intro q hq
                have hf := findKey_ok (P := P) hd hq w
                simp only [Instr.mapUpdate, Sem.run_bind, run_underlying hu, Result.andThen_ok, run_getObj_map ho']
                rw [hD, checkKey_ok hd hkd]
                simp only [Result.andThen_ok, hf]
                cases q <;> rfl
              rcases findK_run hent 0 hr with ⟨p, q⟩ | ⟨j, e1, e1', p1, p2, p3, p4, p5, p6⟩
              · obtain ⟨m1, m2⟩ := h.updG hi hes rfl (o' := .map (es ++ [⟨k', x, cl⟩]) (cl + 1)) (Upd.setBlk hlt (.map (es'.push { key := k', val := x', born := cl }) (cl + 1))) ⟨_, rfl, by
                  rw [Array.toList_push]; exact hent.push ⟨hkk, hxg, rfl⟩⟩
                exact ⟨_, p, _, by rw [pre q]; exact run_setObj_map ho' _, m1, m2⟩
              · simp only [Nat.zero_add] at p4 p5
                have e2 : modE es j k' x = es.set j ⟨k', x, e1.born⟩ := by unfold modE; rw [lget_eq, p1]
                rw [e2] at p4
                have p2' : es'[j]? = some e1' := by simpa using p2
                obtain ⟨m1, m2⟩ := h.updG hi hes rfl (o' := .map (es.set j ⟨k', x, e1.born⟩) cl) (Upd.setBlk hlt (.map (es'.modify j fun e => { e with key := k', val := x' }) cl)) ⟨_, rfl, by
                  rw [modify_toList es' j e1' _ p2]
                  exact hent.set j ⟨hkk, hxg, p3.2.2⟩⟩
                refine ⟨_, p4, _, ?_, m1, m2⟩
                rw [pre p5]
                simp only [p2', Option.map_some, Option.getD_some, Sem.run_bind, Instr.keyThatStays, p6, if_true, Sem.run_pure, Result.andThen_ok]
                exact run_setObj_map ho' _
            · cases hr
    · cases hr
  · cases hr

/-! ### Conversions -/
theorem toBytes_vgl {g : GM} : ∀ {l : List Value} {b : List UInt8} {l' : List Value}, toBytes l = some b → VGL g l l' → ∃ ns : List Int, l' = ns.map (Value.int .u8) ∧ ns.map (fun n => UInt8.ofNat n.toNat) = b
  | [], b, _, h, .nil => by simp [toBytes] at h; subst h; exact ⟨[], rfl, rfl⟩
  | v :: l, b, _, h, .cons (v' := v') (l' := l') hv hl => by
    simp only [toBytes] at h
    split at h
    · cases h
    · rename_i c hc
      split at h
      · rename_i r hr
        simp only [Option.some.injEq] at h
        subst h
        obtain ⟨ns, e1, e2⟩ := toBytes_vgl hr hl
        unfold toByte at hc
        split at hc
        · rename_i n
          simp only [Option.some.injEq] at hc
          cases hv
          exact ⟨n :: ns, by rw [e1]; rfl, by simp [e2, hc]⟩
        · cases hc
      · cases h

theorem fold_push : ∀ (ns : List Int) (r : ByteArray), ns.foldl (fun r n => r.push (UInt8.ofNat n.toNat)) r = ⟨⟨r.data.toList ++ ns.map (fun n => UInt8.ofNat n.toNat)⟩⟩
  | [], r => by simp
  | n :: ns, r => by
    rw [List.foldl_cons, fold_push ns]
    simp [ByteArray.push]

theorem cToStr_run {g : GM} {l : LM} {s : Env} {H : Hp} {w : World} (h : MR P T g l s.ls H w) {src d : TypeId} {us : TypeDesc} (hus : P.underlying src = some us) (hud : P.underlying d = some .string) {x x' : Value} (hx : VR g l x x') {K : Value → Env → Hp → Option α} {r : α}
    (hr : cToStr P us x s H K = some r) : ∃ v, K v s H = some r ∧ ∃ v', (convert src d x').run P w = .ok v' w ∧ VR g l v v' := by
  unfold cToStr at hr
  split at hr
  · split at hr
    · rw [hx.string]
      exact ⟨_, hr, _, by simp [convert, run_underlying hus, run_underlying hud], .g (.string _)⟩
    · cases hr
  · rename_i e
    split at hr
    · rename_i he
      split at hr
      · rw [hx.slcN_inv]
        refine ⟨_, hr, .string .empty, ?_, .g (.string _)⟩
        rw [run_convert_bytes_string w src d e none _ _ hus he hud]
        simp [Conv.bytesToString]
      · rename_i a len cap
        split at hr
        · rename_i cs hrd
          split at hr
          · rename_i b hb
            obtain ⟨a', c', rfl, hs⟩ := hx.slc_inv
            have key : ∀ cs', VGL g cs cs' → cs'.length = len → (loadCells a' cs'.length).run P w = .ok cs'.toArray w → ∃ v', (convert src d (.slice (some a') len c')).run P w = .ok v' w ∧ VR g l (.string ⟨⟨b⟩⟩) v' := by
              intro cs' hv hl hld
              obtain ⟨ns, e1, e2⟩ := toBytes_vgl hb hv
              refine ⟨.string ⟨⟨b⟩⟩, ?_, .g (.string _)⟩
              rw [run_convert_bytes_string w src d e (some a') _ _ hus he hud, run_bytesToString w a' len c' ns (by rw [← hl]; rw [e1] at hld ⊢; exact hld), fold_push, e2]
              rfl
            refine ⟨_, hr, ?_⟩
            cases hs with
            | g ha _ =>
              obtain ⟨cs', hv, hl, hat⟩ := rd_ok h (.inl ha) hrd
              exact key cs' hv hl (hat.loadCells (PR.spot (l := l) (.inl ha)))
            | l ha _ =>
              obtain ⟨cs', hv, hl, hat⟩ := rd_ok h (.inr ha) hrd
              exact key cs' hv hl (hat.loadCells (PR.spot (g := g) (.inr ha)))
            | e ha hn _ _ =>
              subst hn
              have e0 : cs = [] := List.eq_nil_of_length_eq_zero (rd_len hrd)
              subst e0
              exact key [] .nil rfl (by simp [loadCells, loadCellsFrom])
          · cases hr
        · cases hr
      · cases hr
    · cases hr
  · cases hr

end Go.Ev
end
section
set_option linter.unusedSimpArgs false
set_option linter.unusedVariables false
set_option maxHeartbeats 1000000
namespace Go.Ev
variable {P : Program} {T : Tab} {α : Type}

theorem bytesV_vgl (g : GM) (b : ByteArray) : VGL g (bytesV b) (bytesV b) := by
  unfold bytesV
  generalize b.data.toList = l
  induction l with
  | nil => exact .nil
  | cons a l ih => exact .cons (.int _ _) ih

theorem stringToBytes_run (e : TypeId) (b : ByteArray) (w : World) : ∃ cap w', b.size ≤ cap ∧ New w (.cells (bytesV b ++ List.replicate (cap - b.size) (Value.int .u8 0)).toArray e (cap, cap + 1)) w' ∧
    (Conv.stringToBytes e b).run P w = .ok (.slice (some ⟨w.heap.size, 0, none⟩) b.size cap) w' := by
  have hcap : b.size ≤ grownCap w b.size 0 e := by unfold grownCap; simp only [Question.cut]; omega
  let c : Array Value := b.data.map (fun (x : UInt8) => Value.int .u8 x.toNat) ++ Array.replicate (grownCap w b.size 0 e - b.size) (Value.int .u8 0)
  have hsz : c.size = grownCap w b.size 0 e := by
    have : b.data.size = b.size := rfl
    simp [c]; omega
  have hc : (bytesV b ++ List.replicate (grownCap w b.size 0 e - b.size) (Value.int .u8 0)).toArray = c := by
    apply Array.ext'
    simp [c, bytesV]
  refine ⟨grownCap w b.size 0 e, (w.drew.alloc (.cells c e)).freeze ⟨w.heap.size, c.size, none⟩ 1, hcap, ⟨?_, rfl, rfl, rfl⟩, ?_⟩
  · rw [hc]
    simp only [World.freeze, Nat.one_ne_zero, if_false]
    apply Array.ext_getElem?
    intro k
    show ((w.heap.push (.cells c e)).modify w.heap.size _)[k]? = _
    rw [Array.getElem?_modify, Array.getElem?_push, Array.getElem?_push]
    by_cases hk : k = w.heap.size
    · subst hk
      simp [hsz]
    · rw [if_neg hk, if_neg hk, if_neg (Ne.symm hk)]
  · have e1 : (Conv.stringToBytes e b).run P w = (do markStringish ⟨w.heap.size, 0, none⟩; pure (.slice (some ⟨w.heap.size, 0, none⟩) b.size (grownCap w b.size 0 e)) : Sem Value).run P (w.drew.alloc (.cells c e)) := by
      rfl
    rw [e1]
    have e2 : (w.drew.alloc (.cells c e)).shape? w.heap.size = some (e, c.size) := by
      show (match (w.heap.push (.cells c e))[w.heap.size]? with | some (.cells c elem _) => some (elem, c.size) | _ => none) = _
      simp
    simp only [markStringish, Sem.run_bind, shape, Sem.run, e2, freeze, Result.andThen_ok]
    rfl

theorem cToBytes_run {fn : FuncId} {dst : Option Tmp} {src d e : TypeId} {us : TypeDesc} (hus : P.underlying src = some us) (hud : P.underlying d = some (.slice e)) {b : ByteArray} {s : Env} {H : Hp} {K : Value → Env → Hp → Option α} {r : α}
    (h : cToBytes P T fn dst us e b s H K = some r) : ∃ v s1 H1, K v s1 H1 = some r ∧ Alc P T dst s H (fun _ _ _ y => y = convert src d (.string b)) v s1 H1 := by
  unfold cToBytes at h
  split at h
  · cases h
  · rename_i hns
    split at h
    · rename_i he
      have hc : ∀ w, (convert src d (.string b)).run P w = (Conv.stringToBytes e b).run P w := fun w => by
        simp only [convert, Sem.run_bind, run_underlying hus, run_underlying hud, Result.andThen_ok]
        cases us <;> simp [run_underlying he]
      split at h
      · cases h
      · rename_i t
        split at h
        · refine ⟨_, _, _, h, .g _ _ fun g l w x hx => ?_⟩
          subst hx
          obtain ⟨cap, w', hcap, hw, hr⟩ := stringToBytes_run (P := P) e b w
          have hl : (bytesV b).length = b.size := by simp [bytesV]
          refine ⟨_, w', _, cap, by rw [hc, hr], hw, ⟨_, cap, cap + 1, rfl, by simp [hl]; omega, by simp only; omega, fun k v ek => ?_, .inr (by simp), .inl rfl⟩, fun g' _ hb => .slc ⟨rfl, rfl, _, hb, rfl, rfl⟩ (.inr ⟨1, rfl, hcap, _, hb, by simp⟩)⟩
          obtain ⟨v', p, q⟩ := (bytesV_vgl g b).get ek
          have hk : k < (bytesV b).length := by
            rcases Nat.lt_or_ge k (bytesV b).length with h | h
            · exact h
            · rw [List.getElem?_eq_none h] at ek; cases ek
          refine ⟨v', ?_, q⟩
          simp only [Nat.zero_add, List.getElem?_toArray]
          rw [List.getElem?_append_left hk]; exact p
        · split at h
          · rename_i hl
            refine ⟨_, _, _, h, .l t _ _ rfl hl fun g l w x hx => ?_⟩
            subst hx
            obtain ⟨cap, w', hcap, hw, hr⟩ := stringToBytes_run (P := P) e b w
            have hl : (bytesV b).length = b.size := by simp [bytesV]
            refine ⟨.slice (some ⟨w.heap.size, 0, none⟩) b.size cap, w', _, by rw [hc, hr], hw, ⟨_, e, cap, cap + 1, hw.at_, fun k v ek => ?_, fun k hk => by omega⟩, fun g' l' hb => .slc ⟨by simp, rfl, hb, rfl⟩ (.inr ⟨by omega, hcap⟩)⟩
            obtain ⟨v', p, q⟩ := (bytesV_vgl g b).get ek
            have hk : k < (bytesV b).length := by
              rcases Nat.lt_or_ge k (bytesV b).length with h | h
              · exact h
              · rw [List.getElem?_eq_none h] at ek; cases ek
            refine ⟨v', ?_, q⟩
            simp only [Nat.zero_add, List.getElem?_toArray]
            rw [List.getElem?_append_left hk]; exact p
          · cases h
    · cases h

end Go.Ev
end
section
set_option linter.unusedSimpArgs false
set_option linter.unusedVariables false
set_option maxHeartbeats 1000000
namespace Go.Ev
variable {P : Program} {T : Tab} {α : Type}

theorem shape_run {w : World} {b : Nat} {c : Array Value} {e : TypeId} {fr : Nat × Nat} (h : w.heap[b]? = some (.cells c e fr)) : (shape b).run P w = .ok (some (e, c.size)) w := by
  simp [shape, Sem.run, World.shape?, h]
theorem seenAt_run {w : World} {a : Addr} {c : Array Value} {e : TypeId} {fr : Nat × Nat} (h : w.heap[a.block]? = some (.cells c e fr)) : (Conv.seenAt a).run P w = .ok a w := by
  simp only [Conv.seenAt, viewAt, Sem.run_bind, shape_run h, Result.andThen_ok]
  rfl

theorem cToUns_run {g : GM} {l : LM} {s : Env} {H : Hp} {w : World} (h : MR P T g l s.ls H w) {src d : TypeId} {us : TypeDesc} (hus : P.underlying src = some us) (hud : P.underlying d = some .unsafePointer) {x x' : Value} (hx : VR g l x x') {K : Value → Env → Hp → Option α} {r : α}
    (hr : cToUns P us x s H K = some r) : ∃ v, K v s H = some r ∧ ∃ v', (convert src d x').run P w = .ok v' w ∧ VR g l v v' := by
  unfold cToUns at hr
  split at hr
  · rename_i e
    split at hr
    · rename_i a
      split at hr
      · rename_i n hsz
        split at hr
        · rename_i cs hrd
          obtain ⟨a', rfl, ha⟩ := hx.ptr_inv
          refine ⟨_, hr, _, ?_, ha.vr⟩
          obtain ⟨cs', hv, hl, hat⟩ := rd_ok h ha hrd
          obtain ⟨c, e', fr, hb, hg⟩ := hat
          have hoff : a'.off < c.size := by
            match cs', hl with
            | [v], _ =>
              have := hg 0 v rfl
              rcases Nat.lt_or_ge a'.off c.size with h | h
              · exact h
              · rw [Array.getElem?_eq_none (by omega)] at this; cases this
          have hci : (cellsIn a'.block).run P w = .ok (some c.size) w := by
            simp only [cellsIn, Sem.run_bind, shape_run hb, Result.andThen_ok]; rfl
          have hno : (decide (a'.off ≥ c.size) && a'.spot.isNone) = false := by
            have : decide (a'.off ≥ c.size) = false := by simp; omega
            rw [this]; rfl
          simp only [convert, Sem.run_bind, run_underlying hus, run_underlying hud, Result.andThen_ok, Conv.unsafePointer, seenAt_run hb, hci, szOf_run hsz, hno]
          rfl
        · cases hr
      · cases hr
    · cases hr
  · cases hr

theorem cellsOf_eq {e : TypeId} {n : Nat} (h : szOf P e = some n) : P.cellsOf e = n := by
  obtain ⟨i, hi, hs⟩ := szOf_info h
  simp [Program.cellsOf, hi, hs]

theorem liesAt_row {e : TypeId} {s : Nat} (hc : P.cellsOf e = s) (hs : 0 < s) {count off n : Nat} (ho : off % s = 0) (hn : off / s + n ≤ count) : liesAt P P.depth e count off e n = true := by
  have hd : P.depth = (2 * (P.types.size + Made.depth) + 1) + 1 := rfl
  rw [hd]
  simp only [liesAt, Bool.or_eq_true]
  left
  rw [hd]
  have h0 : s ≠ 0 := by omega
  simp [rowAt, hc, hn, sameLayout, h0, ho]

theorem variablesAt_run {w : World} {a : Addr} {c : Array Value} {e : TypeId} {fr : Nat × Nat} (h : w.heap[a.block]? = some (.cells c e fr)) {s : Nat} (hc : P.cellsOf e = s) (hs : 0 < s) {n : Nat} (ho : a.off % s = 0) (hn : a.off / s + n ≤ c.size / s) :
    (variablesAt a e n).run P w = .ok true w := by
  have := liesAt_row (P := P) hc hs ho hn
  simp only [variablesAt, Sem.run_bind, run_program, Result.andThen_ok, shape_run h, hc, this]
  rfl

theorem cToPtr_run {g : GM} {l : LM} {s : Env} {H : Hp} {w : World} (h : MR P T g l s.ls H w) {src d e : TypeId} {us : TypeDesc} (hus : P.underlying src = some us) (hud : P.underlying d = some (.pointer e)) {x x' : Value} (hx : VR g l x x') {K : Value → Env → Hp → Option α} {r : α}
    (hr : cToPtr P T us e x s H K = some r) : ∃ v, K v s H = some r ∧ ∃ v', (convert src d x').run P w = .ok v' w ∧ VR g l v v' := by
  unfold cToPtr at hr
  split at hr
  · split at hr
    · rename_i a
      split at hr
      · cases hr
      · rename_i hsp
        split at hr
        · rename_i c e' fz sg hb
          split at hr
          · rename_i n hsz
            split at hr
            · rename_i hc
              simp only [Bool.and_eq_true, Nat.beq_eq, Nat.ble_eq] at hc
              obtain ⟨⟨⟨hc1, hc2⟩, hc3⟩, hc4⟩ := hc
              have hc1 : e = e' := hc1
              subst hc1
              obtain ⟨a', rfl, ha⟩ := hx.ptr_inv
              refine ⟨_, hr, _, ?_, ha.vr⟩
              rcases ha with ⟨p, q, i, hi, e1, e2⟩ | ha
              · obtain ⟨o', ho', c', lo, hi', rfl, e4, e5, hcc, e6, e7⟩ := h.gr.obj _ _ _ hi hb
                have hdel : i.del = 0 := by
                  rcases e7 with e7 | e7
                  · exact e7
                  · rw [hc3] at e7; cases e7
                have hcs := cellsOf_eq hsz
                have ho : a'.off = 0 := by omega
                rw [← e1] at ho'
                have hva := variablesAt_run (P := P) ho' hcs (by omega) (n := 1) (by rw [ho]; rfl) (by
                  rw [ho, Nat.zero_div, Nat.zero_add]
                  exact (Nat.one_le_div_iff (by omega)).2 (by omega))
                simp only [convert, Sem.run_bind, run_underlying hus, run_underlying hud, Result.andThen_ok, Conv.unsafePointer, seenAt_run ho', szOf_run hsz, hva, Sem.run_pure]
                simp
              · exact absurd hsp ha.1
            · cases hr
          · cases hr
        · cases hr
    · cases hr
  · cases hr

/-! ### unsafe.SliceData, unsafe.String -/
theorem VRL.one_inv {g : GM} {l : LM} {xs' : List Value} {x : Value} (hl : 1 = xs'.length) (h : ∀ (n : Nat) (v : Value), [x][n]? = some v → ∃ v' : Value, xs'[n]? = some v' ∧ VR g l v v') : ∃ x', xs' = [x'] ∧ VR g l x x' := by
  match xs', hl with
  | [x'], _ =>
    obtain ⟨v', e, hv⟩ := h 0 x rfl
    simp at e; subst e
    exact ⟨_, rfl, hv⟩
theorem VRL.two_inv {g : GM} {l : LM} {xs' : List Value} {x y : Value} (hl : 2 = xs'.length) (h : ∀ (n : Nat) (v : Value), [x, y][n]? = some v → ∃ v' : Value, xs'[n]? = some v' ∧ VR g l v v') : ∃ x' y', xs' = [x', y'] ∧ VR g l x x' ∧ VR g l y y' := by
  match xs', hl with
  | [x', y'], _ =>
    obtain ⟨v', e, hv⟩ := h 0 x rfl
    obtain ⟨u', e', hu⟩ := h 1 y rfl
    simp at e e'; subst e; subst e'
    exact ⟨_, _, rfl, hv, hu⟩

theorem MR.bindD {g : GM} {l : LM} {ls : LS} {H : Hp} {w : World} (h : MR P T g l ls H w) {b : Nat} (hg : g b = none) (hb : b < H.next) (hd : H.get b = none) {i : Img} (hlt : i.blk < w.heap.size) : MR P T (g.bind b i) l ls H w := by
  have hle := GM.le_bind hg i
  have hG : ∀ b' i' o', (g.bind b i) b' = some i' → H.get b' = some o' → g b' = some i' := by
    intro b' i' o' e eo
    by_cases q : b' = b
    · subst q; rw [hd] at eo; cases eo
    · rwa [GM.bind_ne g q] at e
  have hL : ∀ c, Live (g.bind b i) H c → Live g H c := by
    rintro c ⟨b', i', o, e, eo, rfl⟩
    exact ⟨b', i', o, hG _ _ _ e eo, eo, rfl⟩
  refine ⟨⟨fun b' i' e => ?_, fun b' i' e => ?_, fun b' i' o e eo => ?_, fun b₁ b₂ i₁ i₂ o₁ o₂ e₁ e₂ p₁ p₂ q => h.gr.inj b₁ b₂ i₁ i₂ o₁ o₂ (hG _ _ _ e₁ p₁) (hG _ _ _ e₂ p₂) p₁ p₂ q⟩, fun t c ht => ?_, h.li⟩
  · by_cases q : b' = b
    · exact q ▸ hb
    · rw [GM.bind_ne g q] at e; exact h.gr.dom b' i' e
  · by_cases q : b' = b
    · subst q; rw [GM.bind_same] at e; cases e; exact hlt
    · rw [GM.bind_ne g q] at e; exact h.gr.lt b' i' e
  · obtain ⟨x, hx, hy⟩ := h.gr.obj b' i' o (hG _ _ _ e eo) eo
    exact ⟨x, hx, hy.mono hle⟩
  · obtain ⟨p, q, cs, r, s⟩ := h.lc t c ht
    exact ⟨p, fun e => q (hL c e), cs, r, s.mono hle⟩

theorem uSliceData_run {g : GM} {l : LM} {s : Env} {H : Hp} {w : World} (h : MR P T g l s.ls H w) {argTypes : Array TypeId} {ty : TypeId} {x x' : Value} (hx : VR g l x x') {K : Value → Env → Hp → Option α} {r : α}
    (hr : uSliceData P ty [x] s H K = some r) : ∃ v H1, K v s H1 = some r ∧ Eff P T (Builtin.unsafeSliceData_ argTypes ty #[x']) g l s.ls H w v s.ls H1 := by
  have hdef : ∀ (a : Addr) (n c : Nat), Builtin.unsafeSliceData_ argTypes ty #[.slice (some a) n c] = (if c ≠ 0 then pure (.pointer (some a)) else do
      if (← viewAt a.block).isSome then pure (.pointer (some a)) else pure (.pointer (some ⟨← newObj (.view a (← elemOf ty)), 0, none⟩)) : Sem Value) := fun _ _ _ => rfl
  unfold uSliceData at hr
  split at hr
  · rename_i len cap heq
    simp only [List.cons.injEq, and_true] at heq
    subst heq
    rw [hx.slcN_inv]
    exact ⟨_, H, hr, Eff.same h rfl (.g .ptrN)⟩
  · rename_i a n c heq
    simp only [List.cons.injEq, and_true] at heq
    subst heq
    split at hr
    · cases hr
    · rename_i hsp
      obtain ⟨a', c', rfl, hs⟩ := hx.slc_inv
      split at hr
      · split at hr
        · rename_i c0 e fz sg hb
          split at hr
          · rename_i te hte
            have hcase : ∃ i, g a.block = some i ∧ a'.block = i.blk ∧ a'.spot = none := by
              cases hs with
              | g ha _ => obtain ⟨_, q, i, hi, e1, _⟩ := ha; exact ⟨i, hi, e1, q⟩
              | l ha _ => exact absurd hsp ha.1
              | e ha _ _ _ =>
                rcases ha with ⟨_, q, i, hi, e1⟩ | ha
                · exact ⟨i, hi, e1, q⟩
                · exact absurd hsp ha.1
            obtain ⟨i, hi, e1, q⟩ := hcase
            obtain ⟨m1, m2, hdn⟩ := h.grow (H' := H.allocN) (by simp) (fun b hb => Hp.get_allocN_old H hb)
            obtain ⟨o', ho', c1, lo, hi', rfl, e4, e5, hcc, e6, e7⟩ := h.gr.obj _ _ _ hi hb
            have hlt := h.gr.lt _ _ hi
            rw [← e1] at ho'
            have hd : H.allocN.get H.next = none := Hp.get_allocN_new H
            by_cases hc : c' = 0
            · -- a view
              subst hc
              have hrun : (Builtin.unsafeSliceData_ argTypes ty #[.slice (some a') 0 0]).run P w = .ok (.pointer (some ⟨w.heap.size, 0, none⟩)) { w with heap := w.heap.push (.view a' te) } := by
                have he : (elemOf ty).run P w = .ok te w := by simp [elemOf, run_underlying hte]
                have hv : (viewAt a'.block).run P w = .ok none w := by
                  simp only [viewAt, Sem.run_bind, shape_run ho', Result.andThen_ok]
                  rfl
                rw [hdef, if_neg (by simp)]
                simp only [Sem.run_bind, hv, Result.andThen_ok, Option.isSome_none, Bool.false_eq_true, if_false, he]
                rfl
              have hw := New.push w (.view a' te)
              have hm0 : MR P T g l s.ls H.allocN { w with heap := w.heap.push (.view a' te) } :=
                ⟨⟨m1.gr.dom, fun b i e => by rw [hw.size]; have := m1.gr.lt b i e; omega, fun b i o e eo => by
                  obtain ⟨x, hx, hy⟩ := m1.gr.obj b i o e eo
                  exact ⟨x, by rw [hw.old (m1.gr.lt b i e)]; exact hx, hy⟩, m1.gr.inj⟩, fun t c ht => by
                  obtain ⟨p, q, cs, r, s⟩ := m1.lc t c ht
                  exact ⟨by rw [hw.size]; omega, q, cs, r, s.heap (hw.old p)⟩, m1.li⟩
              have hm := hm0.bindD (i := ⟨w.heap.size, 0, 0⟩) hdn (by simp) hd (by rw [hw.size]; exact Nat.lt_succ_self _)
              have hst := h.stpNew hw (H' := H.allocN) (i := ⟨w.heap.size, 0, 0⟩) (by simp) (fun b hb => Hp.get_allocN_old H hb) hdn (Nat.le_refl _) hm
              exact ⟨_, _, hr, _, _, _, hrun, hm, hst, .g (.ptr ⟨rfl, rfl, ⟨w.heap.size, 0, 0⟩, GM.bind_same _ _ _, rfl, rfl⟩)⟩
            · -- the place itself
              have hrun : (Builtin.unsafeSliceData_ argTypes ty #[.slice (some a') 0 c']).run P w = .ok (.pointer (some a')) w := by
                rw [hdef, if_pos hc]
                rfl
              have hm := m1.bindD (i := ⟨i.blk, a'.off, 0⟩) hdn (by simp) hd hlt
              refine ⟨_, _, hr, _, _, _, hrun, hm, ⟨⟨GM.le_bind hdn _, hm.gr, Nat.le_refl _, fun k j e => ?_, fun k hk _ => Hp.get_allocN_old H hk, fun k hk hd => (Hp.get_allocN_old H hk).trans hd, by simp, fun _ _ _ _ => rfl, rfl, rfl, rfl, fun k j o e eo _ => ⟨(Hp.get_allocN_old H (h.gr.dom _ _ e)).trans eo, rfl⟩⟩, fun _ _ h => h, fun _ _ h => .inl h, fun _ _ => rfl⟩,
                .g (.ptr ⟨rfl, q, ⟨i.blk, a'.off, 0⟩, GM.bind_same _ _ _, e1, (Nat.zero_add _).symm⟩)⟩
              by_cases q : k = H.next
              · subst q; rw [GM.bind_same] at e; cases e; exact .inr ⟨Nat.le_refl _, .inr ⟨a.block, i, _, hi, hb, rfl⟩⟩
              · rw [GM.bind_ne g q] at e; exact .inl e
          · cases hr
        · cases hr
      · rename_i n
        split at hr
        · rename_i h0
          have h0 := blt_iff.1 h0
          have hp := hs.pr (Nat.succ_pos n)
          have hc : c' ≠ 0 := by
            cases hs with
            | g _ k => rcases k with k | ⟨_, _, k, _⟩ <;> omega
            | l _ k => omega
            | e _ k _ _ => omega
          refine ⟨_, H, hr, Eff.same h ?_ hp.vr⟩
          rw [hdef, if_pos hc]
          rfl
        · cases hr
  · cases hr

theorem loadBytes_run {w : World} : ∀ (ns : List Int) (a : Addr) (acc : ByteArray), a.spot = none → At w a (ns.map (Value.int .u8)) → (loadBytes a acc ns.length).run P w = .ok ⟨⟨acc.data.toList ++ ns.map (fun n => UInt8.ofNat n.toNat)⟩⟩ w
  | [], a, acc, _, _ => by simp [loadBytes]
  | n :: ns, a, acc, hs, h => by
    have h0 : (load a).run P w = .ok (.int .u8 n) w := At.load (cs := ns.map (Value.int .u8)) hs h
    have h1 : At w (a.add 1) (ns.map (Value.int .u8)) := by
      obtain ⟨c, e, fr, hb, hg⟩ := h
      refine ⟨c, e, fr, by rw [add_none hs]; exact hb, fun k v ek => ?_⟩
      have := hg (k + 1) v (by simpa using ek)
      rw [add_none hs]
      rw [show a.off + 1 + k = a.off + (k + 1) from by omega]
      exact this
    have ih := loadBytes_run ns (a.add 1) (acc.push n.toNat.toUInt8) (by rw [add_none hs]) h1
    simp only [List.length_cons, loadBytes, Sem.run_bind, h0, Result.andThen_ok]
    rw [ih]
    congr 2
    simp [ByteArray.push]

theorem World.freeze_upd {w : World} {a : Addr} {c : Array Value} {e : TypeId} {lo hi : Nat} (h : w.heap[a.block]? = some (.cells c e (lo, hi))) {n : Nat} (hn : n ≠ 0) :
    Upd w a.block (.cells c e (if lo == hi then (a.off, a.off + n) else (min lo a.off, max hi (a.off + n)))) (w.freeze a n) := by
  unfold World.freeze
  rw [if_neg hn]
  refine ⟨by simp, ?_, fun k hk => ?_, rfl, rfl, rfl⟩
  · simp [Array.getElem?_modify, h]
  · simp only [Array.getElem?_modify, if_neg (Ne.symm hk)]

theorem uString_run {g : GM} {l : LM} {s : Env} {H : Hp} {w : World} (h : MR P T g l s.ls H w) {argTypes : Array TypeId} {ty : TypeId} {x x' y y' : Value} (hx : VR g l x x') (hy : VR g l y y') (hat : argTypes[0]?.isSome = true) {K : Value → Env → Hp → Option α} {r : α}
    (hr : uString P argTypes [x, y] s H K = some r) : ∃ v H1, K v s H1 = some r ∧ Eff P T (Builtin.unsafeString_ argTypes ty #[x', y']) g l s.ls H w v s.ls H1 := by
  obtain ⟨pt, hpt⟩ := Option.isSome_iff_exists.1 hat
  have hdef : ∀ (p : Option Addr) (k : IntKind), (Builtin.unsafeString_ argTypes ty #[.pointer p, .int k 0]).run P w = .ok (.string ⟨⟨[]⟩⟩) w := fun p k => by
    unfold Builtin.unsafeString_
    rw [hpt]
    cases p <;> rfl
  unfold uString at hr
  split at hr
  · rename_i k n heq
    simp only [List.cons.injEq, and_true] at heq
    obtain ⟨rfl, rfl⟩ := heq
    split at hr
    · rename_i hn
      have hn := of_decide_eq_true hn
      subst hn
      have e1 : x' = .pointer none := by cases hx with | g hx => cases hx; rfl
      rw [e1, hy.int]
      refine ⟨_, H, hr, Eff.same h (v' := .string ⟨⟨[]⟩⟩) ?_ (.g (.string _))⟩
      rw [hdef]
    · cases hr
  · rename_i a k n heq
    simp only [List.cons.injEq, and_true] at heq
    obtain ⟨rfl, rfl⟩ := heq
    obtain ⟨a', rfl, ha⟩ := hx.ptr_inv
    rw [hy.int]
    split at hr
    · rename_i hn
      have hn := of_decide_eq_true hn
      subst hn
      refine ⟨_, H, hr, Eff.same h (v' := .string ⟨⟨[]⟩⟩) ?_ (.g (.string _))⟩
      rw [hdef]
    · rename_i hn
      have hn := of_decide_eq_false hn
      split at hr
      · rename_i hb
        unfold uStringN at hr
        split at hr
        · cases hr
        · rename_i hsp
          split at hr
          · rename_i c e fz sg hblk
            split at hr
            · rename_i pt' hpt'
              rw [lget_eq] at hpt'
              have hpt2 : argTypes[0]? = some pt' := by simpa using hpt'
              rw [hpt] at hpt2; cases hpt2
              split at hr
              · rename_i u hpu
                split at hr
                · rename_i heu
                  split at hr
                  · rename_i hc
                    simp only [Bool.and_eq_true, Nat.beq_eq, Bool.not_eq_true'] at hc
                    obtain ⟨⟨hc1, hc2⟩, hc3⟩ := hc
                    have hc1 : u = e := hc1
                    subst hc1
                    subst hc2
                    split at hr
                    · rename_i cs hsub
                      split at hr
                      · rename_i b hbs
                        split at hr
                        case h_2 => cases hr
                        rename_i hfzc
                        have hfzc : fz ≤ c.length := by simpa using hfzc
                        have hsz : szOf P u = some 1 := by
                          split at hc3
                          · rename_i m hm; simp at hc3; rw [hm, hc3]
                          · cases hc3
                        have hrd : rd s H a n.toNat = some cs := by unfold rd; rw [hsp]; simp only [hblk]; exact hsub
                        have hA : AR g a a' := by
                          rcases ha with ha | ha
                          · exact ha
                          · exact absurd hsp ha.1
                        obtain ⟨cs', hv, hl, hat'⟩ := rd_ok h (.inl hA) hrd
                        obtain ⟨_, q, i, hi, e1, e2⟩ := hA
                        obtain ⟨o', ho', c', lo, hi', rfl, e4, e5, hcc, e6, e7⟩ := h.gr.obj _ _ _ hi hblk
                        have ho2 := ho'
                        rw [← e1] at ho'
                        obtain ⟨ns, f1, f2⟩ := toBytes_vgl hbs hv
                        have hln : ns.length = n.toNat := by rw [← hl, f1]; simp
                        have hfit : a'.off + n.toNat ≤ c'.size := by
                          obtain ⟨hs1, hs2⟩ := sub_some hsub
                          have h1 : n.toNat - 1 < n.toNat := by omega
                          have h2 := hs2 _ h1
                          have h3 : cs[n.toNat - 1]? = some (cs[n.toNat - 1]'(by omega)) := List.getElem?_eq_getElem (by omega)
                          rw [h2] at h3
                          rcases Nat.lt_or_ge (a.off + (n.toNat - 1)) c.length with h4 | h4
                          · omega
                          · rw [List.getElem?_eq_none h4] at h3; cases h3
                        have hva := variablesAt_run (P := P) ho' (cellsOf_eq hsz) (by omega) (n := n.toNat) (by omega) (by simpa using hfit)
                        have hn0 : n.toNat ≠ 0 := by omega
                        have hfu := World.freeze_upd (a := a') ho' hn0
                        have hlb := loadBytes_run (P := P) (w := w) ns a' .empty q (by rw [← f1]; exact hat')
                        rw [hln, f2] at hlb
                        rw [e1] at hfu
                        obtain ⟨lo2, hi2, hfr, hfz⟩ : ∃ lo2 hi2, (if (lo == hi') = true then (a'.off, a'.off + n.toNat) else (min lo a'.off, max hi' (a'.off + n.toNat))) = (lo2, hi2) ∧ hi2 ≤ i.del + max fz (a.off + n.toNat) := by
                          by_cases hlh : lo = hi'
                          · exact ⟨_, _, if_pos (by simpa using hlh), by omega⟩
                          · refine ⟨_, _, if_neg (by simpa using hlh), ?_⟩
                            rcases e6 with e6 | e6 | e6
                            · exact absurd e6 hlh
                            · omega
                            · simp only [Bool.false_eq_true, if_false] at e6; omega
                        rw [hfr] at hfu
                        obtain ⟨m1, m2⟩ := h.updG hi hblk (by unfold isRo; exact blt_false.2 hfzc) (o' := .cells c u (max fz (a.off + n.toNat)) false) hfu ⟨_, lo2, hi2, rfl, e4, e5, hcc, .inr (.inr (by simpa using hfz)), e7⟩
                        refine ⟨_, _, hr, .string ⟨⟨b⟩⟩, _, g, ?_, m1, m2, .g (.string _)⟩
                        show (asInt (.int k n) >>= _).run P w = _
                        have g1 : ¬ n < 0 := by omega
                        have g2 : ¬ 9223372036854775807 < n := by omega
                        have hai : (asIntOf (.int k n)).run P w = .ok (k, n) w := rfl
                        simp [asInt, hai, hpt, g1, g2, hn, Sem.run_bind, elemOf, run_underlying hpu, Result.andThen_ok, Sem.run_pure, hva, hlb]
                        try rfl
                      · cases hr
                    · cases hr
                  · cases hr
                · cases hr
              · cases hr
            · cases hr
          · cases hr
      · cases hr
  · cases hr

end Go.Ev
end
