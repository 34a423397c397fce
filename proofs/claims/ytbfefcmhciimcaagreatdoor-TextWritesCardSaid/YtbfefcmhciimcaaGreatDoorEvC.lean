/- The evaluator is true of operations, regions and calls. -/
import Derived.AtR
import Derived.Defers
import Derived.Orders
import Derived.Test.YtbfefcmhciimcaaGreatDoorEvB
section
set_option linter.unusedSimpArgs false
set_option linter.unusedVariables false
set_option maxHeartbeats 1000000
namespace Go.Ev
variable {P : Program} {T : Tab} {α : Type}

theorem run_v {S : Sem Value} {v : Value} {w w' : World} (h : S.run P w = .ok v w') : (do pure (Next.value (← S)) : Sem Next).run P w = .ok (.value v) w' := by
  simp [h]
theorem run_u {S : Sem Unit} {w w' : World} (h : S.run P w = .ok () w') : (do S; pure Next.skip : Sem Next).run P w = .ok .skip w' := by
  simp [h]

/-- The operands stand for the operands. -/
def OpdR (g : GM) (l : LM) (s : Env) (a : Act) (o : Oper) : Prop := ∀ x ∈ o.op.operands, VR g l (ev s x) (a.eval x)

/-- What a small operation has come to in the evaluator, and will come to in the world, whenever that is. -/
inductive Late (P : Program) (T : Tab) (o : Oper) (s : Env) (H : Hp) : Value → Env → Hp → Prop where
  | pure (v : Value) (h : ∀ g l a w, OpdR g l s a o → ∃ v', (execOp a.eval o).run P w = .ok (.value v') w ∧ VR g l v v') : Late P T o s H v s H
  | load (v : Value) (t : TypeId) (x : Operand) (a : Addr) (cs : List Value) (ho : o.op = .load t x) (h : LdR P s H t (ev s x) a cs v) : Late P T o s H v s H
  | alc (v : Value) (s1 : Env) (H1 : Hp) (S : GM → LM → World → Sem Value → Prop) (h : Alc P T o.dst s H S v s1 H1)
      (hS : ∀ g l a w, OpdR g l s a o → ∃ x, S g l w x ∧ execOp a.eval o = (do pure (.value (← x)))) : Late P T o s H v s1 H1

theorem Alc.mono {dst : Option Tmp} {s : Env} {H : Hp} {S S' : GM → LM → World → Sem Value → Prop} {v : Value} {s1 : Env} {H1 : Hp} (h : Alc P T dst s H S v s1 H1) (hs : ∀ g l w x, S' g l w x → S g l w x) : Alc P T dst s H S' v s1 H1 := by
  cases h with
  | g obj _ h => exact .g obj _ fun g l w x hx => h g l w x (hs _ _ _ _ hx)
  | l t cs _ ht hl h => exact .l t cs _ ht hl fun g l w x hx => h g l w x (hs _ _ _ _ hx)

theorem evP_pl {g : GM} {l : LM} {s : Env} {a : Act} : ∀ (ps : List (Nat × Operand)), (∀ p ∈ ps, VR g l (ev s p.2) (a.eval p.2)) → PL g l (evP s ps) (ps.map fun p => (p.1, a.eval p.2))
  | [], _ => .nil
  | (i, x) :: ps, h => .cons (h (i, x) (List.mem_cons_self ..)) (evP_pl ps fun p hp => h p (List.mem_cons_of_mem _ hp))
theorem evL_vgl {g : GM} {l : LM} {s : Env} {a : Act} : ∀ (xs : List Operand), (∀ x ∈ xs, VR g l (ev s x) (a.eval x)) → (xs.map (ev s)).all nl = true → VGL g (xs.map (ev s)) (xs.map a.eval)
  | [], _, _ => .nil
  | x :: xs, h, hn => by
    simp only [List.map_cons, List.all_cons, Bool.and_eq_true] at hn
    exact .cons ((h x (List.mem_cons_self ..)).nl hn.1) (evL_vgl xs (fun y hy => h y (List.mem_cons_of_mem _ hy)) hn.2)
theorem evO_or {g : GM} {l : LM} {s : Env} {a : Act} (x : Option Operand) (h : ∀ y, x = some y → VR g l (ev s y) (a.eval y)) : OR g l (evO s x) (x.map a.eval) := by
  cases x with
  | none => exact .none
  | some x => exact .some (h x rfl)

section
variable {fn : FuncId} {s : Env} {H : Hp} {K : Value → Env → Hp → Option α} {r : α}

theorem sop_small (F : Facts P T) {dst : Option Tmp} {op : Op} {type : TypeId} {pos : String} {after : Array Edge} {guard : Option (Nat × Bool)} (he : isEff P op = false) (h : sop P T fn ⟨dst, op, type, pos, after, guard⟩ s H K = some r) :
    ∃ v s1 H1, K v s1 H1 = some r ∧ Late P T ⟨dst, op, type, pos, after, guard⟩ s H v s1 H1 := by
  cases op <;> first | (cases h; done) | (simp [isEff] at he; done) | skip
  case move x => exact ⟨_, s, H, h, .pure _ fun g l a w ho => ⟨a.eval x, rfl, ho x (by simp [Op.operands])⟩⟩
  case assign x => exact ⟨_, s, H, h, .pure _ fun g l a w ho => ⟨a.eval x, rfl, ho x (by simp [Op.operands])⟩⟩
  case pick c x y =>
    replace h : oPick (ev s c) (ev s x) (ev s y) s H K = some r := h
    unfold oPick at h
    split at h
    · rename_i t ht
      cases t
      · refine ⟨_, s, H, h, .pure _ fun g l a w ho => ⟨a.eval y, ?_, ho y (by simp [Op.operands])⟩⟩
        have hc := ho c (by simp [Op.operands])
        rw [ht] at hc
        simp [execOp, hc.bool, asBool]
      · refine ⟨_, s, H, h, .pure _ fun g l a w ho => ⟨a.eval x, ?_, ho x (by simp [Op.operands])⟩⟩
        have hc := ho c (by simp [Op.operands])
        rw [ht] at hc
        simp [execOp, hc.bool, asBool]
    · cases h
  case alloc e =>
    obtain ⟨v, s1, H1, hk, ha⟩ := oAlloc_run (P := P) (T := T) (show oAlloc P T fn dst e s H K = some r from h)
    exact ⟨v, s1, H1, hk, .alc v s1 H1 _ ha fun g l a w ho => ⟨_, rfl, rfl⟩⟩
  case box e x =>
    obtain ⟨v, s1, H1, hk, ha⟩ := oBox_run (P := P) (T := T) (show oBox T fn dst e (ev s x) s H K = some r from h)
    exact ⟨v, s1, H1, hk, .alc v s1 H1 _ ha fun g l a w ho => ⟨_, ⟨_, ho x (by simp [Op.operands]), rfl⟩, rfl⟩⟩
  case build t parts =>
    obtain ⟨v, hk, hr⟩ := oBuild_run (P := P) (show oBuild P t (evP s parts.toList) s H K = some r from h)
    refine ⟨v, s, H, hk, .pure v fun g l a w ho => ?_⟩
    obtain ⟨v', h1, h2⟩ := hr g l _ w (evP_pl parts.toList fun p hp => ho p.2 (by simp only [Op.operands, List.mem_toArray, List.mem_map]; exact ⟨p, hp, rfl⟩))
    have e1 : parts.map (fun (p : Nat × Operand) => (p.1, a.eval p.2)) = ⟨parts.toList.map fun p => (p.1, a.eval p.2)⟩ := by apply Array.ext'; simp
    exact ⟨v', by
      show (do pure (Next.value (← Instr.build t (parts.map fun (p : Nat × Operand) => (p.1, a.eval p.2)))) : Sem Next).run P w = _
      rw [e1]; exact run_v h1, h2⟩
  case buildSlice t len parts =>
    obtain ⟨v, s1, H1, hk, ha⟩ := oBuildSlice_run (P := P) (T := T) (show oBuildSlice P T fn dst t len (evP s parts.toList) s H K = some r from h)
    refine ⟨v, s1, H1, hk, .alc v s1 H1 _ ha fun g l a w ho => ⟨_, ⟨_, evP_pl (a := a) parts.toList fun p hp => ho p.2 (by simp only [Op.operands, List.mem_toArray, List.mem_map]; exact ⟨p, hp, rfl⟩), rfl⟩, ?_⟩⟩
    have e1 : parts.map (fun (p : Nat × Operand) => (p.1, a.eval p.2)) = ⟨parts.toList.map fun p => (p.1, a.eval p.2)⟩ := by apply Array.ext'; simp
    show (do pure (Next.value (← Instr.buildSlice t len (parts.map fun (p : Nat × Operand) => (p.1, a.eval p.2)))) : Sem Next) = _
    rw [e1]
  case load t x =>
    obtain ⟨v, a, cs, hk, hl⟩ := oLoad_ld (P := P) (show oLoad P t (ev s x) s H K = some r from h)
    exact ⟨v, s, H, hk, .load v t x a cs rfl hl⟩
  case nilCheck x =>
    obtain ⟨hk, hr⟩ := oNilCheck_run (show oNilCheck (ev s x) s H K = some r from h)
    refine ⟨_, s, H, hk, .pure _ fun g l a w ho => ⟨a.eval x, ?_, ho x (by simp [Op.operands])⟩⟩
    rcases hr g l _ (ho x (by simp [Op.operands])) with ⟨p, e⟩ | ⟨f, p, c, e⟩ | ⟨t, v, e⟩ <;> simp [execOp, e]
  case binOp op t x y yt =>
    obtain ⟨v, hk, hr⟩ := bop_run F (show bop P T op (isC x || isC y) t (ev s x) (ev s y) (fun v => K v s H) = some r from h)
    refine ⟨v, s, H, hk, .pure v fun g l a w ho => ?_⟩
    obtain ⟨v', h1, h2⟩ := hr g l _ _ w (ho x (by simp [Op.operands])) (ho y (by simp [Op.operands]))
    exact ⟨v', run_v h1, h2⟩
  case unOp op t x =>
    obtain ⟨v, hk, hr⟩ := uop_run (P := P) (show uop op (ev s x) (fun v => K v s H) = some r from h)
    refine ⟨v, s, H, hk, .pure v fun g l a w ho => ?_⟩
    obtain ⟨v', h1, h2⟩ := hr g l _ w (ho x (by simp [Op.operands]))
    exact ⟨v', run_v h1, h2⟩
  case convert t d x =>
    obtain ⟨v, hk, hr⟩ := convK_pure (P := P) (T := T) (show convK P T fn dst t d (ev s x) s H K = some r from h) (fun o => by exact he)
    refine ⟨v, s, H, hk, .pure v fun g l a w ho => ?_⟩
    obtain ⟨v', h1, h2⟩ := hr g l _ w (ho x (by simp [Op.operands]))
    exact ⟨v', run_v h1, h2⟩
  case makeInterface t x =>
    obtain ⟨v, hk, hr⟩ := oMakeIface_run (P := P) (show oMakeIface P t (ev s x) s H K = some r from h)
    refine ⟨v, s, H, hk, .pure v fun g l a w ho => ?_⟩
    obtain ⟨v', h1, h2⟩ := hr g l _ w (ho x (by simp [Op.operands]))
    exact ⟨v', run_v h1, h2⟩
  case makeFunc f first captured =>
    obtain ⟨v, hk, hn1, hn2, hr⟩ := oMakeFunc_run (P := P) (show oMakeFunc f (first.toList.map (ev s)) (captured.toList.map (ev s)) s H K = some r from h)
    refine ⟨v, s, H, hk, .pure v fun g l a w ho => ?_⟩
    obtain ⟨v', h1, h2⟩ := hr g l _ _ w (evL_vgl (a := a) first.toList (fun x hx => ho x (by simp [Op.operands, Array.mem_toList_iff.1 hx])) hn1) (evL_vgl (a := a) captured.toList (fun x hx => ho x (by simp [Op.operands, Array.mem_toList_iff.1 hx])) hn2)
    have e1 : first.map a.eval = ⟨first.toList.map a.eval⟩ := by apply Array.ext'; simp
    have e2 : captured.map a.eval = ⟨captured.toList.map a.eval⟩ := by apply Array.ext'; simp
    exact ⟨v', by
      show (do pure (Next.value (← Instr.makeFunc f (first.map a.eval) (captured.map a.eval))) : Sem Next).run P w = _
      rw [e1, e2]; exact run_v h1, h2⟩
  case makeMap t rv =>
    cases rv with
    | some x => cases h
    | none => exact ⟨_, _, _, h, .alc _ _ _ _ makeMap_run fun g l a w ho => ⟨_, rfl, rfl⟩⟩
  case makeSlice t x y =>
    obtain ⟨v, s1, H1, hk, ha⟩ := oMakeSlice_run (P := P) (T := T) (dst := dst) (show oMakeSlice P t (ev s x) (ev s y) s H K = some r from h)
    exact ⟨v, s1, H1, hk, .alc v s1 H1 _ ha fun g l a w ho => ⟨_, ⟨_, _, ho x (by simp [Op.operands]), ho y (by simp [Op.operands]), rfl⟩, rfl⟩⟩
  case slice t x lo hi mx =>
    obtain ⟨v, hk, hr⟩ := sliceK_run (P := P) (show sliceK P t (ev s x) (evO s lo) (evO s hi) (evO s mx) s H K = some r from h)
    refine ⟨v, s, H, hk, .pure v fun g l a w ho => ?_⟩
    obtain ⟨v', h1, h2⟩ := hr g l _ _ _ _ w (ho x (by simp [Op.operands])) (evO_or (a := a) lo fun y hy => ho y (by simp [Op.operands, hy])) (evO_or (a := a) hi fun y hy => ho y (by simp [Op.operands, hy])) (evO_or (a := a) mx fun y hy => ho y (by simp [Op.operands, hy]))
    exact ⟨v', run_v h1, h2⟩
  case fieldAddr t x f =>
    obtain ⟨v, hk, hr⟩ := oFieldAddr_run (P := P) (show oFieldAddr P t (ev s x) f s H K = some r from h)
    refine ⟨v, s, H, hk, .pure v fun g l a w ho => ?_⟩
    obtain ⟨v', h1, h2⟩ := hr g l _ w (ho x (by simp [Op.operands]))
    exact ⟨v', run_v h1, h2⟩
  case field t x f =>
    obtain ⟨v, hk, hr⟩ := oField_run (P := P) (show oField P t (ev s x) f s H K = some r from h)
    refine ⟨v, s, H, hk, .pure v fun g l a w ho => ?_⟩
    obtain ⟨v', h1, h2⟩ := hr g l _ w (ho x (by simp [Op.operands]))
    exact ⟨v', run_v h1, h2⟩
  case indexAddr t x i =>
    obtain ⟨v, hk, hr⟩ := idxAddrK_run (P := P) (show idxAddrK P t (ev s x) (ev s i) (fun v => K v s H) = some r from h)
    refine ⟨v, s, H, hk, .pure v fun g l a w ho => ?_⟩
    obtain ⟨v', h1, h2⟩ := hr g l _ _ w (ho x (by simp [Op.operands])) (ho i (by simp [Op.operands]))
    exact ⟨v', run_v h1, h2⟩
  case index t x i =>
    obtain ⟨v, hk, hr⟩ := idxK_run (P := P) (show idxK P t (ev s x) (ev s i) (fun v => K v s H) = some r from h)
    refine ⟨v, s, H, hk, .pure v fun g l a w ho => ?_⟩
    obtain ⟨v', h1, h2⟩ := hr g l _ _ w (ho x (by simp [Op.operands])) (ho i (by simp [Op.operands]))
    exact ⟨v', run_v h1, h2⟩
  case typeAssert x xt asserted ok =>
    obtain ⟨v, hk, hr⟩ := assertK_run (P := P) (xt := xt) (show assertK P (ev s x) asserted ok (fun v => K v s H) = some r from h)
    refine ⟨v, s, H, hk, .pure v fun g l a w ho => ?_⟩
    obtain ⟨v', h1, h2⟩ := hr g l _ w (ho x (by simp [Op.operands]))
    exact ⟨v', run_v h1, h2⟩
  case extract x i =>
    obtain ⟨v, hk, hr⟩ := oExtract_run (P := P) (show oExtract (ev s x) i s H K = some r from h)
    refine ⟨v, s, H, hk, .pure v fun g l a w ho => ?_⟩
    obtain ⟨v', h1, h2⟩ := hr g l _ w (ho x (by simp [Op.operands]))
    exact ⟨v', run_v h1, h2⟩
end

end Go.Ev
end
section
set_option linter.unusedSimpArgs false
set_option linter.unusedVariables false
set_option maxHeartbeats 1000000
namespace Go.Ev
variable {P : Program} {T : Tab} {α : Type}

/-- What an operation yields that comes to its end at once. -/
def NxV (nx : Next) (v' : Value) : Prop := nx = .value v' ∨ (nx = .skip ∧ v' = undef) ∨ (nx = .recover ∧ v' = .nilIface)

def NxS (nx : Next) (v' : Value) : Prop := nx = .value v' ∨ (nx = .skip ∧ v' = undef)
theorem NxS.v {nx : Next} {v' : Value} (h : NxS nx v') : NxV nx v' := h.imp id .inl
theorem NxS.rec {nx : Next} {v' : Value} (h : NxS nx v') : nx ≠ .recover := by
  rcases h with rfl | ⟨rfl, _⟩ <;> simp

/-- What stands behind an operation: the frame's own memory. -/
def KeepL (s : Env) (H : Hp) (o : Oper) (ls1 : LS) (H1 : Hp) : Prop :=
  (∀ t c, s.ls.get t = some (some c) → ls1.get t = some (some c)) ∨ ∃ tt x y a, o.op = .store tt x y ∧ ev s x = .pointer (some a) ∧ WrK s H a (vcells (ev s y)) ls1 H1

/-- What an operation comes to, in the world. -/
def OutR (P : Program) (T : Tab) (o : Oper) (a : Act) (s : Env) (H : Hp) (g : GM) (l : LM) (w : World) (v : Value) (ls1 : LS) (H1 : Hp) : Prop :=
  (∃ nx v' w' g' l', (execOp a.eval o).run P w = .ok nx w' ∧ NxS nx v' ∧ MR P T g' l' ls1 H1 w' ∧ Stp P T g l s.ls H w g' l' ls1 H1 w' ∧ VR g' l' v v' ∧ ∀ t, o.dst ≠ some t → l' t = l t) ∧ KeepL s H o ls1 H1

theorem OutR.eff {o : Oper} {a : Act} {s : Env} {H : Hp} {g : GM} {l : LM} {w : World} {v : Value} {H1 : Hp} {S : Sem Value} (h : Eff P T S g l s.ls H w v s.ls H1) (he : execOp a.eval o = (do pure (.value (← S)))) : OutR P T o a s H g l w v s.ls H1 := by
  obtain ⟨v', w', g', hr, m1, m2, hv⟩ := h
  exact ⟨⟨.value v', v', w', g', l, by rw [he]; exact run_v hr, .inl rfl, m1, m2, hv, fun _ _ => rfl⟩, .inl fun _ _ h => h⟩

theorem OutR.same {o : Oper} {a : Act} {s : Env} {H : Hp} {g : GM} {l : LM} {w : World} (h : MR P T g l s.ls H w) {v v' : Value} (hr : (execOp a.eval o).run P w = .ok (.value v') w) (hv : VR g l v v') : OutR P T o a s H g l w v s.ls H :=
  ⟨⟨.value v', v', w, g, l, hr, .inl rfl, h, Stp.refl h.gr, hv, fun _ _ => rfl⟩, .inl fun _ _ h => h⟩

theorem Alc.out {dst : Option Tmp} {s : Env} {H : Hp} {S : GM → LM → World → Sem Value → Prop} {v : Value} {s1 : Env} {H1 : Hp} (h : Alc P T dst s H S v s1 H1) {g : GM} {l : LM} {w : World} (hm : MR P T g l s.ls H w) {x : Sem Value} (hx : S g l w x) :
    s1 = s.withL s1.ls ∧ (∃ v' w' g' l', x.run P w = .ok v' w' ∧ MR P T g' l' s1.ls H1 w' ∧ Stp P T g l s.ls H w g' l' s1.ls H1 w' ∧ VR g' l' v v' ∧ ∀ t, dst ≠ some t → l' t = l t) ∧ (∀ t c, s.ls.get t = some (some c) → s1.ls.get t = some (some c)) := by
  cases h with
  | g obj _ h =>
    obtain ⟨v', w', ob, csz, hr, hw, hob, hv⟩ := h g l w x hx
    obtain ⟨m1, m2⟩ := hm.allocG hw hob
    have hdn : g H.next = none := by
      cases e : g H.next with
      | none => rfl
      | some i => have := hm.gr.dom _ _ e; omega
    exact ⟨(withL_self s).symm, ⟨v', w', _, l, hr, m1, m2, .g (hv _ (GM.le_bind hdn _) (GM.bind_same _ _ _)), fun _ _ => rfl⟩, fun _ _ h => h⟩
  | l t cs _ ht hl h =>
    obtain ⟨v', w', ob, hr, hw, hloc, hv⟩ := h g l w x hx
    obtain ⟨m1, m2⟩ := hm.allocL hl hw hloc
    rw [setL_eq]
    refine ⟨rfl, ⟨v', w', g, _, hr, m1, m2, hv _ _ (LM.bind_same _ _ _), fun t' ht' => ?_⟩, fun t' c hc => ?_⟩
    · rw [LM.bind_ne]; intro e; exact ht' (by rw [ht, e])
    · show (s.ls.set t (some cs)).get t' = _
      rw [TT.get_set_ne _ _ _ _ (fun e => by rw [e, hc] at hl; cases hl)]; exact hc

theorem OutR.alc {o : Oper} {a : Act} {s : Env} {H : Hp} {S : GM → LM → World → Sem Value → Prop} {v : Value} {s1 : Env} {H1 : Hp} (h : Alc P T o.dst s H S v s1 H1) {g : GM} {l : LM} {w : World} (hm : MR P T g l s.ls H w) {x : Sem Value} (hx : S g l w x)
    (he : execOp a.eval o = (do pure (.value (← x)))) : s1 = s.withL s1.ls ∧ OutR P T o a s H g l w v s1.ls H1 := by
  obtain ⟨h1, ⟨v', w', g', l', hr, m1, m2, hv, hl⟩, h2⟩ := h.out hm hx
  exact ⟨h1, ⟨.value v', v', w', g', l', by rw [he]; exact run_v hr, .inl rfl, m1, m2, hv, hl⟩, .inl h2⟩

theorem Late.out {o : Oper} {s : Env} {H : Hp} {v : Value} {s1 : Env} {H1 : Hp} (h : Late P T o s H v s1 H1) {g : GM} {l : LM} {w : World} {a : Act} (hm : MR P T g l s.ls H w) (ho : OpdR g l s a o) : s1 = s.withL s1.ls ∧ OutR P T o a s H g l w v s1.ls H1 := by
  cases h with
  | pure h =>
    obtain ⟨v', hr, hv⟩ := h g l a w ho
    exact ⟨(withL_self s).symm, OutR.same hm hr hv⟩
  | load t x ad cs hop hl =>
    obtain ⟨dst, op, type, pos, after, guard⟩ := o
    simp only at hop
    subst hop
    obtain ⟨v', hr, hv⟩ := hl.run hm (ho x (by simp [Op.operands]))
    exact ⟨(withL_self s).symm, OutR.same hm (run_v hr) hv⟩
  | alc _ _ S hA hS =>
    obtain ⟨x, hx, he⟩ := hS g l a w ho
    exact OutR.alc hA hm hx he

section
variable {fn : FuncId} {s : Env} {H : Hp} {K : Value → Env → Hp → Option α} {r : α}

theorem conv_eff {dst : Option Tmp} {src d : TypeId} {x : Operand} {type : TypeId} {pos : String} {after : Array Edge} {guard : Option (Nat × Bool)}
    (h : convK P T fn dst src d (ev s x) s H K = some r) {g : GM} {l : LM} {w : World} {a : Act} (hm : MR P T g l s.ls H w) (hx : VR g l (ev s x) (a.eval x)) :
    ∃ v ls1 H1, K v (s.withL ls1) H1 = some r ∧ OutR P T ⟨dst, .convert src d x, type, pos, after, guard⟩ a s H g l w v ls1 H1 := by
  have he : execOp a.eval ⟨dst, .convert src d x, type, pos, after, guard⟩ = (do pure (.value (← convert src d (a.eval x)))) := rfl
  unfold convK at h
  split at h
  · rename_i kd hud
    split at h
    · rename_i k n hxe
      split at h
      · rename_i us hus
        rw [hxe] at hx
        refine ⟨_, s.ls, H, by rw [withL_self]; exact h, OutR.same hm (v' := .int kd (kd.wrap n)) ?_ (by rw [kw_eq]; exact .g (.int _ _))⟩
        rw [he, hx.int]
        refine run_v ?_
        simp [convert, run_underlying hus, run_underlying hud, Conv.intToInt]
      · cases h
    · cases h
  · rename_i hud
    split at h
    · rename_i us hus
      obtain ⟨v, hk, v', hr, hv⟩ := cToStr_run hm hus hud hx h
      exact ⟨v, s.ls, H, by rw [withL_self]; exact hk, OutR.same hm (by rw [he]; exact run_v hr) hv⟩
    · cases h
  · rename_i e hud
    split at h
    · rename_i b hxe
      split at h
      · rename_i us hus
        obtain ⟨v, s1, H1, hk, hA⟩ := cToBytes_run hus hud h
        rw [hxe] at hx
        obtain ⟨e1, ho⟩ := OutR.alc (o := ⟨dst, .convert src d x, type, pos, after, guard⟩) (a := a) hA hm rfl (by rw [he, hx.string])
        exact ⟨v, s1.ls, H1, by rw [← e1]; exact hk, ho⟩
      · cases h
    · cases h
  · rename_i hud
    split at h
    · rename_i us hus
      obtain ⟨v, hk, v', hr, hv⟩ := cToUns_run hm hus hud hx h
      exact ⟨v, s.ls, H, by rw [withL_self]; exact hk, OutR.same hm (by rw [he]; exact run_v hr) hv⟩
    · cases h
  · rename_i e hud
    split at h
    · rename_i us hus
      obtain ⟨v, hk, v', hr, hv⟩ := cToPtr_run hm hus hud hx h
      exact ⟨v, s.ls, H, by rw [withL_self]; exact hk, OutR.same hm (by rw [he]; exact run_v hr) hv⟩
    · cases h
  · cases h

theorem sop_out (F : Facts P T) {dst : Option Tmp} {op : Op} {type : TypeId} {pos : String} {after : Array Edge} {guard : Option (Nat × Bool)} (h : sop P T fn ⟨dst, op, type, pos, after, guard⟩ s H K = some r)
    {g : GM} {l : LM} {w : World} {a : Act} (hm : MR P T g l s.ls H w) (ho : OpdR g l s a ⟨dst, op, type, pos, after, guard⟩) :
    ∃ v ls1 H1, K v (s.withL ls1) H1 = some r ∧ OutR P T ⟨dst, op, type, pos, after, guard⟩ a s H g l w v ls1 H1 := by
  cases hE : isEff P op with
  | false =>
    obtain ⟨v, s1, H1, hk, hl⟩ := sop_small F hE h
    obtain ⟨e1, ho⟩ := hl.out hm ho
    exact ⟨v, s1.ls, H1, by rw [← e1]; exact hk, ho⟩
  | true =>
    cases op <;> first | (cases h; done) | (simp [isEff] at hE; done) | skip
    case store t x y =>
      obtain ⟨ls1, H1, hk, ⟨ad, he, hwk⟩, w', hr, m1, m2⟩ := oStore_run hm (t := t) (ho x (by simp [Op.operands])) (ho y (by simp [Op.operands])) (show oStore P t (ev s x) (vcells (ev s y)) s H K = some r from h)
      exact ⟨_, ls1, H1, hk, ⟨.skip, undef, w', g, l, run_u hr, .inr ⟨rfl, rfl⟩, m1, m2, .g (.tuple .nil), fun _ _ => rfl⟩, .inr ⟨t, x, y, ad, rfl, he, hwk⟩⟩
    case convert t d x => exact conv_eff h hm (ho x (by simp [Op.operands]))
    case lookup t m k ok =>
      obtain ⟨v, hk, v', hr, hv⟩ := lookupK_run hm (t := t) (ok := ok) (ho m (by simp [Op.operands])) (ho k (by simp [Op.operands])) (show lookupK P t (ev s m) (ev s k) ok s H K = some r from h)
      exact ⟨v, s.ls, H, by rw [withL_self]; exact hk, OutR.same hm (run_v hr) hv⟩
    case mapUpdate t m k x =>
      obtain ⟨H1, hk, w', hr, m1, m2⟩ := mapUpK_run hm (t := t) (ho m (by simp [Op.operands])) (ho k (by simp [Op.operands])) (ho x (by simp [Op.operands])) (show mapUpK P t (ev s m) (ev s k) (ev s x) s H K = some r from h)
      exact ⟨_, s.ls, H1, by rw [withL_self]; exact hk, ⟨.skip, undef, w', g, l, run_u hr, .inr ⟨rfl, rfl⟩, m1, m2, .g (.tuple .nil), fun _ _ => rfl⟩, .inl fun _ _ h => h⟩
    case insert t m k x =>
      obtain ⟨H1, hk, w', hr, m1, m2⟩ := mapUpK_run hm (t := t) (ho m (by simp [Op.operands])) (ho k (by simp [Op.operands])) (ho x (by simp [Op.operands])) (show mapUpK P t (ev s m) (ev s k) (ev s x) s H K = some r from h)
      exact ⟨_, s.ls, H1, by rw [withL_self]; exact hk, ⟨.skip, undef, w', g, l, run_u hr, .inr ⟨rfl, rfl⟩, m1, m2, .g (.tuple .nil), fun _ _ => rfl⟩, .inl fun _ _ h => h⟩
end

/-! ### Calls of what is built in -/
/-- A list of values that stand for another. -/
inductive VRL (g : GM) (l : LM) : List Value → List Value → Prop where
  | nil : VRL g l [] []
  | cons {v v' : Value} {r r' : List Value} (h : VR g l v v') (k : VRL g l r r') : VRL g l (v :: r) (v' :: r')
theorem VRL.of_ops {g : GM} {l : LM} {s : Env} {a : Act} : ∀ (xs : List Operand), (∀ x ∈ xs, VR g l (ev s x) (a.eval x)) → VRL g l (xs.map (ev s)) (xs.map a.eval)
  | [], _ => .nil
  | x :: xs, h => .cons (h x (List.mem_cons_self ..)) (VRL.of_ops xs fun y hy => h y (List.mem_cons_of_mem _ hy))
theorem VRL.length {g : GM} {l : LM} : ∀ {r r' : List Value}, VRL g l r r' → r.length = r'.length
  | _, _, .nil => rfl
  | _, _, .cons _ k => by simp [VRL.length k]
theorem VRL.get {g : GM} {l : LM} : ∀ {r r' : List Value}, VRL g l r r' → ∀ (n : Nat) (v : Value), r[n]? = some v → ∃ v' : Value, r'[n]? = some v' ∧ VR g l v v'
  | _, _, .nil, n, v, h => by simp at h
  | _, _, .cons a b, 0, v, h => by simp at h; subst h; exact ⟨_, by simp, a⟩
  | _, _, .cons a b, n + 1, v, h => by simp at h; simpa using VRL.get b n v h

theorem builtinK_out {b : Builtin} {argTypes : Array TypeId} {ty : TypeId} {args args' : List Value} {s : Env} {H : Hp} {K : Value → Env → Hp → Option α} {r : α} (h : builtinK P T b argTypes ty args s H K = some r) {consts : Array Bool}
    {g : GM} {l : LM} {w : World} (hm : MR P T g l s.ls H w) (ha : VRL g l args args') :
    ∃ v H1, K v s H1 = some r ∧ ∃ nx v' w' g', (builtin b argTypes ty consts ⟨args'⟩).run P w = .ok nx w' ∧ NxV nx v' ∧ MR P T g' l s.ls H1 w' ∧ Stp P T g l s.ls H w g' l s.ls H1 w' ∧ VR g' l v v' := by
  have fin : ∀ {S : Sem Value} {v : Value} {H1 : Hp}, Eff P T S g l s.ls H w v s.ls H1 → ∃ nx v' w' g', (do pure (Next.value (← S)) : Sem Next).run P w = .ok nx w' ∧ NxV nx v' ∧ MR P T g' l s.ls H1 w' ∧ Stp P T g l s.ls H w g' l s.ls H1 w' ∧ VR g' l v v' := by
    intro S v H1 ⟨v', w', g', hr, m1, m2, hv⟩
    exact ⟨_, v', w', g', run_v hr, .inl rfl, m1, m2, hv⟩
  have same : ∀ {S : Sem Value} {v v' : Value}, S.run P w = .ok v' w → VR g l v v' → ∃ nx v' w' g', (do pure (Next.value (← S)) : Sem Next).run P w = .ok nx w' ∧ NxV nx v' ∧ MR P T g' l s.ls H w' ∧ Stp P T g l s.ls H w g' l s.ls H w' ∧ VR g' l v v' :=
    fun hr hv => fin (Eff.same hm hr hv)
  unfold builtinK at h
  split at h
  · split at h
    · cases ha with | cons hx ha =>
      cases ha with | cons hy ha =>
      cases ha
      obtain ⟨v, H1, hk, he⟩ := appendK_run (ty := ty) hm hx hy h
      exact ⟨v, H1, hk, fin he⟩
    · cases h
  · split at h
    · cases ha with | cons hx ha =>
      cases ha with | cons hy ha =>
      cases ha
      obtain ⟨v, H1, hk, he⟩ := copyK_run (ty := ty) hm hx hy h
      exact ⟨v, H1, hk, fin he⟩
    · cases h
  · split at h
    · rename_i x t ht
      cases ha with | cons hx ha =>
      cases ha
      obtain ⟨v, hk, v', hr, hv⟩ := lenK_run (ty := ty) hm ht hx h
      exact ⟨v, H, hk, same hr hv⟩
    · cases h
  · split at h
    · rename_i a n c t ht
      split at h
      · rename_i e hu
        split at h
        · cases h
        · rename_i hc
          have hc := blt_iff.1 hc
          cases ha with | cons hx ha =>
          cases ha
          have ht' : argTypes[0]? = some t := by rw [lget_eq] at ht; simpa using ht
          refine ⟨_, H, h, ?_⟩
          cases a with
          | none =>
            rw [hx.slcN_inv]
            exact same (by simp [Builtin.cap_, ht', run_underlying hu, goInt]) (.g (.int _ _))
          | some a =>
            obtain ⟨a', c', rfl, hs⟩ := hx.slc_inv
            rw [(hs.cap hc).1]
            exact same (by simp [Builtin.cap_, ht', run_underlying hu, goInt]) (.g (.int _ _))
      · cases h
    · cases h
  · split at h
    · rename_i x l0
      split at h
      · split at h
        · rename_i v hv
          cases ha with | cons hx ha =>
          obtain ⟨v', hr, hg⟩ := minmax_run (P := P) hv w hx ha.length ha.get
          refine ⟨v, H, h, same (S := Builtin.min_ argTypes ty _) ?_ hg⟩
          exact hr
        · cases h
      · cases h
    · cases h
  · split at h
    · rename_i x l0
      split at h
      · split at h
        · rename_i v hv
          cases ha with | cons hx ha =>
          obtain ⟨v', hr, hg⟩ := minmax_run (P := P) hv w hx ha.length ha.get
          refine ⟨v, H, h, same (S := Builtin.max_ argTypes ty _) ?_ hg⟩
          exact hr
        · cases h
      · cases h
    · cases h
  · exact ⟨_, H, h, .recover, .nilIface, w, g, rfl, .inr (.inr ⟨rfl, rfl⟩), hm, Stp.refl hm.gr, .g .nilI⟩
  · have hargs : ∃ x, args = [x] := by
      unfold uSliceData at h
      split at h
      · exact ⟨_, rfl⟩
      · exact ⟨_, rfl⟩
      · cases h
    obtain ⟨x, rfl⟩ := hargs
    cases ha with | cons hx ha =>
    cases ha
    obtain ⟨v, H1, hk, he⟩ := uSliceData_run (argTypes := argTypes) hm hx h
    exact ⟨v, H1, hk, fin he⟩
  · split at h
    · rename_i t ht
      have ht' : argTypes[0]?.isSome = true := by rw [lget_eq] at ht; simp at ht; simp [ht]
      have hargs : ∃ x y, args = [x, y] := by
        unfold uString at h
        split at h
        · exact ⟨_, _, rfl⟩
        · exact ⟨_, _, rfl⟩
        · cases h
      obtain ⟨x, y, rfl⟩ := hargs
      cases ha with | cons hx ha =>
      cases ha with | cons hy ha =>
      cases ha
      obtain ⟨v, H1, hk, he⟩ := uString_run (ty := ty) hm hx hy ht' h
      exact ⟨v, H1, hk, fin he⟩
    · cases h
  · cases h

end Go.Ev
end
section
set_option linter.unusedSimpArgs false
set_option linter.unusedVariables false
set_option maxHeartbeats 1000000
namespace Go.Ev
variable {P : Program} {T : Tab} {α : Type}

/-- A frame in which a call of `recover` finds nothing. -/
def KindOk (kind : CallKind) (cs : List Frame) : Prop := kind = .normal ∨ (kind = .deferred ∧ ∃ c cs', cs = c :: cs' ∧ c.mode = .returning)

section
variable {b : Frame} {a : Act} {k : List Item} {cs : List Frame} {w : World} {ops : Array Oper} {i : Nat} {rest : List Nat} {o : Oper}

theorem tryRecover_none {fr : Frame} (h : KindOk fr.kind cs) : tryRecover fr cs = none := by
  rcases h with h | ⟨h, c, cs', rfl, hm⟩
  · unfold tryRecover; rw [h]
  · unfold tryRecover; rw [h]; simp [hm]

theorem step_nx (ho : ops[i]? = some o) (hw : Region.wanted o (yielded ops a.tmps) = true) (hd : ∀ c, o.op ≠ .defer c) {nx : Next} {v' : Value} {w' : World} (hr : (execOp a.eval o).run P w = .ok nx w') (hn : NxV nx v')
    (hk : nx = .recover → b.roundOf = none ∧ KindOk b.kind cs) :
    step P (lone (b.atR a (.inRegion ops (i :: rest) :: k)) cs w) = .next (lone (b.atR (a.put o.dst v') (.inRegion ops rest :: k)) cs w') := by
  have hf : ∀ v, (b.atR a (.inRegion ops (i :: rest) :: k)).finish v = b.atR (a.put o.dst v) (.inRegion ops rest :: k) := fun v => by
    rw [Frame.finish_atR, ho]; rfl
  refine step_lone_go ?_
  rw [stepGR_op ho hw, Oper.semAt_eq _ _ _ hd]
  rcases hn with rfl | ⟨rfl, rfl⟩ | ⟨rfl, rfl⟩
  · simp [stepG.apply, Sem.runT_eq, hr, hf]
  · simp [stepG.apply, Sem.runT_eq, hr, hf]
  · obtain ⟨h1, h2⟩ := hk rfl
    have h3 : (b.atR a (.inRegion ops (i :: rest) :: k)).roundOf = none := h1
    have h4 := tryRecover_none (fr := b.atR a (.inRegion ops (i :: rest) :: k)) (cs := cs) h2
    simp [stepG.apply, Sem.runT_eq, hr, hf, h3, h4]

theorem step_enterOp (ho : ops[i]? = some o) (hw : Region.wanted o (yielded ops a.tmps) = true) (hd : ∀ c, o.op ≠ .defer c) {f : FuncId} {args : Array Value} {w' : World} (hr : (execOp a.eval o).run P w = .ok (.enter f args) w') :
    step P (lone (b.atR a (.inRegion ops (i :: rest) :: k)) cs w) = .next (lone (Frame.enter P f args .normal) (b.atR a (.inRegion ops (i :: rest) :: k) :: cs) w') := by
  refine step_lone_go ?_
  rw [stepGR_op ho hw, Oper.semAt_eq _ _ _ hd]
  simp [stepG.apply, Sem.runT_eq, hr, Frame.atR]

theorem step_roundOp (ho : ops[i]? = some o) (hw : Region.wanted o (yielded ops a.tmps) = true) (hd : ∀ c, o.op ≠ .defer c) {l : Nat} {f : FuncId} {tmps : Array Value} {asg body : Code} {w' : World} (hr : (execOp a.eval o).run P w = .ok (.round l f tmps asg body) w') :
    step P (lone (b.atR a (.inRegion ops (i :: rest) :: k)) cs w) = .next (lone (Frame.round l f tmps asg body .normal) (b.atR a (.inRegion ops (i :: rest) :: k) :: cs) w') := by
  refine step_lone_go ?_
  rw [stepGR_op ho hw, Oper.semAt_eq _ _ _ hd]
  simp [stepG.apply, Sem.runT_eq, hr, Frame.atR]

theorem step_deferOp (ho : ops[i]? = some o) (hw : Region.wanted o (yielded ops a.tmps) = true) (hb : b.roundOf = none) {d : Deferred} {w' : World} (hr : (execOp a.eval o).run P w = .ok (.defer d) w') :
    step P (lone (b.atR a (.inRegion ops (i :: rest) :: k)) cs w) = .next (lone (b.atR (({ a with defers := d :: a.defers } : Act).put o.dst undef) (.inRegion ops rest :: k)) cs w') := by
  refine step_lone_go ?_
  rw [stepGR_op ho hw, hb, Oper.semAt_none]
  have hf : ({ b.atR a (.inRegion ops (i :: rest) :: k) with defers := d :: (b.atR a (.inRegion ops (i :: rest) :: k)).defers } : Frame).finish undef = b.atR (({ a with defers := d :: a.defers } : Act).put o.dst undef) (.inRegion ops rest :: k) := by
    have := Frame.finish_atR b { a with defers := d :: a.defers } ops i rest k undef
    rw [ho] at this
    exact this
  simp [stepG.apply, Sem.runT_eq, hr, hf]

theorem step_skipOp (ho : ops[i]? = some o) (hw : Region.wanted o (yielded ops a.tmps) = false) :
    step P (lone (b.atR a (.inRegion ops (i :: rest) :: k)) cs w) = .next (lone (b.atR (a.put o.dst undef) (.inRegion ops rest :: k)) cs w) := by
  have := stepR_op_skip (P := P) (b := b) (a := a) (k := k) (cs := cs) (w := w) (ops := ops) (i := i) (rest := rest) (by rw [ho]; simpa using hw)
  rw [ho] at this
  exact this
end

/-! ### What a call comes to -/
/-- From a function's entry to its leaving. -/
def BodyR (P : Program) (f : FuncId) (args : Array Value) (w : World) (R : Value → World → Prop) : Prop :=
  ∀ kind cs, KindOk kind cs → ∃ v w' fr, R v w' ∧ Steps P (lone (Frame.enter P f args kind) cs w) (lone fr cs w') ∧ fr.fn = f ∧ fr.kind = kind ∧ fr.mode = .returning ∧ fr.defers = [] ∧
    ∃ fn, P.funcs[f]? = some fn ∧ (results fn fr.tmps).run P w' = .ok v w'

theorem BodyR.calls {f : FuncId} {args : Array Value} {w : World} {R : Value → World → Prop} (h : BodyR P f args w R) : Calls P f args w (fun e w' => ∃ v, e = .returned v ∧ R v w') := by
  intro cs
  obtain ⟨v, w', fr, hR, hs, h1, h2, h3, h4, fn, h5, h6⟩ := h .normal cs (.inl rfl)
  exact ⟨.returned v, w', fr, ⟨v, rfl, hR⟩, hs, h1, h3, h4, h2, fn, by rw [h1]; exact h5, h6⟩

theorem BodyR.normal {f : FuncId} {args : Array Value} {w : World} {R : Value → World → Prop} (h : BodyR P f args w R) (c : Frame) (cs : List Frame) :
    ∃ v w', R v w' ∧ Steps P (lone (Frame.enter P f args .normal) (c :: cs) w) (lone (c.finish v) cs w') := by
  obtain ⟨v, w', fr, hR, hs, h1, h2, h3, h4, fn, h5, h6⟩ := h .normal (c :: cs) (.inl rfl)
  exact ⟨v, w', hR, Steps.trans hs (.one (step_leave_returned ⟨h3, h4, h2, fn, by rw [h1]; exact h5, h6⟩))⟩

theorem BodyR.deferred {f : FuncId} {args : Array Value} {w : World} {R : Value → World → Prop} (h : BodyR P f args w R) (c : Frame) (cs : List Frame) (hc : c.mode = .returning) :
    ∃ v w', R v w' ∧ Steps P (lone (Frame.enter P f args .deferred) (c :: cs) w) (lone c cs w') := by
  obtain ⟨v, w', fr, hR, hs, h1, h2, h3, h4, fn, h5, h6⟩ := h .deferred (c :: cs) (.inr ⟨rfl, c, cs, rfl, hc⟩)
  have := step_going_returned (P := P) (c := c) (cs := cs) (w := w') h2 ⟨h3, h4, fn, by rw [h1]; exact h5, h6⟩
  rw [hc] at this
  have e : ({ c with mode := settle .returning } : Frame) = c := by
    have : settle FrameMode.returning = c.mode := by rw [hc]; rfl
    rw [this]
  rw [e] at this
  exact ⟨v, w', hR, Steps.trans hs (.one this)⟩

/-- A round of a loop over a function. -/
def RoundR (P : Program) (l : Nat) (f : FuncId) (tmps : Array Value) (asg body : Code) (w : World) (R : Value → World → Prop) : Prop :=
  ∀ c cs, ∃ v w', R v w' ∧ Steps P (lone (Frame.round l f tmps asg body .normal) (c :: cs) w) (lone (c.finish v) cs w')

/-- What the invoking of a function value comes to. -/
def InvR (P : Program) (f : Fn) (args : List Value) (w : World) (R : Value → World → Prop) : Prop :=
  ∀ as cap : List Value, args = as ++ cap → (∀ l, f = .yield l → cap = []) →
    (∃ v w', R v w' ∧ (invoke (.fn f ⟨cap⟩) ⟨as⟩).run P w = .ok (.value v) w') ∨
    (∃ g xs w1, (invoke (.fn f ⟨cap⟩) ⟨as⟩).run P w = .ok (.enter g xs) w1 ∧ BodyR P g xs w1 R) ∨
    (∃ l g tmps asg body w1, (∃ l, f = .yield l) ∧ (invoke (.fn f ⟨cap⟩) ⟨as⟩).run P w = .ok (.round l g tmps asg body) w1 ∧ RoundR P l g tmps asg body w1 R)

end Go.Ev
end
section
set_option linter.unusedSimpArgs false
set_option linter.unusedVariables false
set_option maxHeartbeats 1000000
namespace Go.Ev
variable {P : Program} {T : Tab} {α : Type}

def FnR (g : GM) (f f' : Fn) : Prop := (∃ n, f = .func n ∧ f' = .func n) ∨ (∃ l i, f = .yield l ∧ g l = some i ∧ f' = .yield i.blk)
def GLB (T : Tab) (g : GM) : Prop := ∀ b, b < T.ng → ∃ n, g b = some ⟨b, 0, n⟩
theorem GLB.mono {g g' : GM} (h : g.le g') (k : GLB T g) : GLB T g' := fun b hb => let ⟨n, e⟩ := k b hb; ⟨n, h _ _ e⟩

/-- All calls come to what the evaluator says. -/
def CallOk (P : Program) (T : Tab) (call : Fn → List Value → Hp → (Value → Hp → Option α) → Option α) : Prop :=
  ∀ f args H K r, call f args H K = some r → ∀ g w args' f', GR P T g H w → GLB T g → VGL g args args' → FnR g f f' →
    InvR P f' args' w (fun v' w' => ∃ v H' g', K v H' = some r ∧ VG g' v v' ∧ Ext P T (fun _ => False) g H w g' H' w')

/-- Deferred calls that stand for deferred calls. -/
inductive DR (g : GM) : List ADef → List Deferred → Prop where
  | nil : DR g [] []
  | call {n : FuncId} {args args' cap' : List Value} {ds : List ADef} {ds' : List Deferred} (h : VGL g args (args' ++ cap')) (k : DR g ds ds') :
      DR g (.call (.func n) args :: ds) (⟨.fn (.func n) ⟨cap'⟩, ⟨args'⟩⟩ :: ds')
  | coll {b : Nat} {i : Img} {ds : List ADef} {ds' : List Deferred} (h : g b = some i) (k : DR g ds ds') : DR g (.coll b :: ds) (⟨.collected i.blk, #[]⟩ :: ds')
theorem DR.mono {g g' : GM} (h : g.le g') : ∀ {ds : List ADef} {ds' : List Deferred}, DR g ds ds' → DR g' ds ds'
  | _, _, .nil => .nil
  | _, _, .call a k => .call (a.mono h) (DR.mono h k)
  | _, _, .coll a k => .coll (h _ _ a) (DR.mono h k)

theorem VR.monoL {g : GM} {l l' : LM} (h : ∀ t c, l t = some c → l' t = some c) {v v' : Value} (k : VR g l v v') : VR g l' v v' := by
  cases k with
  | g k => exact .g k
  | ptr k => exact .ptr ⟨k.1, k.2.1, h _ _ k.2.2.1, k.2.2.2⟩
  | slc k c => exact .slc ⟨k.1, k.2.1, h _ _ k.2.2.1, k.2.2.2⟩ c
  | slcE k p q => exact .slcE ⟨k.1, k.2.1, h _ _ k.2.2⟩ p q

/-- A frame that stands for a frame; `S`: the temporaries that are not there yet. -/
structure FR (P : Program) (T : Tab) (g : GM) (l : LM) (s : Env) (H : Hp) (w : World) (a : Act) (n0 : Nat) (S : Tmp → Prop) : Prop where
  mr : MR P T g l s.ls H w
  ts : ∀ t v, ¬ (S t ∧ t < s.nt) → s.ts.get t = some v → VR g l v (a.tmps.getD t undef)
  nt : a.tmps.size = s.nt
  ds : DR g s.ds a.defers
  lo : ∀ t c, l t = some c → n0 ≤ c
  gl : GLB T g

/-- In whose name a frame runs. -/
structure FxR (g : GM) (fx : Fx) (b : Frame) : Prop where
  fn : b.fn = fx.fn
  none : fx.ro = none → b.roundOf = none
  some : ∀ l, fx.ro = some l → ∃ i, g l = some i ∧ b.roundOf = some i.blk
theorem FxR.mono {g g' : GM} (h : g.le g') {fx : Fx} {b : Frame} (k : FxR g fx b) : FxR g' fx b :=
  ⟨k.fn, k.none, fun l e => let ⟨i, p, q⟩ := k.some l e; ⟨i, h _ _ p, q⟩⟩

theorem mem_tmpsOf {t : Tmp} : ∀ {xs : List Operand}, Operand.tmp t ∈ xs → t ∈ tmpsOf xs
  | x :: xs, h => by
    rcases List.mem_cons.1 h with rfl | h
    · simp [tmpsOf]
    · have := mem_tmpsOf h
      cases x <;> simp [tmpsOf, this]

theorem FR.operand {g : GM} {l : LM} {s : Env} {H : Hp} {w : World} {a : Act} {n0 : Nat} {S : Tmp → Prop} (h : FR P T g l s H w a n0 S) {x : Operand} (hx : opdOk T x = true) (hS : ∀ t, x = .tmp t → ¬ S t) : VR g l (ev s x) (a.eval x) := by
  cases x with
  | tmp t =>
    show VR g l (match s.ts.get t with | some v => v | none => topV) (a.tmps.getD t undef)
    cases e : s.ts.get t with
    | none => exact .g (.top _)
    | some v => exact h.ts t v (fun q => hS t rfl q.1) e
  | const v => exact cst_ok g l v
  | global b =>
    obtain ⟨n, e⟩ := h.gl b (blt_iff.1 hx)
    exact .g (.ptr ⟨rfl, rfl, _, e, rfl, rfl⟩)
  | func f => exact .g (.func .nil .nil)

theorem FR.opd {g : GM} {l : LM} {s : Env} {H : Hp} {w : World} {a : Act} {n0 : Nat} {S : Tmp → Prop} (h : FR P T g l s H w a n0 S) {o : Oper} (hx : o.op.operands.toList.all (opdOk T) = true) (hS : ∀ t ∈ tmpsOf o.op.operands.toList, ¬ S t) : OpdR g l s a o := by
  intro x hm
  have hm' := Array.mem_toList_iff.2 hm
  exact h.operand (List.all_eq_true.1 hx x hm') fun t e => hS t (mem_tmpsOf (by rw [← e]; exact hm'))

theorem MR.call {g : GM} {l : LM} {ls : LS} {H : Hp} {w : World} (h : MR P T g l ls H w) {g' : GM} {H' : Hp} {w' : World} (he : Ext P T (fun _ => False) g H w g' H' w') : MR P T g' l ls H' w' ∧ Stp P T g l ls H w g' l ls H' w' := by
  refine ⟨⟨he.gr, fun t c ht => ?_, h.li⟩, ⟨he.own_mono (fun _ h => h.elim), fun _ _ h => h, fun _ _ h => .inl h, fun _ _ => rfl⟩⟩
  obtain ⟨p, q, cs, r, s⟩ := h.lc t c ht
  refine ⟨Nat.lt_of_lt_of_le p he.size, fun e => ?_, cs, r, (s.heap (he.frame c p q id)).mono he.le⟩
  rcases he.live h.gr.dom e with e | e
  · omega
  · exact q e

theorem setD_nt (s : Env) (t : Option Tmp) (v : Value) : (setD s t v).nt = s.nt := by
  cases t with
  | none => rfl
  | some t => cases s; simp only [setD, setT]; split <;> rfl
theorem setD_ls (s : Env) (t : Option Tmp) (v : Value) : (setD s t v).ls = s.ls := by
  cases t with
  | none => rfl
  | some t => cases s; simp only [setD, setT]; split <;> rfl
theorem setD_ds (s : Env) (t : Option Tmp) (v : Value) : (setD s t v).ds = s.ds := by
  cases t with
  | none => rfl
  | some t => cases s; simp only [setD, setT]; split <;> rfl
theorem setT_get (s : Env) (t u : Tmp) (v : Value) : (setT s t v).ts.get u = if t = u ∧ t < s.nt then (s.ts.get u).map (fun _ => v) else s.ts.get u := by
  obtain ⟨n, ts, ls, ds⟩ := s
  simp only [setT]
  split
  · rename_i h
    have h := blt_iff.1 h
    by_cases e : t = u
    · subst e; rw [if_pos ⟨rfl, h⟩]; exact TT.get_set_same ts t v
    · rw [if_neg (fun q => e q.1)]; exact TT.get_set_ne ts t u v e
  · rename_i h
    have h := blt_false.1 h
    rw [if_neg (fun q => absurd q.2 (Nat.not_lt.2 h))]
theorem setD_get_ne (s : Env) (d : Option Tmp) (u : Tmp) (v : Value) (h : d ≠ some u) : (setD s d v).ts.get u = s.ts.get u := by
  cases d with
  | none => rfl
  | some t => show (setT s t v).ts.get u = _; rw [setT_get, if_neg (fun q => h (by rw [q.1]))]

theorem put_getD (a : Act) (d : Option Tmp) (v : Value) (u : Tmp) : (a.put d v).tmps.getD u undef = if d = some u ∧ u < a.tmps.size then v else a.tmps.getD u undef := by
  cases d with
  | none => simp [Act.put]
  | some t =>
    simp only [Act.put, Array.getD_eq_getD_getElem?, Option.some.injEq]
    by_cases e : t = u
    · subst e
      by_cases hlt : t < a.tmps.size
      · rw [if_pos ⟨rfl, hlt⟩, Array.getElem?_setIfInBounds_self_of_lt hlt]; rfl
      · rw [if_neg (fun q => hlt q.2)]
        rw [Array.getElem?_eq_none (by simpa using Nat.le_of_not_lt hlt), Array.getElem?_eq_none (Nat.le_of_not_lt hlt)]
    · rw [if_neg (fun q => e q.1), Array.getElem?_setIfInBounds_ne e]
theorem put_size (a : Act) (d : Option Tmp) (v : Value) : (a.put d v).tmps.size = a.tmps.size := by
  cases d <;> simp [Act.put]
theorem put_defers (a : Act) (d : Option Tmp) (v : Value) : (a.put d v).defers = a.defers := by
  cases d <;> rfl

/-- Behind an operation. -/
theorem FR.put {g : GM} {l : LM} {s : Env} {H : Hp} {w : World} {a : Act} {n0 : Nat} {S S' : Tmp → Prop} (h : FR P T g l s H w a n0 S) {g' : GM} {l' : LM} {ls1 : LS} {ds1 : List ADef} {H1 : Hp} {w' : World} {d : Option Tmp} {v v' : Value} {df : List Deferred}
    (hm : MR P T g' l' ls1 H1 w') (hs : Stp P T g l s.ls H w g' l' ls1 H1 w') (hv : VR g' l' v v') (hd : DR g' ds1 df) (hn : n0 ≤ w.heap.size) (hS : ∀ t, S t → d ≠ some t → S' t) :
    FR P T g' l' (setD ⟨s.nt, s.ts, ls1, ds1⟩ d v) H1 w' (({ a with defers := df } : Act).put d v') n0 S' where
  mr := by rw [setD_ls]; exact hm
  ts := by
    intro t u hnS hu
    rw [setD_nt] at hnS
    rw [put_getD]
    by_cases hdt : d = some t
    · subst hdt
      have hu : (setT ⟨s.nt, s.ts, ls1, ds1⟩ t v).ts.get t = some u := hu
      rw [setT_get] at hu
      simp only at hu
      by_cases hlt : t < s.nt
      · rw [if_pos ⟨trivial, hlt⟩] at hu
        rw [if_pos ⟨rfl, by show t < a.tmps.size; rw [h.nt]; exact hlt⟩]
        cases e : s.ts.get t with
        | none => rw [e] at hu; cases hu
        | some x => rw [e] at hu; simp at hu; rw [← hu]; exact hv
      · rw [if_neg (fun q => hlt q.2)] at hu
        rw [if_neg (fun q => hlt (by have := q.2; simp only [h.nt] at this; exact this))]
        exact ((h.ts t u (fun q => hlt q.2) hu).mono hs.ext.le).monoL hs.ll
    · rw [setD_get_ne _ _ _ _ hdt] at hu
      rw [if_neg (fun q => hdt q.1)]
      exact ((h.ts t u (fun q => hnS ⟨hS t q.1 hdt, q.2⟩) hu).mono hs.ext.le).monoL hs.ll
  nt := by rw [setD_nt, put_size]; exact h.nt
  ds := by rw [setD_ds, put_defers]; exact hd
  lo := fun t c e => (hs.ln t c e).elim (h.lo t c) (fun q => Nat.le_trans hn q)
  gl := h.gl.mono hs.ext.le

end Go.Ev
end
section
set_option linter.unusedSimpArgs false
set_option linter.unusedVariables false
set_option maxHeartbeats 1000000
namespace Go.Ev
variable {P : Program} {T : Tab} {α : Type}

theorem all_append_nl {a b : List Value} (h : (a ++ b).all nl = true) : a.all nl = true ∧ b.all nl = true := by
  simpa [List.all_append, Bool.and_eq_true] using h

theorem run_v_rec {S : Sem Value} {w w' : World} (h : (do pure (Next.value (← S)) : Sem Next).run P w = .ok .recover w') : False := by
  rw [Sem.run_bind] at h
  cases hs : S.run P w with
  | ok v w1 => rw [hs] at h; cases h
  | halt x w1 => rw [hs] at h; cases h

theorem arr_eq (p' xs : List Value) (args : Array Operand) (f : Operand → Value) (h : xs = args.toList.map f) : (⟨p'⟩ : Array Value) ++ args.map f = ⟨p' ++ xs⟩ := by
  apply Array.ext'; simp [h]

/-- The result of an operation, as a stretch of the run. -/
def OpOut (P : Program) (T : Tab) (b : Frame) (ops : Array Oper) (i : Nat) (rest : List Nat) (k : List Item) (cs : List Frame) (o : Oper) (a : Act) (s : Env) (H : Hp) (g : GM) (l : LM) (w : World) (v : Value) (ls1 : LS) (ds1 : List ADef) (H1 : Hp) : Prop :=
  (∃ v' w' g' l' df, Steps P (lone (b.atR a (.inRegion ops (i :: rest) :: k)) cs w) (lone (b.atR (({ a with defers := df } : Act).put o.dst v') (.inRegion ops rest :: k)) cs w') ∧
    MR P T g' l' ls1 H1 w' ∧ Stp P T g l s.ls H w g' l' ls1 H1 w' ∧ VR g' l' v v' ∧ DR g' ds1 df ∧ ∀ t, o.dst ≠ some t → l' t = l t) ∧ KeepL s H o ls1 H1

theorem OutR.op {b : Frame} {ops : Array Oper} {i : Nat} {rest : List Nat} {k : List Item} {cs : List Frame} {o : Oper} {a : Act} {s : Env} {H : Hp} {g : GM} {l : LM} {w : World} {v : Value} {ls1 : LS} {H1 : Hp}
    (h : OutR P T o a s H g l w v ls1 H1) (hi : ops[i]? = some o) (hw : Region.wanted o (yielded ops a.tmps) = true) (hd : ∀ c, o.op ≠ .defer c) (hds : DR g s.ds a.defers) :
    OpOut P T b ops i rest k cs o a s H g l w v ls1 s.ds H1 := by
  obtain ⟨⟨nx, v', w', g', l', hr, hn, m1, m2, hv, hl⟩, hkeep⟩ := h
  exact ⟨⟨v', w', g', l', a.defers, .one (step_nx hi hw hd hr hn.v (fun e => absurd e hn.rec)), m1, m2, hv, hds.mono m2.ext.le, hl⟩, hkeep⟩

theorem eop_ok (F : Facts P T) {call : Fn → List Value → Hp → (Value → Hp → Option α) → Option α} (hC : CallOk P T call) {fx : Fx} {o : Oper} {s : Env} {H : Hp} {K : Env → Hp → Option α} {r : α} (h : eop P T call fx o s H K = some r)
    {g : GM} {l : LM} {w : World} {a : Act} {n0 : Nat} {S : Tmp → Prop} (hF : FR P T g l s H w a n0 S) (ho : OpdR g l s a o) {b : Frame} (hb : FxR g fx b) {cs : List Frame} (hk : KindOk b.kind cs)
    {ops : Array Oper} {i : Nat} (hi : ops[i]? = some o) (hw : Region.wanted o (yielded ops a.tmps) = true) (rest : List Nat) (k : List Item) :
    ∃ v ls1 ds1 H1, K (setD ⟨s.nt, s.ts, ls1, ds1⟩ o.dst v) H1 = some r ∧ OpOut P T b ops i rest k cs o a s H g l w v ls1 ds1 H1 := by
  have hsop : ∀ {dst op type pos after guard}, o = ⟨dst, op, type, pos, after, guard⟩ → (∀ c, op ≠ .defer c) → sop P T fx.fn o s H (fun v s H => K (setD s o.dst v) H) = some r →
      ∃ v ls1 ds1 H1, K (setD ⟨s.nt, s.ts, ls1, ds1⟩ o.dst v) H1 = some r ∧ OpOut P T b ops i rest k cs o a s H g l w v ls1 ds1 H1 := by
    intro dst op type pos after guard e hd hs
    subst e
    obtain ⟨v, ls1, H1, hk', hout⟩ := sop_out F hs hF.mr ho
    exact ⟨v, ls1, s.ds, H1, hk', hout.op hi hw (fun c e => hd c e) hF.ds⟩
  obtain ⟨dst, op, type, pos, after, guard⟩ := o
  have hself : (⟨s.nt, s.ts, s.ls, s.ds⟩ : Env) = s := by cases s; rfl
  cases op
  case call c =>
    replace h : (match c.callee with
      | .builtin b => (match roOk fx.ro b with
        | true => builtinK P T b c.argTypes type (c.args.toList.map (ev s)) s H (fun v s H => K (setD s dst v) H)
        | false => none)
      | .value f => (match ev s f with
        | .func g first captured =>
          (match (first.toList ++ (c.args.toList.map (ev s) ++ captured.toList)).all nl with
          | true => call g (first.toList ++ (c.args.toList.map (ev s) ++ captured.toList)) H (fun v H => K (setD s dst v) H)
          | false => none)
        | _ => none)
      | .invoke .. => none) = some r := h
    obtain ⟨callee, args, argTypes⟩ := c
    have hd : ∀ c', (Op.call ⟨callee, args, argTypes⟩) ≠ .defer c' := fun _ e => by cases e
    cases callee with
    | builtin bi =>
      dsimp only at h
      split at h
      · rename_i hro
        have hargs : VRL g l (args.toList.map (ev s)) (args.toList.map a.eval) := VRL.of_ops args.toList fun x hx => ho x (by simp [Op.operands, Call.operands, Array.mem_toList_iff.1 hx])
        obtain ⟨v, H1, hk', nx, v', w', g', hr, hn, m1, m2, hv⟩ := builtinK_out h (consts := args.map fun | .const _ => true | _ => false) hF.mr hargs
        have e1 : args.map a.eval = ⟨args.toList.map a.eval⟩ := by apply Array.ext'; simp
        have hr' : (execOp a.eval ⟨dst, .call ⟨.builtin bi, args, argTypes⟩, type, pos, after, guard⟩).run P w = .ok nx w' := by
          show (builtin bi argTypes type (args.map fun | .const _ => true | _ => false) (args.map a.eval)).run P w = _
          rw [e1]; exact hr
        refine ⟨v, s.ls, s.ds, H1, by rw [hself]; exact hk', ⟨v', w', g', l, a.defers, .one (step_nx hi hw hd hr' hn fun e => ?_), m1, m2, hv, hF.ds.mono m2.ext.le, fun _ _ => rfl⟩, .inl fun _ _ h => h⟩
        subst e
        cases hfx : fx.ro with
        | none => exact ⟨hb.none hfx, hk⟩
        | some l0 =>
          rw [hfx] at hro
          exfalso
          cases bi <;> first | (cases hro; done) | (simp [builtinK] at h; done) | exact run_v_rec hr
      · cases h
    | value f =>
      dsimp only at h
      split at h
      · rename_i g0 first captured hf
        split at h
        · rename_i hnl
          obtain ⟨hn1, hn2⟩ := all_append_nl hnl
          obtain ⟨hn2, hn3⟩ := all_append_nl hn2
          have hfv : VR g l (ev s f) (a.eval f) := ho f (by simp [Op.operands, Call.operands])
          rw [hf] at hfv
          have hargs : VGL g (args.toList.map (ev s)) (args.toList.map a.eval) := evL_vgl args.toList (fun x hx => ho x (by simp [Op.operands, Call.operands, Array.mem_toList_iff.1 hx])) hn2
          have main : ∀ (f' : Fn) (p' c' : List Value), a.eval f = .func f' ⟨p'⟩ ⟨c'⟩ → FnR g g0 f' → VGL g first.toList p' → VGL g captured.toList c' → (∀ l, f' = .yield l → c' = []) →
              ∃ v ls1 ds1 H1, K (setD ⟨s.nt, s.ts, ls1, ds1⟩ dst v) H1 = some r ∧ OpOut P T b ops i rest k cs ⟨dst, .call ⟨.value f, args, argTypes⟩, type, pos, after, guard⟩ a s H g l w v ls1 ds1 H1 := by
            intro f' p' c' hfe hfn hp hc hy
            have hinv := hC g0 _ H _ r h g w (p' ++ (args.toList.map a.eval ++ c')) f' hF.mr.gr hF.gl (hp.append (hargs.append hc)) hfn (p' ++ args.toList.map a.eval) c' (by simp) hy
            have hx : (execOp a.eval ⟨dst, .call ⟨.value f, args, argTypes⟩, type, pos, after, guard⟩).run P w = (invoke (.fn f' ⟨c'⟩) ⟨p' ++ args.toList.map a.eval⟩).run P w := by
              show (do let d ← Deferred.ofValue (a.eval f) (args.map a.eval); invoke d.target d.args : Sem Next).run P w = _
              rw [hfe]
              show (invoke (.fn f' ⟨c'⟩) ((⟨p'⟩ : Array Value) ++ args.map a.eval)).run P w = _
              rw [arr_eq p' _ args a.eval rfl]
            have hfin : ∀ {v' : Value} {w' : World}, (∃ v H' g', K (setD s dst v) H' = some r ∧ VG g' v v' ∧ Ext P T (fun _ => False) g H w g' H' w') →
                Steps P (lone (b.atR a (.inRegion ops (i :: rest) :: k)) cs w) (lone (b.atR (a.put dst v') (.inRegion ops rest :: k)) cs w') →
                ∃ v ls1 ds1 H1, K (setD ⟨s.nt, s.ts, ls1, ds1⟩ dst v) H1 = some r ∧ OpOut P T b ops i rest k cs ⟨dst, .call ⟨.value f, args, argTypes⟩, type, pos, after, guard⟩ a s H g l w v ls1 ds1 H1 := by
              intro v' w' ⟨v, H', g', hk', hv, hext⟩ hst
              obtain ⟨m1, m2⟩ := hF.mr.call hext
              exact ⟨v, s.ls, s.ds, H', by rw [hself]; exact hk', ⟨v', w', g', l, a.defers, hst, m1, m2, .g hv, hF.ds.mono m2.ext.le, fun _ _ => rfl⟩, .inl fun _ _ h => h⟩
            have hfe2 : ∀ v', (b.atR a (.inRegion ops (i :: rest) :: k)).finish v' = b.atR (a.put dst v') (.inRegion ops rest :: k) := fun v' => by
              rw [Frame.finish_atR, hi]; rfl
            rcases hinv with ⟨v', w', hR, hr⟩ | ⟨g1, xs, w1, hr, hB⟩ | ⟨l1, g1, tmps, asg, body, w1, _, hr, hB⟩
            · exact hfin hR (.one (step_nx hi hw hd (by rw [hx]; exact hr) (.inl rfl) (fun e => by cases e)))
            · obtain ⟨v', w', hR, hs⟩ := hB.normal (b.atR a (.inRegion ops (i :: rest) :: k)) cs
              refine hfin hR (.head (step_enterOp hi hw hd (by rw [hx]; exact hr)) ?_)
              rw [← hfe2]; exact hs
            · obtain ⟨v', w', hR, hs⟩ := hB (b.atR a (.inRegion ops (i :: rest) :: k)) cs
              refine hfin hR (.head (step_roundOp hi hw hd (by rw [hx]; exact hr)) ?_)
              rw [← hfe2]; exact hs
          generalize hae : a.eval f = fv at hfv main
          cases hfv with
          | g hfv =>
            cases hfv with
            | func hp hc => exact main _ _ _ rfl (.inl ⟨_, rfl, rfl⟩) hp hc (fun l e => by cases e)
            | yield hl => exact main _ _ _ rfl (.inr ⟨_, _, rfl, hl, rfl⟩) .nil .nil (fun _ _ => rfl)
        · cases h
      · cases h
    | invoke x m => cases h
  case defer c =>
    obtain ⟨callee, args, argTypes⟩ := c
    cases callee with
    | builtin bi =>
      replace h : (match fx.ro with | some _ => none | none => (none : Option α)) = some r := h
      cases hfx : fx.ro <;> (rw [hfx] at h; cases h)
    | invoke x m =>
      replace h : (match fx.ro with | some _ => none | none => (none : Option α)) = some r := h
      cases hfx : fx.ro <;> (rw [hfx] at h; cases h)
    | value f =>
      replace h : (match fx.ro with
        | some _ => none
        | none => (match ev s f with
        | .func g first captured =>
          (match g with
          | .func n => (match (first.toList ++ (args.toList.map (ev s) ++ captured.toList)).all nl with
            | true => K (setD (pushD s (.call (.func n) (first.toList ++ (args.toList.map (ev s) ++ captured.toList)))) dst undefV) H
            | false => none)
          | _ => none)
        | _ => none)) = some r := h
      cases hfx : fx.ro with
      | some l0 => rw [hfx] at h; cases h
      | none =>
        rw [hfx] at h
        dsimp only at h
        split at h
        · rename_i g0 first captured hf
          split at h
          · rename_i n
            split at h
            · rename_i hnl
              obtain ⟨hn1, hn2⟩ := all_append_nl hnl
              obtain ⟨hn2, hn3⟩ := all_append_nl hn2
              have hfv : VR g l (ev s f) (a.eval f) := ho f (by simp [Op.operands, Call.operands])
              rw [hf] at hfv
              have hargs : VGL g (args.toList.map (ev s)) (args.toList.map a.eval) := evL_vgl args.toList (fun x hx => ho x (by simp [Op.operands, Call.operands, Array.mem_toList_iff.1 hx])) hn2
              generalize hae : a.eval f = fv at hfv
              cases hfv with
              | g hfv =>
                cases hfv with
                | func hp hc =>
                  rename_i p p' c c'
                  have hr : (execOp a.eval ⟨dst, .defer ⟨.value f, args, argTypes⟩, type, pos, after, guard⟩).run P w = .ok (.defer ⟨.fn (.func n) ⟨c'⟩, ⟨p' ++ args.toList.map a.eval⟩⟩) w := by
                    show (do pure (.defer (← Deferred.ofValue (a.eval f) (args.map a.eval))) : Sem Next).run P w = _
                    rw [hae]
                    show Result.ok (Next.defer ⟨.fn (.func n) ⟨c'⟩, (⟨p'⟩ : Array Value) ++ args.map a.eval⟩) w = _
                    rw [arr_eq p' _ args a.eval rfl]
                  have hps : pushD s (.call (.func n) (p ++ (args.toList.map (ev s) ++ c))) = ⟨s.nt, s.ts, s.ls, .call (.func n) (p ++ (args.toList.map (ev s) ++ c)) :: s.ds⟩ := by cases s; rfl
                  refine ⟨undefV, s.ls, _, H, by rw [← hps]; exact h, ⟨undef, w, g, l, _, .one (step_deferOp hi hw (hb.none hfx) hr), hF.mr, Stp.refl hF.mr.gr, .g (.tuple .nil), .call ?_ hF.ds, fun _ _ => rfl⟩, .inl fun _ _ h => h⟩
                  have := hp.append (hargs.append hc)
                  simpa [List.append_assoc] using this
            · cases h
          · cases h
        · cases h
  all_goals exact hsop rfl (fun _ e => by cases e) h

end Go.Ev
end
section
set_option linter.unusedSimpArgs false
set_option linter.unusedVariables false
set_option maxHeartbeats 1000000
namespace Go.Ev
variable {P : Program} {T : Tab} {α : Type}

structure SameE (s s' : Env) : Prop where
  nt : s'.nt = s.nt
  ls : s'.ls = s.ls
  ds : s'.ds = s.ds
  ts : ∀ t, s'.ts.get t = s.ts.get t
theorem SameE.refl (s : Env) : SameE s s := ⟨rfl, rfl, rfl, fun _ => rfl⟩

theorem FR.same {g : GM} {l : LM} {s s' : Env} {H : Hp} {w : World} {a : Act} {n0 : Nat} {S : Tmp → Prop} (h : FR P T g l s H w a n0 S) (e : SameE s s') : FR P T g l s' H w a n0 S where
  mr := by rw [e.ls]; exact h.mr
  ts t v hS hv := h.ts t v (by rw [← e.nt]; exact hS) (by rw [← e.ts]; exact hv)
  nt := by rw [e.nt]; exact h.nt
  ds := by rw [e.ds]; exact h.ds
  lo := h.lo
  gl := h.gl

theorem setT_same {s : Env} {t : Tmp} {v : Value} (h : s.ts.get t = some v) : SameE s (setT s t v) := by
  refine ⟨setD_nt s (some t) v, setD_ls s (some t) v, setD_ds s (some t) v, fun u => ?_⟩
  rw [setT_get]
  split
  · rename_i q; obtain ⟨rfl, _⟩ := q; rw [h]; rfl
  · rfl

/-- The temporary that an operation is guarded by. -/
def guardT (ops : Array Oper) (o : Oper) : List Tmp := match o.guard with | none => [] | some (j, _) => (ops.getD j default).dst.toList

/-- What an operation's guard has come to. -/
def GuardR (ops : Array Oper) (o : Oper) (s : Env) (wn : Bool) : Prop :=
  (o.guard = none ∧ wn = true) ∨ ∃ j want og t, o.guard = some (j, want) ∧ ops[j]? = some og ∧ og.dst = some t ∧
    ((∃ b, s.ts.get t = some (.bool b) ∧ wn = (b == want)) ∨ (∃ vs, s.ts.get t = some (.tuple vs) ∧ wn = false))

theorem guardT_mem {ops : Array Oper} {o : Oper} {j : Nat} {want : Bool} {og : Oper} {t : Tmp} (hg : o.guard = some (j, want)) (hj : ops[j]? = some og) (ht : og.dst = some t) : t ∈ guardT ops o := by
  have hog : ops.getD j default = og := by simp [Array.getD_eq_getD_getElem?, hj]
  unfold guardT; rw [hg]; simp [hog, ht]

theorem GuardR.congr {ops : Array Oper} {o : Oper} {s s' : Env} {wn : Bool} (h : GuardR ops o s wn) (e : ∀ t ∈ guardT ops o, s'.ts.get t = s.ts.get t) : GuardR ops o s' wn := by
  rcases h with h | ⟨j, want, og, t, hg, hj, ht, h⟩
  · exact .inl h
  · refine .inr ⟨j, want, og, t, hg, hj, ht, ?_⟩
    rw [e t (guardT_mem hg hj ht)]; exact h

theorem guardK_ev {ops : Array Oper} {o : Oper} {s : Env} {K : Bool → Env → Option α} {r : α} (h : guardK ops o s K = some r) : ∃ wn s', K wn s' = some r ∧ SameE s s' ∧ GuardR ops o s wn := by
  unfold guardK at h
  split at h
  · rename_i hg
    exact ⟨true, s, h, SameE.refl s, .inl ⟨hg, rfl⟩⟩
  · rename_i j want hg
    split at h
    · cases h
    · rename_i og hj
      rw [lget_eq] at hj
      have hj : ops[j]? = some og := by simpa using hj
      split at h
      · cases h
      · rename_i t ht
        split at h
        · rename_i b hb
          cases b
          · exact ⟨_, _, h, setT_same hb, .inr ⟨j, want, og, t, hg, hj, ht, .inl ⟨false, hb, by cases want <;> rfl⟩⟩⟩
          · exact ⟨_, _, h, setT_same hb, .inr ⟨j, want, og, t, hg, hj, ht, .inl ⟨true, hb, by cases want <;> rfl⟩⟩⟩
        · rename_i vs hb
          exact ⟨false, s, h, SameE.refl s, .inr ⟨j, want, og, t, hg, hj, ht, .inr ⟨vs, hb, rfl⟩⟩⟩
        · cases h

theorem GuardR.run {ops : Array Oper} {o : Oper} {s : Env} {wn : Bool} (h : GuardR ops o s wn) {g : GM} {l : LM} {H : Hp} {w : World} {a : Act} {n0 : Nat} {S : Tmp → Prop} (hF : FR P T g l s H w a n0 S)
    (hS : ∀ t ∈ guardT ops o, ¬ S t) : Region.wanted o (yielded ops a.tmps) = wn := by
  rcases h with ⟨hg, rfl⟩ | ⟨j, want, og, t, hg, hj, ht, h⟩
  · simp [Region.wanted, hg]
  · have hSt : ¬ S t := hS t (guardT_mem hg hj ht)
    have hy : yielded ops a.tmps j = match (a.tmps[t]? : Option Value) with | some (.bool b) => some b | _ => none := by
      simp [yielded, hj, ht]
      rfl
    rcases h with ⟨b, hb, rfl⟩ | ⟨vs, hb, rfl⟩
    · have hv := (hF.ts t _ (fun q => hSt q.1) hb).bool
      have hyb : yielded ops a.tmps j = some b := by
        rw [hy]
        rw [Array.getD_eq_getD_getElem?] at hv
        cases e : a.tmps[t]? with
        | none => rw [e] at hv; cases hv
        | some x => rw [e] at hv; simp only [Option.getD_some] at hv; rw [hv]
      simp only [Region.wanted, hg, hyb]
      cases b <;> cases want <;> rfl
    · obtain ⟨cs', hv, _⟩ := (hF.ts t _ (fun q => hSt q.1) hb).tuple_inv
      have hyn : yielded ops a.tmps j = none := by
        rw [hy]
        rw [Array.getD_eq_getD_getElem?] at hv
        cases e : a.tmps[t]? with
        | none => rfl
        | some x => rw [e] at hv; simp only [Option.getD_some] at hv; rw [hv]
      simp only [Region.wanted, hg, hyn]; rfl

theorem guardK_ok {ops : Array Oper} {o : Oper} {s : Env} {K : Bool → Env → Option α} {r : α} (h : guardK ops o s K = some r) {g : GM} {l : LM} {H : Hp} {w : World} {a : Act} {n0 : Nat} {S : Tmp → Prop} (hF : FR P T g l s H w a n0 S)
    (hS : ∀ t ∈ guardT ops o, ¬ S t) : ∃ wn s', K wn s' = some r ∧ SameE s s' ∧ Region.wanted o (yielded ops a.tmps) = wn := by
  obtain ⟨wn, s', hk, hs, hg⟩ := guardK_ev h
  exact ⟨wn, s', hk, hs, hg.run hF hS⟩

theorem Stp.fr {g : GM} {l : LM} {s : Env} {H : Hp} {w : World} {a : Act} {n0 : Nat} {S : Tmp → Prop} (hF : FR P T g l s H w a n0 S) {g' : GM} {l' : LM} {ls' : LS} {H' : Hp} {w' : World} (h : Stp P T g l s.ls H w g' l' ls' H' w') :
    Ext P T (n0 ≤ ·) g H w g' H' w' := h.ext.own_mono fun _ ⟨t, e⟩ => hF.lo t _ e

theorem eops_ok (F : Facts P T) {call : Fn → List Value → Hp → (Value → Hp → Option α) → Option α} (hC : CallOk P T call) {fx : Fx} {ops : Array Oper} (hops : opsOk T ops.toList = true) {b : Frame} {cs : List Frame} (hk : KindOk b.kind cs) (k : List Item) {n0 : Nat} :
    ∀ (os : List Oper) (i : Nat), ops.toList.drop i = os → ∀ {s : Env} {H : Hp} {K : Env → Hp → Option α} {r : α}, eops P T call fx ops os s H K = some r →
    ∀ {g : GM} {l : LM} {w : World} {a : Act}, FR P T g l s H w a n0 (fun _ => False) → FxR g fx b → n0 ≤ w.heap.size →
    ∃ s' H', K s' H' = some r ∧ ∃ g' l' w' a', Steps P (lone (b.atR a (.inRegion ops (List.range' i os.length) :: k)) cs w) (lone (b.atR a' k) cs w') ∧ FR P T g' l' s' H' w' a' n0 (fun _ => False) ∧ Ext P T (n0 ≤ ·) g H w g' H' w'
  | [], i, _, s, H, K, r, h, g, l, w, a, hF, hb, hn => ⟨s, H, h, g, l, w, a, .one stepR_region_end, hF, Ext.refl hF.mr.gr⟩
  | o :: os, i, hd, s, H, K, r, h, g, l, w, a, hF, hb, hn => by
    simp only [eops] at h
    have hi : ops[i]? = some o := by
      have : (ops.toList.drop i)[0]? = some o := by rw [hd]; rfl
      rw [List.getElem?_drop] at this
      simpa using this
    have hd' : ops.toList.drop (i + 1) = os := by
      have : (ops.toList.drop i).drop 1 = os := by rw [hd]; rfl
      rwa [List.drop_drop] at this
    obtain ⟨wn, s1, h, hse, hw⟩ := guardK_ok h hF (fun _ _ q => q)
    have hF1 := hF.same hse
    have hrange : List.range' i (o :: os).length = i :: List.range' (i + 1) os.length := by simp [List.range'_succ]
    rw [hrange]
    cases wn with
    | false =>
      dsimp only at h
      have hF2 := hF1.put (d := o.dst) (v := undefV) (v' := undef) (S' := fun _ => False) hF1.mr (Stp.refl hF1.mr.gr) (.g (.tuple .nil)) hF1.ds hn (fun _ q _ => q)
      have hself : (⟨s1.nt, s1.ts, s1.ls, s1.ds⟩ : Env) = s1 := by cases s1; rfl
      rw [hself] at hF2
      obtain ⟨s', H', hk', g', l', w', a', hst, hF', hE⟩ := eops_ok F hC hops hk k os (i + 1) hd' h hF2 hb hn
      exact ⟨s', H', hk', g', l', w', a', .head (step_skipOp hi hw) hst, hF', hE⟩
    | true =>
      dsimp only at h
      have ho : OpdR g l s1 a o := hF1.opd (List.all_eq_true.1 hops o (by rw [← hd'] at hd; exact List.mem_of_mem_drop (by rw [hd]; exact List.mem_cons_self ..))) (fun _ _ q => q)
      obtain ⟨v, ls1, ds1, H1, hk1, ⟨v', w1, g1, l1, df, hst1, m1, m2, hv, hdf, _⟩, _⟩ := eop_ok F hC h hF1 ho hb hk hi hw (List.range' (i + 1) os.length) k
      have hF2 := hF1.put (d := o.dst) (S' := fun _ => False) m1 m2 hv hdf hn (fun _ q _ => q)
      obtain ⟨s', H', hk', g', l', w', a', hst, hF', hE⟩ := eops_ok F hC hops hk k os (i + 1) hd' hk1 hF2 (hb.mono m2.ext.le) (Nat.le_trans hn m2.ext.size)
      exact ⟨s', H', hk', g', l', w', a', Steps.trans hst1 hst, hF', (m2.fr hF1).trans hF.mr.gr hE⟩

end Go.Ev
end
section
set_option linter.unusedSimpArgs false
set_option linter.unusedVariables false
set_option maxHeartbeats 1000000
namespace Go.Ev
variable {P : Program} {T : Tab} {α : Type}

theorem lenK_pure {argTypes : Array TypeId} {t ty : TypeId} (ht : lget argTypes.toList 0 = some t) (hm : ∀ k e, P.underlying t ≠ some (.map k e)) {x : Value} {H : Hp} {K : Value → Option α} {r : α} (hr : lenK P t x H K = some r) :
    ∃ v, K v = some r ∧ ∀ (g : GM) (l : LM) (x' : Value) (w : World), VR g l x x' → ∃ v', (Builtin.len_ argTypes ty #[x']).run P w = .ok v' w ∧ VR g l v v' := by
  have ht : argTypes[0]? = some t := by rw [lget_eq] at ht; simpa using ht
  unfold lenK at hr
  split at hr
  · rename_i hu
    split at hr
    · refine ⟨_, hr, fun g l x' w hx => ?_⟩
      rw [hx.string]
      exact ⟨_, by simp [Builtin.len_, ht, run_underlying hu, goInt], .g (.int _ _)⟩
    · cases hr
  · rename_i n e hu
    exact ⟨_, hr, fun g l x' w hx => ⟨_, by simp [Builtin.len_, ht, run_underlying hu, goInt], .g (.int _ _)⟩⟩
  · rename_i e hu
    split at hr
    · rename_i a n c
      refine ⟨_, hr, fun g l x' w hx => ?_⟩
      cases a with
      | none => rw [hx.slcN_inv]; exact ⟨_, by simp [Builtin.len_, ht, run_underlying hu, goInt], .g (.int _ _)⟩
      | some a => obtain ⟨a', c', rfl, _⟩ := hx.slc_inv; exact ⟨_, by simp [Builtin.len_, ht, run_underlying hu, goInt], .g (.int _ _)⟩
    · cases hr
  · rename_i k e hu; exact absurd hu (hm k e)
  · cases hr

theorem eop_small (F : Facts P T) {call : Fn → List Value → Hp → (Value → Hp → Option α) → Option α} {fx : Fx} {o : Oper} {s : Env} {H : Hp} {K : Env → Hp → Option α} {r : α} (h : eop P T call fx o s H K = some r) (he : isEff P o.op = false) :
    ∃ v s1 H1, K (setD s1 o.dst v) H1 = some r ∧ Late P T o s H v s1 H1 := by
  obtain ⟨dst, op, type, pos, after, guard⟩ := o
  have hsop : isEff P op = false → sop P T fx.fn ⟨dst, op, type, pos, after, guard⟩ s H (fun v s H => K (setD s dst v) H) = some r → ∃ v s1 H1, K (setD s1 dst v) H1 = some r ∧ Late P T ⟨dst, op, type, pos, after, guard⟩ s H v s1 H1 :=
    fun he h => sop_small F he h
  cases op
  case call c =>
    obtain ⟨callee, args, argTypes⟩ := c
    cases callee with
    | value f => cases he
    | invoke x m => cases he
    | builtin bi =>
      replace h : (match roOk fx.ro bi with
        | true => builtinK P T bi argTypes type (args.toList.map (ev s)) s H (fun v s H => K (setD s dst v) H)
        | false => none) = some r := h
      split at h
      · have fin : ∀ {v : Value} {S : Array Value → Sem Value}, K (setD s dst v) H = some r → (∀ xs, builtin bi argTypes type (args.map fun | .const _ => true | _ => false) xs = (do pure (.value (← S xs)))) →
            (∀ (g : GM) (l : LM) (a : Act) (w : World), VRL g l (args.toList.map (ev s)) (args.toList.map a.eval) → ∃ v', (S ⟨args.toList.map a.eval⟩).run P w = .ok v' w ∧ VR g l v v') →
            ∃ v s1 H1, K (setD s1 dst v) H1 = some r ∧ Late P T ⟨dst, .call ⟨.builtin bi, args, argTypes⟩, type, pos, after, guard⟩ s H v s1 H1 := by
          intro v S hk hb hS
          refine ⟨v, s, H, hk, .pure v fun g l a w ho => ?_⟩
          obtain ⟨v', hr, hv⟩ := hS g l a w (VRL.of_ops args.toList fun x hx => ho x (by simp [Op.operands, Call.operands, Array.mem_toList_iff.1 hx]))
          refine ⟨v', ?_, hv⟩
          show (builtin bi argTypes type (args.map fun | .const _ => true | _ => false) (args.map a.eval)).run P w = _
          have e1 : args.map a.eval = ⟨args.toList.map a.eval⟩ := by apply Array.ext'; simp
          rw [e1, hb]
          exact run_v hr
        generalize hL : args.toList.map (ev s) = L at h fin
        cases bi <;> first | (cases he; done) | skip
        case len =>
          unfold builtinK at h
          dsimp only at h
          split at h
          · rename_i x t ht
            have hm : ∀ k e, P.underlying t ≠ some (.map k e) := by
              intro k e hu
              unfold isEff at he
              dsimp only at he
              rw [ht] at he
              dsimp only at he
              rw [hu] at he
              cases he
            obtain ⟨v, hk, hv⟩ := lenK_pure (P := P) (ty := type) ht hm h
            refine fin hk (S := fun xs => Builtin.len_ argTypes type xs) (fun _ => rfl) fun g l a w hx => ?_
            generalize args.toList.map a.eval = L' at hx
            cases hx with | cons hx ha =>
            cases ha
            exact hv g l _ w hx
          · cases h
        case min =>
          unfold builtinK at h
          dsimp only at h
          split at h
          · split at h
            · split at h
              · rename_i v hv
                refine fin h (S := fun xs => Builtin.min_ argTypes type xs) (fun _ => rfl) fun g l a w hx => ?_
                generalize args.toList.map a.eval = L' at hx
                cases hx with | cons hx ha =>
                obtain ⟨v', hr, hg⟩ := minmax_run (P := P) hv w hx ha.length ha.get
                exact ⟨v', hr, hg⟩
              · cases h
            · cases h
          · cases h
        case max =>
          unfold builtinK at h
          dsimp only at h
          split at h
          · split at h
            · split at h
              · rename_i v hv
                refine fin h (S := fun xs => Builtin.max_ argTypes type xs) (fun _ => rfl) fun g l a w hx => ?_
                generalize args.toList.map a.eval = L' at hx
                cases hx with | cons hx ha =>
                obtain ⟨v', hr, hg⟩ := minmax_run (P := P) hv w hx ha.length ha.get
                exact ⟨v', hr, hg⟩
              · cases h
            · cases h
          · cases h
      · cases h
  case defer c => cases he
  all_goals exact hsop he h

end Go.Ev
end
section
set_option linter.unusedSimpArgs false
set_option linter.unusedVariables false
set_option maxHeartbeats 1000000
namespace Go.Ev
variable {P : Program} {T : Tab} {α : Type}

inductive Knd where
  | skip
  | pure
  | load (a : Addr) (cs : List Value)
  | ga (b : Nat) (obj : AObj)
  | la (t : Tmp) (cs : List Value)
/-- A small operation that the evaluator has carried out, the world not yet. -/
structure Pe where
  i : Nat
  o : Oper
  s0 : Env
  v : Value
  k : Knd
def Knd.want : Knd → Bool
  | .skip => false
  | _ => true

def KndOk (P : Program) (T : Tab) (o : Oper) (s0 : Env) (v : Value) (s : Env) (H : Hp) (g : GM) (l : LM) (nb : Nat) (lds : List Ld) (i : Nat) : Knd → Prop
  | .skip => v = undefV
  | .pure => ∀ g l a w, OpdR g l s0 a o → ∃ v', (execOp a.eval o).run P w = .ok (.value v') w ∧ VR g l v v'
  | .load ad cs => ∃ t x, o.op = .load t x ∧ LdR P s H t (ev s0 x) ad cs v ∧ (⟨i, ad, cs⟩ : Ld) ∈ lds
  | .ga b obj => H.get b = some obj ∧ g b = none ∧ nb ≤ b ∧ ∃ S : GM → LM → World → Sem Value → Prop, (∀ g l w x, S g l w x → GAlloc P T x b obj v g w) ∧
      ∀ g l a w, OpdR g l s0 a o → ∃ x, S g l w x ∧ execOp a.eval o = (do pure (.value (← x)))
  | .la t cs => o.dst = some t ∧ s.ls.get t = some (some cs) ∧ l t = none ∧ ∃ S : GM → LM → World → Sem Value → Prop, (∀ g l w x, S g l w x → LAlloc P x t cs v g w) ∧
      ∀ g l a w, OpdR g l s0 a o → ∃ x, S g l w x ∧ execOp a.eval o = (do pure (.value (← x)))

structure PeOk (P : Program) (T : Tab) (ops : Array Oper) (s : Env) (H : Hp) (g : GM) (l : LM) (nb : Nat) (lds : List Ld) (p : Pe) : Prop where
  o : ops[p.i]? = some p.o
  sm : isEff P p.o.op = false
  gd : GuardR ops p.o p.s0 p.k.want
  ag : ∀ t ∈ looks ops p.i, s.ts.get t = p.s0.ts.get t
  dv : ∀ t u, p.o.dst = some t → t < s.nt → s.ts.get t = some u → u = p.v
  kd : KndOk P T p.o p.s0 p.v s H g l nb lds p.i p.k
  self : ∀ t, p.o.dst = some t → t ∉ looks ops p.i

theorem looks_eq {ops : Array Oper} {i : Nat} {o : Oper} (h : ops[i]? = some o) : looks ops i = tmpsOf o.op.operands.toList ++ guardT ops o := by
  have e : ops.getD i default = o := by simp [Array.getD_eq_getD_getElem?, h]
  unfold looks guardT
  rw [e]
  rfl

theorem FR.late {g : GM} {l : LM} {s : Env} {H : Hp} {w : World} {a : Act} {n0 : Nat} {S : Tmp → Prop} (h : FR P T g l s H w a n0 S) {g' : GM} {l' : LM} {w' : World} {d : Option Tmp} {v' : Value}
    (hm : MR P T g' l' s.ls H w') (hle : g.le g') (hll : ∀ t c, l t = some c → l' t = some c) (hlo : ∀ t c, l' t = some c → l t = some c ∨ n0 ≤ c)
    (hv : ∀ t u, d = some t → t < s.nt → s.ts.get t = some u → VR g' l' u v') : FR P T g' l' s H w' (a.put d v') n0 (fun t => S t ∧ d ≠ some t) where
  mr := hm
  ts := by
    intro t u hnS hu
    rw [put_getD]
    by_cases hdt : d = some t ∧ t < a.tmps.size
    · rw [if_pos hdt]
      exact hv t u hdt.1 (by rw [← h.nt]; exact hdt.2) hu
    · rw [if_neg hdt]
      refine ((h.ts t u (fun q => hnS ⟨⟨q.1, fun e => hdt ⟨e, by rw [h.nt]; exact q.2⟩⟩, q.2⟩) hu).mono hle).monoL hll
  nt := by rw [put_size]; exact h.nt
  ds := by rw [put_defers]; exact h.ds.mono hle
  lo := fun t c e => (hlo t c e).elim (h.lo t c) id
  gl := h.gl.mono hle

theorem ev_congr {s s0 : Env} {x : Operand} (h : ∀ t, x = .tmp t → s.ts.get t = s0.ts.get t) : ev s x = ev s0 x := by
  cases x with
  | tmp t => show (match s.ts.get t with | some v => v | none => topV) = (match s0.ts.get t with | some v => v | none => topV); rw [h t rfl]
  | _ => rfl

theorem mem_tmpsOf' {t : Tmp} {xs : Array Operand} (h : Operand.tmp t ∈ xs) : t ∈ tmpsOf xs.toList := mem_tmpsOf (Array.mem_toList_iff.2 h)

/-- What is open is carried out. -/
theorem exec_pe {ops : Array Oper} {s : Env} {H : Hp} {g : GM} {l : LM} {nb : Nat} {lds : List Ld} {p : Pe} (hp : PeOk P T ops s H g l nb lds p) {w : World} {a : Act} {n0 : Nat} {S : Tmp → Prop} (hF : FR P T g l s H w a n0 S)
    (hopd : p.o.op.operands.toList.all (opdOk T) = true) (hS : ∀ t ∈ looks ops p.i, ¬ S t) {own : Nat → Prop} {g0 : GM} {H0 : Hp} {w0 : World} (hE : Ext P T own g0 H0 w0 g H w) (hnb : nb = H0.next) (hn : n0 ≤ w.heap.size)
    (b : Frame) (rest : List Nat) (k : List Item) (cs : List Frame) :
    ∃ w' g' l' v', step P (lone (b.atR a (.inRegion ops (p.i :: rest) :: k)) cs w) = .next (lone (b.atR (a.put p.o.dst v') (.inRegion ops rest :: k)) cs w') ∧ FR P T g' l' s H w' (a.put p.o.dst v') n0 (fun t => S t ∧ p.o.dst ≠ some t) ∧
      Ext P T own g0 H0 w0 g' H w' ∧ (g' = g ∨ ∃ c obj i, p.k = .ga c obj ∧ g' = g.bind c i) ∧ (l' = l ∨ ∃ t cs c, p.k = .la t cs ∧ l' = LM.bind l t c) ∧ g.le g' ∧ w.heap.size ≤ w'.heap.size := by
  have hlk := looks_eq hp.o
  have hwant : Region.wanted p.o (yielded ops a.tmps) = p.k.want := (hp.gd.congr (s' := s) fun t ht => hp.ag t (by rw [hlk]; exact List.mem_append_right _ ht)).run hF fun t ht => hS t (by rw [hlk]; exact List.mem_append_right _ ht)
  have hoS : OpdR g l s a p.o := hF.opd hopd fun t ht => hS t (by rw [hlk]; exact List.mem_append_left _ ht)
  have ho : OpdR g l p.s0 a p.o := fun x hx => by
    have := hoS x hx
    rwa [ev_congr (s := s) (s0 := p.s0) fun t e => hp.ag t (by rw [hlk]; exact List.mem_append_left _ (mem_tmpsOf' (by rw [← e]; exact hx)))] at this
  have hnd : ∀ c, p.o.op ≠ .defer c := fun c e => by have := hp.sm; rw [e] at this; cases this
  obtain ⟨i, o, s0, v, kd⟩ := p
  obtain ⟨hpo, hsm, hgd, hag, hdv, hkd, hself⟩ := hp
  simp only at *
  have base : ∀ {v' : Value}, step P (lone (b.atR a (.inRegion ops (i :: rest) :: k)) cs w) = .next (lone (b.atR (a.put o.dst v') (.inRegion ops rest :: k)) cs w) → VR g l v v' →
      ∃ w' g' l' v', step P (lone (b.atR a (.inRegion ops (i :: rest) :: k)) cs w) = .next (lone (b.atR (a.put o.dst v') (.inRegion ops rest :: k)) cs w') ∧ FR P T g' l' s H w' (a.put o.dst v') n0 (fun t => S t ∧ o.dst ≠ some t) ∧
        Ext P T own g0 H0 w0 g' H w' ∧ (g' = g ∨ ∃ c obj i, kd = .ga c obj ∧ g' = g.bind c i) ∧ (l' = l ∨ ∃ t cs c, kd = .la t cs ∧ l' = LM.bind l t c) ∧ g.le g' ∧ w.heap.size ≤ w'.heap.size := by
    intro v' hst hv
    exact ⟨w, g, l, v', hst, hF.late hF.mr g.le_refl (fun _ _ h => h) (fun _ _ h => .inl h) (fun t u e1 e2 e3 => by rw [hdv t u e1 e2 e3]; exact hv), hE, .inl rfl, .inl rfl, g.le_refl, Nat.le_refl _⟩
  cases kd with
  | skip =>
    have hkd : v = undefV := hkd
    subst hkd
    exact base (step_skipOp hpo hwant) (.g (.tuple .nil))
  | pure =>
    obtain ⟨v', hr, hv⟩ := hkd g l a w ho
    exact base (step_nx hpo hwant hnd hr (.inl rfl) (fun e => by cases e)) hv
  | load ad cells =>
    obtain ⟨t, x, hop, hl, _⟩ := hkd
    obtain ⟨dst, op, type, pos, after, guard⟩ := o
    simp only at hop
    subst hop
    obtain ⟨v', hr, hv⟩ := hl.run hF.mr (ho x (by simp [Op.operands]))
    exact base (step_nx hpo hwant hnd (run_v hr) (.inl rfl) (fun e => by cases e)) hv
  | ga c obj =>
    obtain ⟨hc, hgc, hnc, S0, hG, hS0⟩ := hkd
    obtain ⟨x, hx, he⟩ := hS0 g l a w ho
    obtain ⟨v', w', ob, csz, hr, hw, hob, hv⟩ := hG g l w x hx
    have hm := hF.mr.bindNew hgc (Hp.get_lt hc) hc hw hob
    have hle := GM.le_bind hgc ⟨w.heap.size, 0, csz⟩
    have hr' : (execOp a.eval o).run P w = .ok (.value v') w' := by rw [he]; exact run_v hr
    refine ⟨w', g.bind c ⟨w.heap.size, 0, csz⟩, l, v', step_nx hpo hwant hnd hr' (.inl rfl) (fun e => by cases e), hF.late hm hle (fun _ _ h => h) (fun _ _ h => .inl h) (fun t u e1 e2 e3 => ?_), ?_, .inr ⟨c, obj, _, rfl, rfl⟩, .inl rfl, hle, by rw [hw.size]; omega⟩
    · rw [hdv t u e1 e2 e3]; exact .g (hv _ hle (GM.bind_same _ _ _))
    · refine ⟨GM.le_trans hE.le hle, hm.gr, by rw [hw.size]; have := hE.size; omega, fun q j e => ?_, hE.keep, hE.dead, hE.next, fun q hq h1 h2 => by rw [hw.old (Nat.lt_of_lt_of_le hq hE.size)]; exact hE.frame q hq h1 h2, hw.os.trans hE.os, hw.tape.trans hE.tape, hw.output.trans hE.output, fun q j o' e eo er => ⟨(hE.ro q j o' e eo er).1, by rw [hw.old (hE.gr.lt _ _ (hE.le _ _ e))]; exact (hE.ro q j o' e eo er).2⟩⟩
      by_cases hqc : q = c
      · subst hqc; rw [GM.bind_same] at e; cases e
        exact .inr ⟨by rw [← hnb]; exact hnc, .inl hE.size⟩
      · rw [GM.bind_ne g hqc] at e; exact hE.new q j e
  | la t cells =>
    obtain ⟨ht, hls, hlt, S0, hG, hS0⟩ := hkd
    obtain ⟨x, hx, he⟩ := hS0 g l a w ho
    obtain ⟨v', w', ob, hr, hw, hloc, hv⟩ := hG g l w x hx
    have hm := hF.mr.bindL hlt hls hw hloc
    have hr' : (execOp a.eval o).run P w = .ok (.value v') w' := by rw [he]; exact run_v hr
    refine ⟨w', g, LM.bind l t w.heap.size, v', step_nx hpo hwant hnd hr' (.inl rfl) (fun e => by cases e), hF.late hm g.le_refl (fun q c e => ?_) (fun q c e => ?_) (fun q u e1 e2 e3 => ?_), ?_, .inl rfl, .inr ⟨t, cells, _, rfl, rfl⟩, g.le_refl, by rw [hw.size]; omega⟩
    · rw [LM.bind_ne l (fun h => by rw [h, hlt] at e; cases e)]; exact e
    · by_cases hq : q = t
      · subst hq; rw [LM.bind_same] at e; cases e; exact .inr hn
      · rw [LM.bind_ne l hq] at e; exact .inl e
    · rw [hdv q u e1 e2 e3]; exact hv _ _ (LM.bind_same _ _ _)
    · exact ⟨hE.le, hm.gr, by rw [hw.size]; have := hE.size; omega, hE.new, hE.keep, hE.dead, hE.next, fun q hq h1 h2 => by rw [hw.old (Nat.lt_of_lt_of_le hq hE.size)]; exact hE.frame q hq h1 h2, hw.os.trans hE.os, hw.tape.trans hE.tape, hw.output.trans hE.output, fun q j o' e eo er => ⟨(hE.ro q j o' e eo er).1, by rw [hw.old (hE.gr.lt _ _ (hE.le _ _ e))]; exact (hE.ro q j o' e eo er).2⟩⟩

end Go.Ev
end
section
set_option linter.unusedSimpArgs false
set_option linter.unusedVariables false
set_option maxHeartbeats 1000000
namespace Go.Ev
variable {P : Program} {T : Tab} {α : Type}

theorem memN_iff {l : List Nat} {n : Nat} : memN l n = true ↔ n ∈ l := by
  induction l with
  | nil => simp [memN]
  | cons k l ih =>
    have e : memN (k :: l) n = (match Nat.beq k n with | true => true | false => memN l n) := by
      show Bool.rec (motive := fun _ => Bool) (memN l n) true (Nat.beq k n) = _
      cases Nat.beq k n <;> rfl
    rw [e]
    cases h : Nat.beq k n with
    | true => simp at h; simp [h]
    | false => have : k ≠ n := fun q => by rw [q] at h; simp at h
               simp [ih, Ne.symm this]

theorem bit_or_pow (m i j : Nat) : bit (m ||| 2 ^ i) j = (bit m j || decide (i = j)) := by
  simp [bit, Nat.testBit_or, Nat.testBit_two_pow]
theorem bit_and {b d : Nat} (h : (b &&& d) = b) {q : Nat} (hq : bit b q = true) : bit d q = true := by
  unfold bit at *
  rw [← h, Nat.testBit_and, Bool.and_eq_true] at hq
  exact hq.2

theorem befOk_fold (b : Array Nat) (q : Nat) : ∀ (es : List Edge), bit (es.foldr (fun e m => match Region.binds .any e with | true => m ||| 2 ^ e.on ||| b.getD e.on 0 | false => m) 0) q = true ↔
    ∃ e ∈ es, Region.binds .any e = true ∧ (e.on = q ∨ bit (b.getD e.on 0) q = true)
  | [] => by simp [bit]
  | e :: es => by
    simp only [List.foldr_cons, List.mem_cons, exists_eq_or_imp]
    rw [← befOk_fold b q es]
    generalize es.foldr _ 0 = m
    cases Region.binds .any e with
    | false => simp
    | true =>
      have h1 : bit (m ||| 2 ^ e.on ||| b.getD e.on 0) q = (bit (m ||| 2 ^ e.on) q || bit (b.getD e.on 0) q) := by simp [bit, Nat.testBit_or]
      simp only [h1, bit_or_pow, Bool.or_eq_true, decide_eq_true_eq, true_and]
      constructor
      · rintro ((h | h) | h)
        · exact .inr h
        · exact .inl (.inl h)
        · exact .inl (.inr h)
      · rintro ((h | h) | h)
        · exact .inl (.inr h)
        · exact .inr h
        · exact .inl (.inl h)
theorem befOk_iff {ops : Array Oper} {b : Array Nat} (h : befOk ops b = true) {i : Nat} {o : Oper} (hi : ops[i]? = some o) (q : Nat) : bit (b.getD i 0) q = true ↔ ∃ e ∈ o.after, Region.binds .any e = true ∧ (e.on = q ∨ bit (b.getD e.on 0) q = true) := by
  have hlt : i < ops.size := by
    rcases Nat.lt_or_ge i ops.size with h | h
    · exact h
    · rw [Array.getElem?_eq_none h] at hi; cases hi
  have := List.all_eq_true.1 h i (List.mem_range.2 hlt)
  simp only at this
  have e : ops.getD i default = o := by simp [Array.getD_eq_getD_getElem?, hi]
  rw [e] at this
  have this := Nat.eq_of_beq_eq_true this
  rw [this]
  exact (befOk_fold b q o.after.toList).trans (by simp [Array.mem_toList_iff])

theorem ordOk_not {ops : Array Oper} {b : Array Nat} : ∀ (l : List Nat) (m : Nat), ordOk P ops b m l = true → ∀ j ∈ l, bit m j = false
  | [], _, _, j, hj => by simp at hj
  | i :: l, m, h, j, hj => by
    simp only [ordOk, Bool.and_eq_true] at h
    rcases List.mem_cons.1 hj with rfl | hj
    · simpa using h.1.1.1.2
    · have := ordOk_not l _ h.2 j hj
      rw [bit_or_pow, Bool.or_eq_false_iff] at this
      exact this.1

/-- A state that the order of what is open fits. -/
def PendOrd (listed : Array Bool) (B : Array Nat) : List Pe → Prop
  | [] => True
  | p :: l => (∀ q, bit (B.getD p.i 0) q = true → listed.getD q false = true ∨ ∃ r ∈ l, r.i = q) ∧ PendOrd listed B l

/-- Of two that are open, the second one the elder. -/
structure PW (ops : Array Oper) (B : Array Nat) (q p : Pe) : Prop where
  ne : q.i ≠ p.i
  cl : clear ops q.i p.i = true
  dep : bit (B.getD q.i 0) p.i = true ∨ ∀ t, p.o.dst = some t → t ∉ looks ops q.i
  ga : ∀ b obj b' obj', q.k = .ga b obj → p.k = .ga b' obj' → b ≠ b'

structure DInv (P : Program) (T : Tab) (call : Fn → List Value → Hp → (Value → Hp → Option α) → Option α) (fx : Fx) (ops : Array Oper) (B : Array Nat) (K : Env → Hp → Option α) (r : α) (b : Frame) (n0 : Nat) (g0 : GM) (H0 : Hp) (w0 : World)
    (listed : Array Bool) (suf : List (Nat × List Nat)) (pend : List Pe) (s : Env) (H : Hp) (g : GM) (l : LM) (w : World) (a : Act) : Prop where
  ev : ∃ lds, eopsD P T call fx ops suf lds s H K = some r ∧ ∀ p ∈ pend, PeOk P T ops s H g l H0.next lds p
  fr : FR P T g l s H w a n0 (fun t => ∃ p ∈ pend, p.o.dst = some t)
  fx : FxR g fx b
  ext : Ext P T (n0 ≤ ·) g0 H0 w0 g H w
  n0 : n0 ≤ w.heap.size
  pw : pend.Pairwise (PW ops B)
  po : PendOrd listed B pend
  st : ∃ mask hadU hadO hadD, ordOk P ops B mask (suf.map (·.1)) = true ∧ unOk P ops B hadU suf = true ∧ owOk P ops B hadO (suf.map (·.1)) = true ∧ depOk ops B hadD (suf.map (·.1)) = true ∧
    (∀ q, bit mask q = true → listed.getD q false = true ∨ ∃ p ∈ pend, p.i = q) ∧ ∀ p ∈ pend, bit mask p.i = true ∧ p.i ∈ hadU ∧ p.i ∈ hadO ∧ p.i ∈ hadD
  cl : ∀ i, listed.getD i false = true → ∀ q, bit (B.getD i 0) q = true → listed.getD q false = true
  cov : ∀ i, i < ops.size → listed.getD i false = true ∨ (∃ p ∈ pend, p.i = i) ∨ i ∈ suf.map (·.1)
  unl : (∀ p ∈ pend, listed.getD p.i false = false) ∧ ∀ i ∈ suf.map (·.1), listed.getD i false = false
  sz : listed.size = ops.size
  gr0 : GR P T g0 H0 w0

theorem KndOk.gl {o : Oper} {s0 : Env} {v : Value} {s : Env} {H : Hp} {g g' : GM} {l l' : LM} {nb : Nat} {lds : List Ld} {i : Nat} {k : Knd} (h : KndOk P T o s0 v s H g l nb lds i k)
    (hg : ∀ b obj, k = .ga b obj → g' b = none) (hl : ∀ t cs, k = .la t cs → l' t = none) : KndOk P T o s0 v s H g' l' nb lds i k := by
  cases k with
  | skip => exact h
  | pure => exact h
  | load a cs => exact h
  | ga b obj => exact ⟨h.1, hg b obj rfl, h.2.2⟩
  | la t cs => exact ⟨h.1, h.2.1, hl t cs rfl, h.2.2.2⟩

theorem KndOk.sH {o : Oper} {s0 : Env} {v : Value} {s s' : Env} {H H' : Hp} {g : GM} {l : LM} {nb : Nat} {lds lds' : List Ld} {i : Nat} {k : Knd} (h : KndOk P T o s0 v s H g l nb lds i k)
    (hld : ∀ a cs, k = .load a cs → rd s H a cs.length = some cs → (⟨i, a, cs⟩ : Ld) ∈ lds → rd s' H' a cs.length = some cs ∧ (⟨i, a, cs⟩ : Ld) ∈ lds') (hga : ∀ b obj, k = .ga b obj → H.get b = some obj → g b = none → H'.get b = some obj)
    (hla : ∀ t cs, k = .la t cs → s.ls.get t = some (some cs) → s'.ls.get t = some (some cs)) : KndOk P T o s0 v s' H' g l nb lds' i k := by
  cases k with
  | skip => exact h
  | pure => exact h
  | load a cs =>
    obtain ⟨t, x, hop, hl, hm⟩ := h
    obtain ⟨h1, h2⟩ := hld a cs rfl hl.rd hm
    exact ⟨t, x, hop, ⟨hl.x, hl.ty, h1⟩, h2⟩
  | ga b obj => exact ⟨hga b obj rfl h.1 h.2.1, h.2⟩
  | la t cs => exact ⟨h.1, hla t cs rfl h.2.1, h.2.2⟩

theorem rd_keep {s s' : Env} {H H' : Hp} (hH : ∀ b o, H.get b = some o → H'.get b = some o) (hL : ∀ t c, s.ls.get t = some (some c) → s'.ls.get t = some (some c)) {a : Addr} {n : Nat} {cs : List Value} (h : rd s H a n = some cs) : rd s' H' a n = some cs := by
  unfold rd at h ⊢
  cases hs : a.spot with
  | none =>
    rw [hs] at h
    simp only at h ⊢
    split at h
    · rename_i c e fz sg hb
      rw [hH _ _ hb]; exact h
    · cases h
  | some x =>
    rw [hs] at h
    simp only at h ⊢
    split at h
    · rename_i c hb
      rw [hL _ _ hb]; exact h
    · cases h

theorem FR.weak {g : GM} {l : LM} {s : Env} {H : Hp} {w : World} {a : Act} {n0 : Nat} {S S' : Tmp → Prop} (h : FR P T g l s H w a n0 S) (hS : ∀ t, S t → S' t) : FR P T g l s H w a n0 S' :=
  { h with ts := fun t v n e => h.ts t v (fun q => n ⟨hS t q.1, q.2⟩) e }

/-- The evaluator is ahead. -/
theorem FR.adv {g : GM} {l : LM} {s s' : Env} {H H' : Hp} {w : World} {a : Act} {n0 : Nat} {S S' : Tmp → Prop} {d : Option Tmp} (h : FR P T g l s H w a n0 S) (hm : MR P T g l s'.ls H' w) (hnt : s'.nt = s.nt) (hds : s'.ds = s.ds)
    (hts : ∀ t, d ≠ some t → s'.ts.get t = s.ts.get t) (hlt : ∀ t, ¬ t < s.nt → s'.ts.get t = s.ts.get t) (hS : ∀ t, S t ∨ d = some t → S' t) : FR P T g l s' H' w a n0 S' where
  mr := hm
  ts := by
    intro t v hn hv
    rw [hnt] at hn
    by_cases hd : t < s.nt
    · have hS't : ¬ S' t := fun q => hn ⟨q, hd⟩
      rw [hts t (fun e => hS't (hS t (.inr e)))] at hv
      exact h.ts t v (fun q => hS't (hS t (.inl q.1))) hv
    · rw [hlt t hd] at hv
      exact h.ts t v (fun q => hd q.2) hv
  nt := by rw [hnt]; exact h.nt
  ds := by rw [hds]; exact h.ds
  lo := h.lo
  gl := h.gl

theorem ldOf_mono {s : Env} {o : Oper} {i : Nat} {H : Hp} {r : List Ld} {x : Ld} (h : x ∈ r) : x ∈ ldOf P s o i H r := by
  unfold ldOf
  split
  · split
    · split
      · split
        · exact List.mem_cons_of_mem _ h
        · exact h
      · exact h
    · exact h
  · exact h
theorem ldOf_mem {s : Env} {o : Oper} {i : Nat} {H : Hp} {r : List Ld} {t : TypeId} {x : Operand} {a : Addr} {cs : List Value} {v : Value} (ho : o.op = .load t x) (h : LdR P s H t (ev s x) a cs v) : (⟨i, a, cs⟩ : Ld) ∈ ldOf P s o i H r := by
  obtain ⟨hx, ⟨agg, n, ht, hn, hu⟩, hr⟩ := h
  have e : ldOf P s o i H r = ⟨i, a, cs⟩ :: r := by
    unfold ldOf
    rw [ho]
    simp only
    rw [hx]
    simp only
    rw [ht]
    simp only
    cases agg with
    | true => have hn : cs.length = n := hn
              rw [hn] at hr; simp only [hr]
    | false => have hn : cs.length = 1 := hn
               rw [hn] at hr; simp only [hr]
  rw [e]
  exact List.mem_cons_self ..

end Go.Ev
end
section
set_option linter.unusedSimpArgs false
set_option linter.unusedVariables false
set_option maxHeartbeats 1000000
namespace Go.Ev
variable {P : Program} {T : Tab} {α : Type}

theorem pairwise_cases {β : Type} {R : β → β → Prop} : ∀ {l : List β}, l.Pairwise R → ∀ {a b : β}, a ∈ l → b ∈ l → a = b ∨ R a b ∨ R b a
  | [], _, a, _, h, _ => by simp at h
  | x :: l, hp, a, b, ha, hb => by
    rw [List.pairwise_cons] at hp
    rcases List.mem_cons.1 ha with e | ha'
    · rcases List.mem_cons.1 hb with e' | hb'
      · exact .inl (e.trans e'.symm)
      · exact .inr (.inl (by rw [e]; exact hp.1 b hb'))
    · rcases List.mem_cons.1 hb with e' | hb'
      · exact .inr (.inr (by rw [e']; exact hp.1 a ha'))
      · exact pairwise_cases hp.2 ha' hb'
theorem beq_false {a b : Nat} : Nat.beq a b = false ↔ a ≠ b := by
  constructor
  · intro h e; rw [e] at h; simp at h
  · intro h
    cases hb : Nat.beq a b with
    | false => rfl
    | true => exact absurd (Nat.eq_of_beq_eq_true hb) h

theorem getD_of {ops : Array Oper} {i : Nat} {o : Oper} (h : ops[i]? = some o) : ops.getD i default = o := by simp [Array.getD_eq_getD_getElem?, h]
theorem clear_spec {ops : Array Oper} {i p : Nat} (h : clear ops i p = true) {o o' : Oper} (hi : ops[i]? = some o) (hp : ops[p]? = some o') : ∀ d, o.dst = some d → d ∉ looks ops p ∧ o'.dst ≠ some d := by
  intro d hd
  unfold clear at h
  rw [getD_of hi, getD_of hp, hd] at h
  simp only [Option.toList_some, List.all_cons, List.all_nil, Bool.and_true, Bool.and_eq_true, Bool.not_eq_true'] at h
  refine ⟨fun hm => ?_, fun e => ?_⟩
  · rw [memN_iff.2 hm] at h; cases h.1
  · rw [e] at h
    have : memN (some d).toList d = true := memN_iff.2 (by simp)
    rw [this] at h; cases h.2

theorem getD_set (listed : Array Bool) {i : Nat} (hi : i < listed.size) (j : Nat) : (listed.setIfInBounds i true).getD j false = (decide (i = j) || listed.getD j false) := by
  simp only [Array.getD_eq_getD_getElem?]
  by_cases h : i = j
  · subst h; simp [Array.getElem?_setIfInBounds_self_of_lt hi]
  · simp [Array.getElem?_setIfInBounds_ne h, h]

theorem PendOrd.set {listed listed' : Array Bool} {B : Array Nat} (hl : ∀ q, listed.getD q false = true → listed'.getD q false = true) : ∀ {l : List Pe} (f : Pe → Bool), (∀ p ∈ l, f p = false → listed'.getD p.i false = true) → PendOrd listed B l → PendOrd listed' B (l.filter f)
  | [], _, _, _ => trivial
  | p :: l, f, hf, h => by
    have ih := PendOrd.set hl f (fun q hq => hf q (List.mem_cons_of_mem _ hq)) h.2
    rw [List.filter_cons]
    split
    · refine ⟨fun q hq => ?_, ih⟩
      rcases h.1 q hq with e | ⟨r, hr, e⟩
      · exact .inl (hl q e)
      · cases hfr : f r with
        | true => exact .inr ⟨r, List.mem_filter.2 ⟨hr, hfr⟩, e⟩
        | false => exact .inl (by rw [← e]; exact hf r (List.mem_cons_of_mem _ hr) hfr)
    · exact ih

section
variable {call : Fn → List Value → Hp → (Value → Hp → Option α) → Option α} {fx : Fx} {ops : Array Oper} {B : Array Nat} {K : Env → Hp → Option α} {r : α} {b : Frame} {n0 : Nat} {g0 : GM} {H0 : Hp} {w0 : World}
  {listed : Array Bool} {suf : List (Nat × List Nat)} {pend : List Pe} {s : Env} {H : Hp} {g : GM} {l : LM} {w : World} {a : Act}

theorem opdOk_at (hops : opsOk T ops.toList = true) {i : Nat} {o : Oper} (h : ops[i]? = some o) : o.op.operands.toList.all (opdOk T) = true :=
  List.all_eq_true.1 hops o (Array.mem_toList_iff.2 (Array.mem_of_getElem? h))

theorem lt_of_some {ops : Array Oper} {i : Nat} {o : Oper} (h : ops[i]? = some o) : i < ops.size := by
  rcases Nat.lt_or_ge i ops.size with h' | h'
  · exact h'
  · rw [Array.getElem?_eq_none h'] at h; cases h

theorem DInv.exec (hops : opsOk T ops.toList = true) (h : DInv P T call fx ops B K r b n0 g0 H0 w0 listed suf pend s H g l w a) {p : Pe} (hp : p ∈ pend) (hr : ∀ q, bit (B.getD p.i 0) q = true → listed.getD q false = true)
    (rest : List Nat) (k : List Item) (cs : List Frame) :
    ∃ g' l' w' a', step P (lone (b.atR a (.inRegion ops (p.i :: rest) :: k)) cs w) = .next (lone (b.atR a' (.inRegion ops rest :: k)) cs w') ∧
      DInv P T call fx ops B K r b n0 g0 H0 w0 (listed.setIfInBounds p.i true) suf (pend.filter fun q => !(Nat.beq q.i p.i)) s H g' l' w' a' := by
  obtain ⟨lds, hev, hpe⟩ := h.ev
  have hpo := hpe p hp
  have hS : ∀ t ∈ looks ops p.i, ¬ ∃ q ∈ pend, q.o.dst = some t := by
    rintro t ht ⟨q, hq, hd⟩
    rcases pairwise_cases h.pw hq hp with e | e | e
    · subst e; exact hpo.self t hd ht
    · exact (clear_spec e.cl (hpe q hq).o hpo.o t hd).1 ht
    · rcases e.dep with e | e
      · have := hr _ e; rw [h.unl.1 q hq] at this; cases this
      · exact e t hd ht
  obtain ⟨w', g', l', v', hst, hF, hE, hg', hl', hle, hsz⟩ := exec_pe hpo h.fr (opdOk_at hops hpo.o) hS h.ext rfl h.n0 b rest k cs
  have hlt : p.i < listed.size := by rw [h.sz]; exact lt_of_some hpo.o
  have hset := getD_set listed hlt
  have hmem : ∀ {q : Pe}, q ∈ pend.filter (fun q => !(Nat.beq q.i p.i)) ↔ q ∈ pend ∧ q.i ≠ p.i := by
    intro q
    rw [List.mem_filter, Bool.not_eq_true', beq_false]
  have hne : ∀ {q : Pe}, q ∈ pend → q.i ≠ p.i → (∀ t, p.o.dst = some t → q.o.dst ≠ some t) ∧ (∀ c obj c' obj', q.k = .ga c obj → p.k = .ga c' obj' → c ≠ c') := by
    intro q hq hqi
    rcases pairwise_cases h.pw hq hp with e | e | e
    · exact absurd (by rw [e]) hqi
    · exact ⟨fun t ht hqt => (clear_spec e.cl (hpe q hq).o hpo.o t hqt).2 ht, e.ga⟩
    · exact ⟨fun t ht hqt => (clear_spec e.cl hpo.o (hpe q hq).o t ht).2 hqt, fun c obj c' obj' e1 e2 e3 => e.ga c' obj' c obj e2 e1 e3.symm⟩
  refine ⟨g', l', w', _, hst, ⟨⟨lds, hev, fun q hq => ?_⟩, hF.weak ?_, h.fx.mono hle, hE, Nat.le_trans h.n0 hsz, h.pw.filter _, ?_, ?_, ?_, ?_, ?_, ?_, h.gr0⟩⟩
  · obtain ⟨hq, hqi⟩ := hmem.1 hq
    have hqo := hpe q hq
    obtain ⟨n1, n2⟩ := hne hq hqi
    refine { hqo with kd := hqo.kd.gl (fun c obj e => ?_) (fun t cs' e => ?_) }
    · have hk := hqo.kd; rw [e] at hk
      have hgc := hk.2.1
      rcases hg' with e' | ⟨c', obj', i, e1, e2⟩
      · rw [e']; exact hgc
      · rw [e2, GM.bind_ne g (n2 c obj c' obj' e e1)]; exact hgc
    · have hk := hqo.kd; rw [e] at hk
      rcases hl' with e' | ⟨t', cs'', c, e1, e2⟩
      · rw [e']; exact hk.2.2.1
      · have hk' := hpo.kd; rw [e1] at hk'
        rw [e2, LM.bind_ne l (fun e3 => n1 t' hk'.1 (by rw [← e3]; exact hk.1))]
        exact hk.2.2.1
  · rintro t ⟨⟨q, hq, hd⟩, hne'⟩
    refine ⟨q, hmem.2 ⟨hq, fun e => hne' ?_⟩, hd⟩
    have := (hpe q hq).o
    rw [e, hpo.o] at this
    rw [Option.some.inj this]; exact hd
  · exact h.po.set (fun q hq => by rw [hset, hq]; simp) _ (fun q hq hf => by
      have : q.i = p.i := by simpa using hf
      rw [hset]; simp [this])
  · obtain ⟨mask, hU, hO, hD, o1, o2, o3, o4, o5, o6⟩ := h.st
    refine ⟨mask, hU, hO, hD, o1, o2, o3, o4, fun q hq => ?_, fun q hq => o6 q (hmem.1 hq).1⟩
    rcases o5 q hq with e | ⟨q', hq', e⟩
    · exact .inl (by rw [hset, e]; simp)
    · by_cases hi : q'.i = p.i
      · exact .inl (by rw [hset]; simp [← e, hi])
      · exact .inr ⟨q', hmem.2 ⟨hq', hi⟩, e⟩
  · intro i hi q hq
    rw [hset] at hi ⊢
    rw [Bool.or_eq_true] at hi ⊢
    rcases hi with hi | hi
    · have : p.i = i := by simpa using hi
      subst this
      exact .inr (hr q hq)
    · exact .inr (h.cl i hi q hq)
  · intro i hi
    rcases h.cov i hi with e | ⟨q, hq, e⟩ | e
    · exact .inl (by rw [hset, e]; simp)
    · by_cases hqi : q.i = p.i
      · exact .inl (by rw [hset]; simp [← e, hqi])
      · exact .inr (.inl ⟨q, hmem.2 ⟨hq, hqi⟩, e⟩)
    · exact .inr (.inr e)
  · refine ⟨fun q hq => ?_, fun i hi => ?_⟩
    · obtain ⟨hq, hqi⟩ := hmem.1 hq
      rw [hset, h.unl.1 q hq]; simp [Ne.symm hqi]
    · obtain ⟨mask, hU, hO, hD, o1, _, _, _, _, o6⟩ := h.st
      have h1 := ordOk_not _ _ o1 i hi
      have h2 := (o6 p hp).1
      rw [hset, h.unl.2 i hi]
      have : p.i ≠ i := fun e => by rw [← e, h2] at h1; cases h1
      simp [this]
  · simp [h.sz]
end

end Go.Ev
end
section
set_option linter.unusedSimpArgs false
set_option linter.unusedVariables false
set_option maxHeartbeats 1000000
namespace Go.Ev
variable {P : Program} {T : Tab} {α : Type}

theorem setD_get_big (s : Env) (d : Option Tmp) (u : Tmp) (v : Value) (h : ¬ u < s.nt) : (setD s d v).ts.get u = s.ts.get u := by
  cases d with
  | none => rfl
  | some t =>
    show (setT s t v).ts.get u = _
    rw [setT_get]
    split
    · rename_i q; obtain ⟨rfl, q⟩ := q; exact absurd q h
    · rfl
theorem setD_get_self (s : Env) (t : Tmp) (v u : Value) (ht : t < s.nt) (h : (setD s (some t) v).ts.get t = some u) : u = v := by
  have h : (setT s t v).ts.get t = some u := h
  rw [setT_get, if_pos ⟨rfl, ht⟩] at h
  cases e : s.ts.get t with
  | none => rw [e] at h; cases h
  | some x => rw [e] at h; simp at h; exact h.symm

/-- What a small operation changes in the evaluator. -/
theorem Late.env {o : Oper} {s : Env} {H : Hp} {v : Value} {s1 : Env} {H1 : Hp} (h : Late P T o s H v s1 H1) : s1.nt = s.nt ∧ s1.ts = s.ts ∧ s1.ds = s.ds ∧ (∀ t c, s.ls.get t = some (some c) → s1.ls.get t = some (some c)) ∧ (∀ b x, H.get b = some x → H1.get b = some x) := by
  cases h with
  | pure h => exact ⟨rfl, rfl, rfl, fun _ _ h => h, fun _ _ h => h⟩
  | load t x a cs ho h => exact ⟨rfl, rfl, rfl, fun _ _ h => h, fun _ _ h => h⟩
  | alc _ _ S h hS =>
    cases h with
    | g obj _ h => exact ⟨rfl, rfl, rfl, fun _ _ h => h, fun b x hb => by rw [Hp.get_alloc_old H obj (Hp.get_lt hb)]; exact hb⟩
    | l t cs _ ht hl h =>
      rw [setL_eq]
      refine ⟨rfl, rfl, rfl, fun t' c hc => ?_, fun _ _ h => h⟩
      show (s.ls.set t (some cs)).get t' = _
      rw [TT.get_set_ne _ _ _ _ (fun e => by rw [e, hc] at hl; cases hl)]; exact hc

/-- The memory stays, the evaluator being ahead. -/
theorem Late.mr {o : Oper} {s : Env} {H : Hp} {v : Value} {s1 : Env} {H1 : Hp} (h : Late P T o s H v s1 H1) {g : GM} {l : LM} {w : World} (hm : MR P T g l s.ls H w) : MR P T g l s1.ls H1 w ∧ Ext P T (fun c => ∃ t, l t = some c) g H w g H1 w := by
  cases h with
  | pure h => exact ⟨hm, Ext.refl hm.gr⟩
  | load t x a cs ho h => exact ⟨hm, Ext.refl hm.gr⟩
  | alc _ _ S h hS =>
    cases h with
    | g obj _ h =>
      obtain ⟨m1, m2, _⟩ := hm.grow (H' := H.alloc obj) (by simp) (fun b hb => Hp.get_alloc_old H obj hb)
      exact ⟨m1, m2.ext⟩
    | l t cs _ ht hl h =>
      have hlt : l t = none := by
        cases e : l t with
        | none => rfl
        | some c => obtain ⟨_, _, cs', r, _⟩ := hm.lc t c e; rw [hl] at r; cases r
      rw [setL_eq]
      exact ⟨hm.growL hlt _, Ext.refl hm.gr⟩

theorem Late.knd {o : Oper} {s : Env} {H : Hp} {v : Value} {s1 : Env} {H1 : Hp} (h : Late P T o s H v s1 H1) {g : GM} {l : LM} {w : World} (hm : MR P T g l s.ls H w) {nb : Nat} (hnb : nb ≤ H.next) (lds : List Ld) (i : Nat) (d : Option Tmp) (u : Value) :
    ∃ k : Knd, k.want = true ∧ KndOk P T o s v (setD s1 d u) H1 g l nb (ldOf P s o i H lds) i k ∧ (∀ b obj, k = .ga b obj → H.next ≤ b) ∧ (∀ t cs, k = .la t cs → s.ls.get t = some none) := by
  cases h with
  | pure h => exact ⟨.pure, rfl, h, fun _ _ e => by (cases e), fun _ _ e => by (cases e)⟩
  | load t x a cs ho h =>
    refine ⟨.load a cs, rfl, ⟨t, x, ho, ⟨h.x, h.ty, ?_⟩, ldOf_mem ho h⟩, fun _ _ e => by (cases e), fun _ _ e => by (cases e)⟩
    exact rd_keep (fun _ _ h => h) (fun _ _ h => by rw [setD_ls]; exact h) h.rd
  | alc _ _ S h hS =>
    cases h with
    | g obj _ h =>
      have hdn : g H.next = none := by
        cases e : g H.next with
        | none => rfl
        | some i => have := hm.gr.dom _ _ e; omega
      exact ⟨.ga H.next obj, rfl, ⟨Hp.get_alloc_new H obj, hdn, hnb, S, h, hS⟩, fun _ _ e => by (cases e; exact Nat.le_refl _), fun _ _ e => by (cases e)⟩
    | l t cs _ ht hl h =>
      have hlt : l t = none := by
        cases e : l t with
        | none => rfl
        | some c => obtain ⟨_, _, cs', r, _⟩ := hm.lc t c e; rw [hl] at r; cases r
      refine ⟨.la t cs, rfl, ⟨ht, ?_, hlt, S, h, hS⟩, fun _ _ e => by (cases e), fun _ _ e => by (cases e; exact hl)⟩
      rw [setD_ls, setL_eq]
      show (s.ls.set t (some cs)).get t = _
      rw [TT.get_set_same, hl]; rfl

section
variable {call : Fn → List Value → Hp → (Value → Hp → Option α) → Option α} {fx : Fx} {ops : Array Oper} {B : Array Nat} {K : Env → Hp → Option α} {r : α} {b : Frame} {n0 : Nat} {g0 : GM} {H0 : Hp} {w0 : World}
  {listed : Array Bool} {suf : List (Nat × List Nat)} {pend : List Pe} {s : Env} {H : Hp} {g : GM} {l : LM} {w : World} {a : Act}

theorem DInv.adv (F : Facts P T) {j : Nat} {un : List Nat} (h : DInv P T call fx ops B K r b n0 g0 H0 w0 listed ((j, un) :: suf) pend s H g l w a) (hj : isEff P (ops.getD j default).op = false) :
    ∃ p s' H', p.i = j ∧ DInv P T call fx ops B K r b n0 g0 H0 w0 listed suf (p :: pend) s' H' g l w a := by
  obtain ⟨lds, hev, hpe⟩ := h.ev
  obtain ⟨mask, hU, hO, hD, o1, o2, o3, o4, o5, o6⟩ := h.st
  simp only [List.map_cons] at o1 o3 o4
  simp only [eopsD] at hev
  split at hev
  · cases hev
  · rename_i o ho
    rw [lget_eq] at ho
    have ho : ops[j]? = some o := by simpa using ho
    have hgd := getD_of ho
    rw [hgd] at hj
    simp only [ordOk, Bool.and_eq_true, decide_eq_true_eq] at o1
    obtain ⟨⟨⟨⟨q1, q2⟩, q3⟩, q4⟩, q5⟩ := o1
    have q2 : bit mask j = false := by simpa using q2
    have q3 : (B.getD j 0 &&& mask) = B.getD j 0 := by simpa using q3
    simp only [unOk, Bool.and_eq_true] at o2
    simp only [owOk, hgd, hj, Bool.and_eq_true] at o3
    obtain ⟨⟨r1, r2⟩, r3⟩ := o3
    simp only [depOk, Bool.and_eq_true] at o4
    obtain ⟨t1, t2⟩ := o4
    have hself : ∀ t, o.dst = some t → t ∉ looks ops j := by
      intro t ht hm
      rw [ht] at r2
      simp only [Option.toList_some, List.all_cons, List.all_nil, Bool.and_true, Bool.not_eq_true'] at r2
      rw [memN_iff.2 hm] at r2; cases r2
    have hclr : ∀ p ∈ pend, ∀ d, o.dst = some d → d ∉ looks ops p.i ∧ p.o.dst ≠ some d := fun p hp d hd =>
      clear_spec (List.all_eq_true.1 r1 p.i (o6 p hp).2.2.1) ho (hpe p hp).o d hd
    obtain ⟨wn, s1, hev, hse, hgr⟩ := guardK_ev hev
    -- the state that follows, in either case
    have fin : ∀ (lds' : List Ld) (s2 : Env) (H2 : Hp) (v : Value) (k : Knd), eopsD P T call fx ops suf lds' (setD s2 o.dst v) H2 K = some r → s2.nt = s1.nt → s2.ts = s1.ts → s2.ds = s1.ds →
        (∀ t c, s1.ls.get t = some (some c) → s2.ls.get t = some (some c)) → (∀ b x, H.get b = some x → H2.get b = some x) → MR P T g l s2.ls H2 w → Ext P T (fun c => ∃ t, l t = some c) g H w g H2 w → k.want = wn →
        KndOk P T o s1 v (setD s2 o.dst v) H2 g l H0.next lds' j k → (∀ x ∈ lds, x ∈ lds') → (∀ b obj, k = .ga b obj → H.next ≤ b) →
        ∃ p s' H', p.i = j ∧ DInv P T call fx ops B K r b n0 g0 H0 w0 listed suf (p :: pend) s' H' g l w a := by
      intro lds' s2 H2 v k hev e1 e2 e3 hL hH hm2 hx hkw hkd hlds hga
      have hts : ∀ t, o.dst ≠ some t → (setD s2 o.dst v).ts.get t = s.ts.get t := fun t ht => by rw [setD_get_ne _ _ _ _ ht, e2, hse.ts]
      have hnt : (setD s2 o.dst v).nt = s.nt := by rw [setD_nt, e1, hse.nt]
      have hpeN : PeOk P T ops (setD s2 o.dst v) H2 g l H0.next lds' ⟨j, o, s1, v, k⟩ := by
        refine ⟨ho, hj, ?_, fun t ht => ?_, fun t u ht hlt hu => ?_, hkd, hself⟩
        · simp only; rw [hkw]; exact hgr.congr fun t _ => hse.ts t
        · rw [hts t (fun e => hself t e ht), hse.ts]
        · simp only at ht
          rw [ht] at hu
          exact setD_get_self s2 t v u (by rw [e1, hse.nt, ← hnt]; exact hlt) hu
      refine ⟨⟨j, o, s1, v, k⟩, setD s2 o.dst v, H2, rfl, ⟨⟨lds', hev, fun p hp => ?_⟩, ?_, h.fx, ?_, h.n0, ?_, ?_, ?_, h.cl, ?_, ?_, h.sz, h.gr0⟩⟩
      · rcases List.mem_cons.1 hp with rfl | hp
        · exact hpeN
        · have hq := hpe p hp
          refine ⟨hq.o, hq.sm, hq.gd, fun t ht => ?_, fun t u ht hlt hu => ?_, hq.kd.sH (fun ad cs ek hrd hmem => ⟨?_, hlds _ hmem⟩) (fun c obj _ hc _ => hH _ _ hc) (fun t cs _ hc => ?_), hq.self⟩
          · rw [hts t (fun e => (hclr p hp t e).1 ht)]; exact hq.ag t ht
          · rw [hts t (fun e => (hclr p hp t e).2 ht)] at hu
            exact hq.dv t u ht (by rw [← hnt]; exact hlt) hu
          · exact rd_keep hH (fun t c hc => by rw [setD_ls]; exact hL t c (by rw [hse.ls]; exact hc)) hrd
          · rw [setD_ls]; exact hL t _ (by rw [hse.ls]; exact hc)
      · refine h.fr.adv (d := o.dst) (by rw [setD_ls]; exact hm2) hnt (by rw [setD_ds, e3, hse.ds]) hts (fun t ht => ?_) (fun t ht => ?_)
        · rw [setD_get_big _ _ _ _ (by rw [e1, hse.nt]; exact ht), e2, hse.ts]
        · rcases ht with ⟨p, hp, e⟩ | e
          · exact ⟨p, List.mem_cons_of_mem _ hp, e⟩
          · exact ⟨_, List.mem_cons_self .., e⟩
      · exact h.ext.trans h.gr0 (hx.own_mono fun c ⟨t, e⟩ => h.fr.lo t c e)
      · rw [List.pairwise_cons]
        refine ⟨fun p hp => ⟨fun e => ?_, List.all_eq_true.1 r1 p.i (o6 p hp).2.2.1, ?_, fun c obj c' obj' e1 e2 e3 => ?_⟩, h.pw⟩
        · have := (o6 p hp).1
          rw [← (show j = p.i from e), q2] at this; cases this
        · have := List.all_eq_true.1 t1 p.i (o6 p hp).2.2.2
          rw [Bool.or_eq_true] at this
          rcases this with e | e
          · exact .inl e
          · refine .inr fun t ht hm => ?_
            rw [getD_of (hpe p hp).o, ht] at e
            simp only [Option.toList_some, List.all_cons, List.all_nil, Bool.and_true, Bool.not_eq_true'] at e
            rw [memN_iff.2 hm] at e; cases e
        · have hk := (hpe p hp).kd
          rw [e2] at hk
          have := Hp.get_lt hk.1
          have := hga c obj e1
          omega
      · exact ⟨fun q hq => o5 q (bit_and q3 hq), h.po⟩
      · refine ⟨mask ||| 2 ^ j, j :: hU, j :: hO, j :: hD, q5, o2.2, r3, t2, fun q hq => ?_, fun p hp => ?_⟩
        · rw [bit_or_pow, Bool.or_eq_true, decide_eq_true_eq] at hq
          rcases hq with hq | rfl
          · rcases o5 q hq with e | ⟨p, hp, e⟩
            · exact .inl e
            · exact .inr ⟨p, List.mem_cons_of_mem _ hp, e⟩
          · exact .inr ⟨_, List.mem_cons_self .., rfl⟩
        · rcases List.mem_cons.1 hp with rfl | hp
          · exact ⟨by rw [bit_or_pow]; simp, List.mem_cons_self .., List.mem_cons_self .., List.mem_cons_self ..⟩
          · obtain ⟨z1, z2, z3, z4⟩ := o6 p hp
            exact ⟨by rw [bit_or_pow, z1]; rfl, List.mem_cons_of_mem _ z2, List.mem_cons_of_mem _ z3, List.mem_cons_of_mem _ z4⟩
      · intro i hi
        rcases h.cov i hi with e | ⟨p, hp, e⟩ | e
        · exact .inl e
        · exact .inr (.inl ⟨p, List.mem_cons_of_mem _ hp, e⟩)
        · rcases List.mem_cons.1 e with e | e
          · exact .inr (.inl ⟨_, List.mem_cons_self .., e.symm⟩)
          · exact .inr (.inr e)
      · refine ⟨fun p hp => ?_, fun i hi => h.unl.2 i (List.mem_cons_of_mem _ hi)⟩
        rcases List.mem_cons.1 hp with rfl | hp
        · exact h.unl.2 j (List.mem_cons_self ..)
        · exact h.unl.1 p hp
    have hm1 : MR P T g l s1.ls H w := by rw [hse.ls]; exact h.fr.mr
    cases wn with
    | false =>
      dsimp only at hev
      exact fin lds s1 H undefV .skip hev rfl rfl rfl (fun _ _ h => h) (fun _ _ h => h) hm1 (Ext.refl hm1.gr) rfl rfl (fun _ h => h) (fun _ _ e => by cases e)
    | true =>
      dsimp only at hev
      obtain ⟨v, s2, H2, hk, hl⟩ := eop_small F hev hj
      rw [hj] at hk
      dsimp only at hk
      obtain ⟨e1, e2, e3, hL, hH⟩ := hl.env
      obtain ⟨m2, x2⟩ := hl.mr hm1
      obtain ⟨k, k1, k2, k3, k4⟩ := hl.knd hm1 (Nat.le_of_lt_succ (Nat.lt_succ_of_le h.ext.next)) lds j o.dst v
      exact fin _ s2 H2 v k hk e1 e2 e3 hL hH m2 x2 k1 k2 (fun x hx => ldOf_mono hx) k3
end

end Go.Ev
end
section
set_option linter.unusedSimpArgs false
set_option linter.unusedVariables false
set_option maxHeartbeats 1000000
namespace Go.Ev
variable {P : Program} {T : Tab} {α : Type}

theorem veq_eq {a b : Value} (h : veq a b = true) : a = b := by
  cases a <;> cases b <;> first | (simp [veq] at h; done) | rfl | skip
  · simp [veq] at h; rw [h]
  · simp [veq] at h; rw [h.1, h.2]
  · simp only [veq, beqB_eq, beq_iff_eq] at h
    have := ByteArray.ext (Array.ext' h)
    rw [this]
  · simp [veq] at h; rw [h]
  · simp [veq] at h; rw [h.1.1, h.1.2, h.2]
  · simp [veq] at h; rw [h]
theorem veqL_eq : ∀ {a b : List Value}, veqL a b = true → a = b
  | [], [], _ => rfl
  | [], _ :: _, h => by cases h
  | _ :: _, [], h => by cases h
  | x :: a, y :: b, h => by
    simp only [veqL, Bool.and_eq_true] at h
    rw [veq_eq h.1, veqL_eq h.2]

theorem sub_congr {c c1 : List Value} {off n : Nat} (h : ∀ k, k < n → c1[off + k]? = c[off + k]?) : sub c1 off n = sub c off n := by
  have e : (c1.drop off).take n = (c.drop off).take n := by
    apply List.ext_getElem?
    intro k
    rw [List.getElem?_take, List.getElem?_take]
    split
    · rename_i hk; rw [List.getElem?_drop, List.getElem?_drop]; exact h k hk
    · rfl
  unfold sub
  rw [e]

theorem stands_ok {s s' : Env} {H H1 : Hp} {o : Oper} {ls1 : LS} (hk : KeepL s H o ls1 H1) {x : Ld} (hx : standsB (stAddr s o) s' H1 x = true) (hs : s'.ls = ls1) (h : rd s H x.a x.l.length = some x.l) : rd s' H1 x.a x.l.length = some x.l := by
  unfold standsB at hx
  cases hsp : x.a.spot with
  | none =>
    rw [hsp] at hx
    simp only at hx
    split at hx
    · rename_i l hl; rw [hl, veqL_eq hx]
    · cases hx
  | some z =>
    rw [hsp] at hx
    simp only at hx
    unfold rd at h ⊢
    rw [hsp] at h ⊢
    simp only at h ⊢
    rw [hs]
    split at h
    · rename_i c hc
      rcases hk with hk | ⟨tt, xx, y, ad, ho, he, hw⟩
      · rw [hk _ _ hc]; exact h
      · rcases hw with ⟨_, hw⟩ | ⟨hsp', _, c0, c1, hc0, hlay, hw⟩
        · rw [hw, hc]; exact h
        · have hst : stAddr s o = some (ad, (vcells (ev s y)).length) := by
            unfold stAddr; rw [ho]; simp only; rw [he]
          rw [hst] at hx
          simp only at hx
          cases hsa : ad.spot with
          | none => exact absurd hsa hsp'
          | some z' =>
            rw [hsa] at hx
            simp only [Bool.or_eq_true, Bool.not_eq_true', beq_false, Nat.ble_eq] at hx
            by_cases hb : ad.block = x.a.block
            · rw [hb, hc] at hc0; cases hc0
              obtain ⟨l1, l2, l3⟩ := lay_some hlay
              rw [hw, ← hb, TT.get_set_same, hb, hc]
              simp only [Option.map_some]
              rw [← h]
              refine sub_congr fun k hk => ?_
              rw [l3, if_neg]
              rcases hx with (hx | hx) | hx
              · exact absurd hb hx
              · omega
              · omega
            · rw [hw, TT.get_set_ne _ _ _ _ hb, hc]; exact h
    · cases h

section
variable {call : Fn → List Value → Hp → (Value → Hp → Option α) → Option α} {fx : Fx} {ops : Array Oper} {B : Array Nat} {K : Env → Hp → Option α} {r : α} {b : Frame} {n0 : Nat} {g0 : GM} {H0 : Hp} {w0 : World}
  {listed : Array Bool} {suf : List (Nat × List Nat)} {pend : List Pe} {s : Env} {H : Hp} {g : GM} {l : LM} {w : World} {a : Act}

theorem DInv.eff (F : Facts P T) (hC : CallOk P T call) (hops : opsOk T ops.toList = true) {j : Nat} {un : List Nat} (h : DInv P T call fx ops B K r b n0 g0 H0 w0 listed ((j, un) :: suf) pend s H g l w a) (hj : isEff P (ops.getD j default).op = true)
    (hr : ∀ q, bit (B.getD j 0) q = true → listed.getD q false = true) {cs : List Frame} (hk : KindOk b.kind cs) (rest : List Nat) (k : List Item) :
    ∃ s' H' g' l' w' a', Steps P (lone (b.atR a (.inRegion ops (j :: rest) :: k)) cs w) (lone (b.atR a' (.inRegion ops rest :: k)) cs w') ∧
      DInv P T call fx ops B K r b n0 g0 H0 w0 (listed.setIfInBounds j true) suf pend s' H' g' l' w' a' := by
  obtain ⟨lds, hev, hpe⟩ := h.ev
  obtain ⟨mask, hU, hO, hD, o1, o2, o3, o4, o5, o6⟩ := h.st
  simp only [List.map_cons] at o1 o3 o4
  simp only [eopsD] at hev
  split at hev
  · cases hev
  · rename_i o ho
    rw [lget_eq] at ho
    have ho : ops[j]? = some o := by simpa using ho
    have hgd := getD_of ho
    rw [hgd] at hj
    simp only [ordOk, Bool.and_eq_true, decide_eq_true_eq] at o1
    obtain ⟨⟨⟨⟨q1, q2⟩, q3⟩, q4⟩, q5⟩ := o1
    simp only [unOk, hgd, hj, Bool.and_eq_true] at o2
    simp only [owOk, hgd, hj, Bool.and_eq_true] at o3
    obtain ⟨r1, r3⟩ := o3
    simp only [depOk, Bool.and_eq_true] at o4
    obtain ⟨t1, t2⟩ := o4
    have hnb : ∀ p ∈ pend, bit (B.getD j 0) p.i = false := fun p hp => by
      cases e : bit (B.getD j 0) p.i with
      | false => rfl
      | true => have := hr _ e; rw [h.unl.1 p hp] at this; cases this
    have hhad : ∀ p ∈ pend, p.i ∈ hO.filter fun p => !(bit (B.getD j 0) p) := fun p hp => List.mem_filter.2 ⟨(o6 p hp).2.2.1, by rw [hnb p hp]; rfl⟩
    have hclr : ∀ p ∈ pend, ∀ d, o.dst = some d → d ∉ looks ops p.i ∧ p.o.dst ≠ some d := fun p hp d hd =>
      clear_spec (List.all_eq_true.1 r1 p.i (hhad p hp)) ho (hpe p hp).o d hd
    have hS : ∀ t ∈ looks ops j, ¬ ∃ q ∈ pend, q.o.dst = some t := by
      rintro t ht ⟨q, hq, hd⟩
      have := List.all_eq_true.1 t1 q.i (o6 q hq).2.2.2
      rw [hnb q hq, Bool.false_or, getD_of (hpe q hq).o, hd] at this
      simp only [Option.toList_some, List.all_cons, List.all_nil, Bool.and_true, Bool.not_eq_true'] at this
      rw [memN_iff.2 ht] at this; cases this
    have hlk := looks_eq ho
    obtain ⟨wn, s1, hev, hse, hw⟩ := guardK_ok hev h.fr (fun t ht => hS t (by rw [hlk]; exact List.mem_append_right _ ht))
    have hF1 := h.fr.same hse
    have hlt : j < listed.size := by rw [h.sz]; exact lt_of_some ho
    have hset := getD_set listed hlt
    have fin : ∀ (lds' : List Ld) (s' : Env) (H' : Hp) (g' : GM) (l' : LM) (w' : World) (a' : Act), eopsD P T call fx ops suf lds' s' H' K = some r → s'.nt = s.nt → (∀ t, o.dst ≠ some t → s'.ts.get t = s.ts.get t) →
        FR P T g' l' s' H' w' a' n0 (fun t => ∃ p ∈ pend, p.o.dst = some t) → g.le g' → Ext P T (n0 ≤ ·) g H w g' H' w' → (∀ p ∈ pend, KndOk P T p.o p.s0 p.v s' H' g' l' H0.next lds' p.i p.k) →
        Steps P (lone (b.atR a (.inRegion ops (j :: rest) :: k)) cs w) (lone (b.atR a' (.inRegion ops rest :: k)) cs w') →
        ∃ s' H' g' l' w' a', Steps P (lone (b.atR a (.inRegion ops (j :: rest) :: k)) cs w) (lone (b.atR a' (.inRegion ops rest :: k)) cs w') ∧
          DInv P T call fx ops B K r b n0 g0 H0 w0 (listed.setIfInBounds j true) suf pend s' H' g' l' w' a' := by
      intro lds' s' H' g' l' w' a' hev hnt hts hF hle hE hkd hst
      refine ⟨s', H', g', l', w', a', hst, ⟨⟨lds', hev, fun p hp => ?_⟩, hF, h.fx.mono hle, h.ext.trans h.gr0 hE, Nat.le_trans h.n0 hE.size, h.pw, ?_, ?_, ?_, ?_, ?_, by simp [h.sz], h.gr0⟩⟩
      · have hq := hpe p hp
        refine ⟨hq.o, hq.sm, hq.gd, fun t ht => ?_, fun t u ht hlt hu => ?_, hkd p hp, hq.self⟩
        · rw [hts t (fun e => (hclr p hp t e).1 ht)]; exact hq.ag t ht
        · rw [hts t (fun e => (hclr p hp t e).2 ht)] at hu
          exact hq.dv t u ht (by rw [← hnt]; exact hlt) hu
      · have := h.po.set (listed' := listed.setIfInBounds j true) (fun q hq => by rw [hset, hq]; simp) (fun _ => true) (fun _ _ e => by cases e)
        rwa [List.filter_eq_self.2 (fun _ _ => rfl)] at this
      · refine ⟨mask ||| 2 ^ j, j :: hU, _, j :: hD, q5, o2.2, r3, t2, fun q hq => ?_, fun p hp => ?_⟩
        · rw [bit_or_pow, Bool.or_eq_true, decide_eq_true_eq] at hq
          rcases hq with hq | rfl
          · rcases o5 q hq with e | e
            · exact .inl (by rw [hset, e]; simp)
            · exact .inr e
          · exact .inl (by rw [hset]; simp)
        · obtain ⟨z1, z2, z3, z4⟩ := o6 p hp
          exact ⟨by rw [bit_or_pow, z1]; rfl, List.mem_cons_of_mem _ z2, hhad p hp, List.mem_cons_of_mem _ z4⟩
      · intro i hi q hq
        rw [hset] at hi ⊢
        rw [Bool.or_eq_true] at hi ⊢
        rcases hi with hi | hi
        · have : j = i := by simpa using hi
          subst this
          exact .inr (hr q hq)
        · exact .inr (h.cl i hi q hq)
      · intro i hi
        rcases h.cov i hi with e | e | e
        · exact .inl (by rw [hset, e]; simp)
        · exact .inr (.inl e)
        · rcases List.mem_cons.1 e with e | e
          · exact .inl (by rw [hset, show j = i from e.symm]; simp)
          · exact .inr (.inr e)
      · refine ⟨fun p hp => ?_, fun i hi => ?_⟩
        · have hne : j ≠ p.i := fun e => by
            have := (o6 p hp).1
            rw [← e] at this
            rw [this] at q2; cases q2
          rw [hset, h.unl.1 p hp]; simp [hne]
        · have h1 := ordOk_not _ _ q5 i hi
          rw [bit_or_pow, Bool.or_eq_false_iff] at h1
          have hne : j ≠ i := by simpa using h1.2
          rw [hset, h.unl.2 i (List.mem_cons_of_mem _ hi)]; simp [hne]
    have hself : (⟨s1.nt, s1.ts, s1.ls, s1.ds⟩ : Env) = s1 := by cases s1; rfl
    have hweak : ∀ t, (∃ p ∈ pend, p.o.dst = some t) → o.dst ≠ some t → ∃ p ∈ pend, p.o.dst = some t := fun _ e _ => e
    cases wn with
    | false =>
      dsimp only at hev
      have hF2 := hF1.put (d := o.dst) (v := undefV) (v' := undef) hF1.mr (Stp.refl hF1.mr.gr) (.g (.tuple .nil)) hF1.ds h.n0 hweak
      rw [hself] at hF2
      refine fin lds _ H g l w _ hev (by rw [setD_nt, hse.nt]) (fun t ht => by rw [setD_get_ne _ _ _ _ ht, hse.ts]) hF2 g.le_refl (Ext.refl h.fr.mr.gr) (fun p hp => ?_) (.one (step_skipOp ho hw))
      exact (hpe p hp).kd.sH (fun ad cs _ hrd hm => ⟨rd_keep (fun _ _ h => h) (fun _ _ h => by rw [setD_ls, hse.ls]; exact h) hrd, hm⟩) (fun _ _ _ h _ => h) (fun _ _ _ h => by rw [setD_ls, hse.ls]; exact h)
    | true =>
      dsimp only at hev
      have hopd : OpdR g l s1 a o := hF1.opd (opdOk_at hops ho) (fun t ht => hS t (by rw [hlk]; exact List.mem_append_left _ ht))
      obtain ⟨v, ls1, ds1, H1, hk1, ⟨v', w1, g1, l1, df, hst1, m1, m2, hv, hdf, hl1⟩, hkeep⟩ := eop_ok F hC hev hF1 hopd h.fx hk ho hw rest k
      rw [hj] at hk1
      dsimp only at hk1
      split at hk1
      · rename_i hstand
        have hF2 := hF1.put (d := o.dst) m1 m2 hv hdf h.n0 hweak
        refine fin lds _ H1 g1 l1 w1 _ hk1 (by rw [setD_nt]; exact hse.nt) (fun t ht => by rw [setD_get_ne _ _ _ _ ht]; exact hse.ts t) hF2 m2.ext.le (m2.fr hF1) (fun p hp => ?_) hst1
        have hq := hpe p hp
        have hl0 : ∀ t cs, p.k = .la t cs → l1 t = none := fun t cs e => by
          have hkd := hq.kd; rw [e] at hkd
          rw [hl1 t (fun e' => (hclr p hp t e').2 hkd.1)]
          exact hkd.2.2.1
        refine (hq.kd.sH (s' := setD ⟨s1.nt, s1.ts, ls1, ds1⟩ o.dst v) (H' := H1) (lds' := lds) (fun ad cs e hrd hm => ⟨?_, hm⟩) (fun c obj e hc hgc => ?_) (fun t cs e hc => ?_)).gl (fun c obj e => ?_) hl0
        · have hun : memN un p.i = true := by
            have := List.all_eq_true.1 o2.1 p.i (o6 p hp).2.1
            have hkd := hq.kd; rw [e] at hkd
            obtain ⟨t, x, hop, _⟩ := hkd
            rw [hnb p hp, getD_of hq.o, hop] at this
            simpa [isLd] using this
          have hmem : (⟨p.i, ad, cs⟩ : Ld) ∈ lds.filter fun x => memN un x.j := List.mem_filter.2 ⟨hm, hun⟩
          have := List.all_eq_true.1 hstand _ hmem
          exact stands_ok (x := ⟨p.i, ad, cs⟩) hkeep this (setD_ls ..) (rd_keep (fun _ _ h => h) (fun _ _ h => by rw [hse.ls]; exact h) hrd)
        · rw [m2.ext.keep c (Hp.get_lt hc) hgc]; exact hc
        · rw [setD_ls]
          show ls1.get t = _
          rw [m2.lk t (hl0 t cs e), hse.ls]; exact hc
        · have hkd := hq.kd; rw [e] at hkd
          cases e1 : g1 c with
          | none => rfl
          | some i =>
            rcases m2.ext.new c i e1 with e2 | ⟨e2, _⟩
            · rw [hkd.2.1] at e2; cases e2
            · have := Hp.get_lt hkd.1; omega
      · cases hk1
end

end Go.Ev
end
