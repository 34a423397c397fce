/- PROVED: Rows.TextWritesCardSaid: for every date-time that is handed in, package text writes the date, the time and the date-time as the document does, or refuses them where the document does. CONDITIONS: the listed package-level variables hold at the start what the program lays; the card ties that to the text; nothing else is asked of the input. -/
import Derived.LaidMore
import Derived.Lay
import Derived.Lib.SmallJoins
import Derived.OpenShut
import Derived.ProofKit
import Derived.SevenTiedAt
import Derived.Stop.Joined
import Derived.Test.YtbfefcmhciimcaaGreatDoorCards
import Derived.Test.YtbfefcmhciimcaaGreatDoorRows
import Derived.Test.YtbfefcmhciimcaaGreatDoorTie
import Derived.Test.YtbfefcmhciimcaaGreatDoorEvM
section
set_option linter.unusedSimpArgs false
set_option linter.unusedVariables false
set_option maxHeartbeats 1000000
namespace Go.Ev
open Go Go.ChangeShapes Go.WideShapes Go.RowKit
variable {P : Program} {T : Tab}
/-! ### From the run to the call -/
theorem runs_calls (F : Facts P T) (F2 : Facts2 P T) {O : Orc} (hO : OrcOk P T O) {t : Hp → Bool} {B : Hp} {f : FuncId} {args : List Value} {v : Value} (hr : Runs P T B t O f args v)
    {fn : Func} {c : Code} (hfn : P.funcs[f]? = some fn) (hb : fn.body = some c)
    {g : GM} {w : World} {args' : List Value} (hg : GR P T g B w) (hgl : GLB T g) (ha : VGL g args args') :
    Calls P f ⟨args'⟩ w (fun e w' => ∃ v', e = .returned v' ∧ ∃ H' g', VG g' v v' ∧ Ext P T (fun _ => False) g B w g' H' w') := by
  obtain ⟨n, B', _, e⟩ := hr
  have h := einv_ok F F2 hO n _ _ _ _ _ e g w args' (.func f) hg hgl ha (.inl ⟨f, rfl, rfl⟩) args' [] (by simp) (by intro l h; cases h)
  have hi : (invoke (.fn (.func f) ⟨[]⟩) ⟨args'⟩).run P w = .ok (.enter f ⟨args'⟩) w := by
    show (callFunc f ((⟨args'⟩ : Array Value) ++ ⟨[]⟩)).run P w = _
    have happ : (⟨args'⟩ : Array Value) ++ ⟨[]⟩ = ⟨args'⟩ := by apply Array.ext'; simp
    rw [happ]
    have h1 : fn.name ≠ "runtime.NumGoroutine" := by simpa using F2.nm f fn hfn (by simp [hb])
    simp [callFunc, hfn, h1, hb]
  rcases h with ⟨v', w', _, h⟩ | ⟨g1, xs, w1, h, k⟩ | ⟨l, g1, tm, asg, body, w1, _, h, _⟩
  · rw [hi] at h; cases h
  · rw [hi] at h
    cases h
    refine (k.calls).mono fun e w' ⟨v', he, v1, H', g', h1, h2, h3⟩ => ⟨v', he, H', g', ?_, h3⟩
    simp only [Option.some.injEq, Prod.mk.injEq] at h1
    rw [← h1.1]; exact h2
  · rw [hi] at h; cases h
/-- Nothing that was there changes, where all that is known is frozen. -/
theorem ext_keeps {g g' : GM} {B H' : Hp} {w w' : World} (hro : ∀ b o, B.get b = some o → isRo o = true) (h : Ext P T (fun _ => False) g B w g' H' w') : ∀ c, c < w.heap.size → w'.heap[c]? = w.heap[c]? := by
  intro c hc
  by_cases hl : Live g B c
  · obtain ⟨b, i, o, h1, h2, rfl⟩ := hl
    exact (h.ro b i o h1 h2 (hro b o h2)).2
  · exact h.frame c hc hl (fun h => h)
theorem keptBut_of_heap {w w' : World} {may : MemPlace → Prop} (ho : w'.os = w.os) (hp : w'.output = w.output) (h : ∀ c, c < w.heap.size → w'.heap[c]? = w.heap[c]?) : w.keptBut w' may := by
  refine ⟨ho, hp, fun i hi => ?_⟩
  rw [h i hi]
  cases w.heap[i]? with
  | none => rfl
  | some o =>
    cases o with
    | cells c t fr => exact ⟨rfl, rfl, rfl, fun _ _ => rfl⟩
    | map es clock => exact .inr ⟨rfl, rfl⟩
    | _ => rfl
end Go.Ev
end
section
set_option linter.unusedSimpArgs false
set_option linter.unusedVariables false
set_option maxHeartbeats 1000000
namespace Go.Ev
open Go Go.Proofs Go.ChangeShapes Go.WideShapes Go.ChangeAt Go.RowKit Go.Joins Go.Proofs.YtbfefcmhciimcaaGreatDoor
/-! ### The start -/
def laidTW : List (String × DataW Unit) := Rows.textWritesRow.laid
theorem gPow : Tryz.prog.globalNamed "internal/strconv.uint64pow10" = some 2 := by kernel_rfl
theorem tPow : (Tryz.prog.globals[2]?).map (·.type) = some 349 := by kernel_rfl
theorem powNth (r : Nat) (h : r < 20) : pow10[r]? = some (.int .u64 (10 ^ r)) := by
  have : r = 0 ∨ r = 1 ∨ r = 2 ∨ r = 3 ∨ r = 4 ∨ r = 5 ∨ r = 6 ∨ r = 7 ∨ r = 8 ∨ r = 9 ∨ r = 10 ∨ r = 11 ∨ r = 12 ∨ r = 13 ∨ r = 14 ∨ r = 15 ∨ r = 16 ∨ r = 17 ∨ r = 18 ∨ r = 19 := by omega
  rcases this with rfl | rfl | rfl | rfl | rfl | rfl | rfl | rfl | rfl | rfl | rfl | rfl | rfl | rfl | rfl | rfl | rfl | rfl | rfl | rfl <;> rfl
/-- The table's cells, by the row's condition. -/
theorem pow_cells {W : World} (h : laidMetH Tryz.prog Rows.textWritesRow.laid W) : ∃ cs : Array Value, W.var? Tryz.prog "internal/strconv.uint64pow10" = some cs ∧ ∀ r, r < 20 → cs[r]? = some (.int .u64 (10 ^ r)) := by
  rw [MakeChecks.laidMetH_plain _ _ _ (by kernel_rfl)] at h
  obtain ⟨ps, ⟨_, _, _, _, _, _, _, _, _, _, ⟨_, _, _, _, _, _, _, _, _, _, ⟨g, t, cs, fuel, p, q, hg, ht, hv, hd, _, _⟩, _⟩, _⟩, _, _⟩ := h
  obtain rfl := Option.some.inj (gPow.symm.trans hg)
  obtain rfl := Option.some.inj (tPow.symm.trans ht)
  refine ⟨cs, hv, fun r hr => ?_⟩
  obtain ⟨xs, m, _, ex, _, hl, hel⟩ := DataW.trod_array Tryz.underlying349 hd
  have c5 : Tryz.prog.cellsOf 63 = 1 := by kernel_rfl
  have hE := hel r hr
  rw [c5, Nat.mul_one, List.getElem?_eq_getElem (by omega)] at hE
  obtain ⟨z, e1, e2, _⟩ := DataW.trod_int Tryz.underlying63 hE
  have e3 : (xs.map (·.1)) = pow10.map fun v => match v with | .int k n => (DataW.lit (.int k n) : DataW Unit) | _ => .nil := (DataW.agg.inj (Prod.mk.inj ex).1).symm
  have e4 : (xs.map (·.1))[r]? = (pow10.map fun v => match v with | .int k n => (DataW.lit (.int k n) : DataW Unit) | _ => .nil)[r]? := by rw [e3]
  rw [List.getElem?_map, List.getElem?_map, List.getElem?_eq_getElem (by omega : r < xs.length), powNth r hr, e2] at e4
  have hz : z = 10 ^ r := by
    simp only [Option.map_some, Option.some.injEq, DataW.lit.injEq, Lit.int.injEq, true_and] at e4
    exact e4
  subst hz
  have h0 : ((cs.toList.drop r).take 1)[0]? = some (.int .u64 (10 ^ r)) := by rw [e1]; rfl
  simpa using h0
def g0 : GM := fun b => if b < 11 then some ⟨b, 0, 20⟩ else none
theorem rows0 : ((List.range 11).all fun k => (((begin Tryz.prog (fun _ _ => 0) default).world.heap[k]?).bind Obj.row?).isSome) = true := by kernel_rfl
theorem row2 : ((((begin Tryz.prog (fun _ _ => 0) default).world.heap[2]?).bind Obj.row?).map fun x => (x.1.size, x.2)) = some (20, 349) := by kernel_rfl
theorem nglob : Tryz.prog.globals.size = 11 := by kernel_rfl
/-- The world that the call begins in. -/
theorem start_ok {W : World} (hs : W.ShapedOpen Tryz.prog) (hl : laidMetH Tryz.prog Rows.textWritesRow.laid W) : GR PP tab g0 hp0 W ∧ GLB tab g0 := by
  have hk : ∀ k, k < 11 → ∃ zero t cs, ((begin Tryz.prog (fun _ _ => 0) default).world.heap[k]?).bind Obj.row? = some (zero, t) ∧ W.heap[k]? = some (.cells cs t) ∧ cs.size = zero.size := by
    intro k hk
    have := List.all_eq_true.1 rows0 k (List.mem_range.2 hk)
    cases e : ((begin Tryz.prog (fun _ _ => 0) default).world.heap[k]?).bind Obj.row? with
    | none => rw [e] at this; cases this
    | some x =>
      obtain ⟨zero, t⟩ := x
      obtain ⟨cs, h1, h2, _⟩ := hs.1 k zero t (by rw [nglob]; exact hk) e
      exact ⟨zero, t, cs, rfl, h1, h2⟩
  refine ⟨⟨?_, ?_, ?_, ?_⟩, ?_⟩
  · intro b i h
    unfold g0 at h
    split at h
    · assumption
    · cases h
  · intro b i h
    unfold g0 at h
    split at h
    · rename_i hb
      cases h
      obtain ⟨_, _, cs, _, h1, _⟩ := hk b hb
      exact (Array.getElem?_eq_some_iff.1 h1).1
    · cases h
  · intro b i o h ho
    obtain ⟨rfl, rfl⟩ := hp0_get ho
    cases h
    obtain ⟨zero, t, cs, h0, h1, h2⟩ := hk 2 (by decide)
    have hr := row2
    rw [h0] at hr
    simp only [Option.map_some, Option.some.injEq, Prod.mk.injEq] at hr
    obtain ⟨hz, rfl⟩ := hr
    obtain ⟨cs', hv, hc⟩ := pow_cells hl
    have : cs' = cs := by
      simp only [World.var?, gPow, Option.bind_some] at hv
      rw [h1] at hv
      simpa using hv.symm
    subst this
    refine ⟨_, h1, cs', _, _, rfl, by show cs'.size = 20; omega, by show 0 + 20 ≤ 20; omega, ?_, .inl rfl, .inl rfl⟩
    intro k v hkv
    have hk20 : k < 20 := (List.getElem?_eq_some_iff.1 hkv).1
    rw [powNth k hk20] at hkv
    cases hkv
    exact ⟨_, by rw [show (({ blk := 2, del := 0, csz := 20 } : Img).del + k) = k from by show 0 + k = k; omega]; exact hc k hk20, .int _ _⟩
  · intro b1 b2 i1 i2 o1 o2 _ _ h1 h2 _
    rw [(hp0_get h1).1, (hp0_get h2).1]
  · intro b hb
    exact ⟨20, if_pos hb⟩
end Go.Ev
end
section
set_option linter.unusedSimpArgs false
set_option linter.unusedVariables false
set_option maxHeartbeats 1000000
namespace Go.Proofs.YtbfefcmhciimcaaGreatDoor
open Go Go.Ev Go.Deep Go.Proofs Go.ChangeShapes Go.WideShapes Go.ChangeAt Go.RowKit Go.Joins

theorem list3 {α : Type} {l : List α} (h : l.length = 3) : ∃ a b c, l = [a, b, c] := by
  match l, h with
  | [a, b, c], _ => exact ⟨a, b, c, rfl⟩
theorem list4 {α : Type} {l : List α} (h : l.length = 4) : ∃ a b c d, l = [a, b, c, d] := by
  match l, h with
  | [a, b, c, d], _ => exact ⟨a, b, c, d, rfl⟩
theorem list7 {α : Type} {l : List α} (h : l.length = 7) : ∃ a b c d e f g, l = [a, b, c, d, e, f, g] := by
  match l, h with
  | [a, b, c, d, e, f, g], _ => exact ⟨a, b, c, d, e, f, g, rfl⟩
theorem own : ownKnob Tryz.prog.godebug = none := by kernel_rfl
section
variable {H : Type} {enc : TypeId × Value → H}
theorem c3 : Tryz.prog.cellsOf 3 = 1 := by kernel_rfl
theorem c23 : Tryz.prog.cellsOf 23 = 3 := by kernel_rfl
theorem c25 : Tryz.prog.cellsOf 25 = 4 := by kernel_rfl
theorem c27 : Tryz.prog.cellsOf 27 = 7 := by kernel_rfl
/-- A whole number's reading, whatever the world. -/
theorem int_any {W W' : World} {b b' : Nat} {sp sp' : Nat → Bool} {hd hd' : Bool} {n m : Nat} {cs : List Value} {x : DataW H × List MemPlace} (h : DataW.trod enc Tryz.prog W b sp hd n 3 cs = some x) :
    ∃ z, cs = [.int .i64 z] ∧ x = (.lit (.int .i64 z), []) ∧ DataW.trod enc Tryz.prog W' b' sp' hd' (m + 1) 3 cs = some x := by
  obtain ⟨z, rfl, rfl, w⟩ := DataW.trod_int Tryz.underlying3 h
  exact ⟨z, rfl, rfl, by simp [DataW.trod, Tryz.underlying3, w]⟩
theorem date_any {W W' : World} {b b' : Nat} {sp sp' : Nat → Bool} {hd hd' : Bool} {n m : Nat} {cs : List Value} {x : DataW H × List MemPlace} (h : DataW.trod enc Tryz.prog W b sp hd n 23 cs = some x) :
    ∃ y mo d, cs = [.int .i64 y, .int .i64 mo, .int .i64 d] ∧ x.2 = [] ∧ DataW.trod enc Tryz.prog W' b' sp' hd' (m + 2) 23 cs = some x := by
  obtain ⟨y0, y1, y2, k, hx, hl, h0, h1, h2⟩ := trod_struct3 Tryz.underlying23 h
  rw [c23] at hl
  obtain ⟨a0, a1, a2, rfl⟩ := list3 hl
  simp only [c3] at h0 h1 h2
  obtain ⟨z0, e0, f0, k0⟩ := int_any (W' := W') (b' := b') (sp' := sp') (hd' := hd') (m := m) h0
  obtain ⟨z1, e1, f1, k1⟩ := int_any (W' := W') (b' := b') (sp' := sp') (hd' := hd') (m := m) h1
  obtain ⟨z2, e2, f2, k2⟩ := int_any (W' := W') (b' := b') (sp' := sp') (hd' := hd') (m := m) h2
  simp at e0 e1 e2
  subst e0 e1 e2
  refine ⟨z0, z1, z2, rfl, by rw [hx, f0, f1, f2]; rfl, ?_⟩
  rw [hx]
  exact trod_struct3_mk Tryz.underlying23 (by rw [c23]; rfl) (by simpa only [c3] using k0) (by simpa only [c3] using k1) (by simpa only [c3] using k2)
theorem time_any {W W' : World} {b b' : Nat} {sp sp' : Nat → Bool} {hd hd' : Bool} {n m : Nat} {cs : List Value} {x : DataW H × List MemPlace} (h : DataW.trod enc Tryz.prog W b sp hd n 25 cs = some x) :
    ∃ y mo d e, cs = [.int .i64 y, .int .i64 mo, .int .i64 d, .int .i64 e] ∧ x.2 = [] ∧ DataW.trod enc Tryz.prog W' b' sp' hd' (m + 2) 25 cs = some x := by
  obtain ⟨y0, y1, y2, y3, k, hx, hl, h0, h1, h2, h3⟩ := trod_struct4 Tryz.underlying25 h
  rw [c25] at hl
  obtain ⟨a0, a1, a2, a3, rfl⟩ := list4 hl
  simp only [c3] at h0 h1 h2 h3
  obtain ⟨z0, e0, f0, k0⟩ := int_any (W' := W') (b' := b') (sp' := sp') (hd' := hd') (m := m) h0
  obtain ⟨z1, e1, f1, k1⟩ := int_any (W' := W') (b' := b') (sp' := sp') (hd' := hd') (m := m) h1
  obtain ⟨z2, e2, f2, k2⟩ := int_any (W' := W') (b' := b') (sp' := sp') (hd' := hd') (m := m) h2
  obtain ⟨z3, e3, f3, k3⟩ := int_any (W' := W') (b' := b') (sp' := sp') (hd' := hd') (m := m) h3
  simp at e0 e1 e2 e3
  subst e0 e1 e2 e3
  refine ⟨z0, z1, z2, z3, rfl, by rw [hx, f0, f1, f2, f3]; rfl, ?_⟩
  rw [hx]
  exact trod_struct4_mk Tryz.underlying25 (by rw [c25]; rfl) (by simpa only [c3] using k0) (by simpa only [c3] using k1) (by simpa only [c3] using k2) (by simpa only [c3] using k3)
theorem dt_any {W W' : World} {b b' : Nat} {sp sp' : Nat → Bool} {hd hd' : Bool} {n : Nat} {cs : List Value} {x : DataW H × List MemPlace} (h : DataW.trod enc Tryz.prog W b sp hd n 27 cs = some x) :
    ∃ y mo d hh mi s ns, cs = [.int .i64 y, .int .i64 mo, .int .i64 d, .int .i64 hh, .int .i64 mi, .int .i64 s, .int .i64 ns] ∧ x.2 = [] ∧ DataW.trod enc Tryz.prog W' b' sp' hd' 3 27 cs = some x := by
  obtain ⟨y0, y1, k, hx, hl, h0, h1⟩ := trod_struct2 Tryz.underlying27 h
  rw [c27] at hl
  obtain ⟨a0, a1, a2, a3, a4, a5, a6, rfl⟩ := list7 hl
  simp only [c23, c25] at h0 h1
  obtain ⟨z0, z1, z2, e0, f0, k0⟩ := date_any (W' := W') (b' := b') (sp' := sp') (hd' := hd') (m := 0) h0
  obtain ⟨z3, z4, z5, z6, e1, f1, k1⟩ := time_any (W' := W') (b' := b') (sp' := sp') (hd' := hd') (m := 0) h1
  simp at e0 e1
  obtain ⟨rfl, rfl, rfl⟩ := e0
  obtain ⟨rfl, rfl, rfl, rfl⟩ := e1
  refine ⟨z0, z1, z2, z3, z4, z5, z6, rfl, by rw [hx, f0, f1]; rfl, ?_⟩
  rw [hx]
  exact trod_struct2_mk Tryz.underlying27 (by rw [c27]; rfl) (by simpa only [c23] using k0) (by simpa only [c25] using k1)
end

set_option maxRecDepth 100000 in
theorem lifted (os : Os) (started : os.Started) (H : Type) (enc : TypeId × Value → H) :
    ReturnsInHanded {} Tryz.checked os 3 .any (fun w args => (Rows.textWritesSpec.pre enc Tryz.prog Tryz.f3 Rows.textWritesRow.domain false w args ∧ laidMetH Tryz.prog Rows.textWritesRow.laid w) ∧ sizedMet enc Tryz.prog Tryz.f3 (OpenSpec.ofChange Rows.textWritesSpec) false w args)
      (Rows.textWritesSpec.post enc Tryz.prog Tryz.f3 false true false false) := by
  refine returnsInHanded_of_calls (C := Tryz.checked) own started (by kernel_rfl)
    (ChangeSpec.witness_shaped (enc := enc) (C := Tryz.checked) (os := os) (X := fun w _ => laidMetH Tryz.prog Rows.textWritesRow.laid w) false (World.laidAll Tryz.prog os Rows.textWritesRow.laid) #[.agg #[.int .i64 0, .int .i64 0, .int .i64 0, .int .i64 0, .int .i64 0, .int .i64 0, .int .i64 0]] 8 (World.laidAll_os _ _ _)
      (World.shaped_of_ZipB (by kernel_rfl) (by kernel_rfl)) (by kernel_rfl) (by kernel_rfl) (by kernel_rfl)
      (by rw [MakeChecks.laidMetH_plain _ _ _ (by kernel_rfl)]; exact laidMet_laidAll _ (by kernel_rfl) (by kernel_rfl))) ?_
  intro w tape i _ hsh _ hok hpre _
  obtain ⟨_, _, _, fn', hfn', _, _, _, _, hval0⟩ := hok
  have e : fn' = Tryz.f3 := Option.some.inj (hfn'.symm.trans Tryz.func3)
  subst e
  obtain ⟨⟨⟨ds, gs, before, hW0, _⟩, hx⟩, _⟩ := hpre
  have hW1 := DataW.Whole.of_heap (w' := w.forCall tape i) (by rfl) hW0
  have hL : laidMetH Tryz.prog Rows.textWritesRow.laid (w.forCall tape i) := hx.of_heap (by rfl)
  generalize hWd : w.forCall tape i = W at *
  obtain ⟨vars, args, rest⟩ := i
  have hval : ∀ (j : Nat) t v, Tryz.f3.params[j]? = some t → args[j]? = some v → Value.okWide Tryz.prog W .any _ t v := hval0
  have hW' := hW1
  obtain ⟨p, q, hA0, hV, rfl, _, _⟩ := hW1
  have hA : DataW.TrodAll enc Tryz.prog W 0 (fun _ => true) true Tryz.f3.params.toList args.toList ds p := hA0
  rw [Tryz.params3] at hA hval
  obtain ⟨v0, d0, rfl, rfl, h0⟩ := trodAll_one hA
  obtain ⟨rfl, rfl⟩ := trodVars_none hV
  obtain ⟨cs, rfl, hsz⟩ := okWide_struct Tryz.underlying27 (hval 0 27 v0 rfl rfl)
  obtain ⟨fuel, hf⟩ := h0
  obtain ⟨y, mo, d, hh, mi, s, ns, hcs, hp, _⟩ := dt_any (W' := W) (b' := 0) (sp' := fun _ => true) (hd' := true) hf
  have hcs : cs = #[.int .i64 y, .int .i64 mo, .int .i64 d, .int .i64 hh, .int .i64 mi, .int .i64 s, .int .i64 ns] := by
    apply Array.ext'; simpa [Value.cells] using hcs
  subst hcs
  simp only at hp
  subst hp
  simp only [List.append_nil] at hW'
  obtain ⟨hg, hgl⟩ := start_ok hsh hL
  have ha : VGL g0 [Value.agg ⟨[.int .i64 y, .int .i64 mo, .int .i64 d, .int .i64 hh, .int .i64 mi, .int .i64 s, .int .i64 ns]⟩] [Value.agg ⟨[.int .i64 y, .int .i64 mo, .int .i64 d, .int .i64 hh, .int .i64 mi, .int .i64 s, .int .i64 ns]⟩] :=
    .cons (.agg (.cons (.int _ _) (.cons (.int _ _) (.cons (.int _ _) (.cons (.int _ _) (.cons (.int _ _) (.cons (.int _ _) (.cons (.int _ _) .nil)))))))) .nil
  have hrun := runs_calls ppF ppF2 okTW (rTW y mo d hh mi s ns) Tryz.func3 (by rfl) hg hgl ha
  refine hrun.mono fun e W' ⟨v', he, H', g', hv, hE⟩ => ?_
  subst he
  cases hv
  have hk := ext_keeps beneath.ro hE
  refine ChangeSpec.post_blind ?_
  refine ⟨_, _, _, [], [], [], hW', trodAll_mk1 (shut_bool Tryz.underlying4 _), ?_, ?_, keptBut_of_heap hE.os hE.output hk, fun h => by cases h⟩
  · obtain ⟨_, _, _, _, _, _, _, _, _, hr⟩ := dt_any (W' := W') (b' := 0) (sp' := fun b => decide (b < W.heap.size)) (hd' := true) hf
    exact trodAll_mk1 ⟨3, hr⟩
  · rfl

theorem cfn : Tryz.prog.funcNamed Rows.textWritesRow.func = some 3 := by kernel_rfl
theorem cin : Tryz.f3.isInstance Tryz.prog Rows.textWritesRow.origin Rows.textWritesRow.targs := of_decide_eq_true (by kernel_rfl)
theorem cwr : Tryz.f3.isWrapper Tryz.prog Rows.textWritesRow.wrapper Rows.textWritesRow.mainSum := by unfold Func.isWrapper; first | (rw [if_pos (by decide +kernel)]; kernel_rfl) | (rw [if_neg (by decide +kernel)]; exact ⟨rfl, rfl⟩)
theorem textWrites_holds : Rows.TextWritesSaid :=
  OpenClaim.holds_of_wide 3 Tryz.f3 rfl rfl rfl rfl rfl rfl rfl ⟨rfl, rfl, rfl, rfl, rfl⟩ rfl rfl rfl rfl rfl cfn Tryz.func3 jf
    cin cwr (fun os started H enc _ => lifted os started H enc)
theorem cwf : Rows.textWritesRow.wfByText (OpenSpec.ofChange Rows.textWritesSpec) = true := by kernel_rfl
theorem cmain : Tryz.prog.mainIs = some (true, "226e82147cd49771b39619370f595fb43fdf73e3eb411478f44ec89195194eae".toList) := by kernel_rfl
theorem clooks : true = Tryz.prog.looks [] := by kernel_rfl
theorem cstand : ([27].all fun u => !Tryz.prog.wantsStandIn u) = true := by kernel_rfl
theorem cgoes : false = Rows.textWritesRow.goesBy Tryz.prog := by kernel_rfl
theorem textWritesCard_holds : Rows.TextWritesCardSaid :=
  Claim7.holds_tied_plain_at .later [] [.data, .data, .data, .data, .data, .data, .pinned, .pinned] true (true, "226e82147cd49771b39619370f595fb43fdf73e3eb411478f44ec89195194eae") true textWrites_holds (fun _ h => by cases h) cwf (fun _ h => by cases h) textWrites_row_tie rfl ⟨rfl, rfl⟩ cmain rfl
    (fun f fn hf hfn => by
      obtain rfl : f = 3 := Option.some.inj (cfn.symm.trans hf) |>.symm
      obtain rfl : fn = Tryz.f3 := (Option.some.inj (Tryz.func3.symm.trans hfn)).symm
      exact ⟨clooks, fun j t ht => by
        rw [Tryz.params3] at ht
        have hm : t ∈ [27] := by simpa using Array.mem_of_getElem? ht
        exact (show Tryz.prog.wantsStandIn t = false by simpa using List.all_eq_true.1 cstand t hm)⟩)
    cgoes
#print axioms textWritesCard_holds
end Go.Proofs.YtbfefcmhciimcaaGreatDoor
end
