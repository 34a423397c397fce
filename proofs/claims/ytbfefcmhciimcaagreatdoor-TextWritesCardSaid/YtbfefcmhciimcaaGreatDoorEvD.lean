/- The evaluator is true of code, loops and calls; what is known of a call beforehand. -/
import Derived.Laws.Externs
import Derived.Laws.LoneSync
import Derived.Lib.Bytealg
import Derived.Lib.MakeNoZero
import Derived.RangeFuncRecord
import Derived.Test.YtbfefcmhciimcaaGreatDoorEvC
section
set_option linter.unusedSimpArgs false
set_option linter.unusedVariables false
set_option maxHeartbeats 1000000
namespace Go.Ev
variable {P : Program} {T : Tab} {α : Type}

theorem PendOrd.last {listed : Array Bool} {B : Array Nat} : ∀ {l : List Pe}, PendOrd listed B l → l ≠ [] → ∃ p ∈ l, ∀ q, bit (B.getD p.i 0) q = true → listed.getD q false = true
  | [], _, h => absurd rfl h
  | [p], h, _ => ⟨p, List.mem_cons_self .., fun q hq => (h.1 q hq).elim id (fun ⟨r, hr, _⟩ => by simp at hr)⟩
  | p :: q :: l, h, _ => by
    obtain ⟨r, hr, hh⟩ := PendOrd.last h.2 (by simp)
    exact ⟨r, List.mem_cons_of_mem _ hr, hh⟩

theorem getD_tf {listed : Array Bool} {i : Nat} (hi : i < listed.size) (h : listed.getD i false = false) : listed.getD i true = false := by
  simpa [Array.getD, hi] using h
theorem getD_ft {listed : Array Bool} {i : Nat} (h : listed.getD i true = false) : listed.getD i false = false := by
  simp only [Array.getD_eq_getD_getElem?] at *
  cases e : listed[i]? with
  | none => rw [e] at h; cases h
  | some x => rw [e] at h; simpa using h

section
variable {call : Fn → List Value → Hp → (Value → Hp → Option α) → Option α} {fx : Fx} {ops : Array Oper} {B : Array Nat} {K : Env → Hp → Option α} {r : α} {b : Frame} {n0 : Nat} {g0 : GM} {H0 : Hp} {w0 : World}

theorem DInv.adv_to (F : Facts P T) {i : Nat} {un : List Nat} {suf2 : List (Nat × List Nat)} {listed : Array Bool} (hr : ∀ q, bit (B.getD i 0) q = true → listed.getD q false = true) :
    ∀ (suf1 : List (Nat × List Nat)) {pend : List Pe} {s : Env} {H : Hp} {g : GM} {l : LM} {w : World} {a : Act}, DInv P T call fx ops B K r b n0 g0 H0 w0 listed (suf1 ++ (i, un) :: suf2) pend s H g l w a →
    ∃ pend' s' H', DInv P T call fx ops B K r b n0 g0 H0 w0 listed ((i, un) :: suf2) pend' s' H' g l w a ∧ pend'.length = pend.length + suf1.length
  | [], pend, s, H, g, l, w, a, h => ⟨pend, s, H, h, rfl⟩
  | (j, uj) :: suf1, pend, s, H, g, l, w, a, h => by
    have hj : isEff P (ops.getD j default).op = false := by
      cases hE : isEff P (ops.getD j default).op with
      | false => rfl
      | true =>
        obtain ⟨mask, hU, hO, hD, o1, _⟩ := h.st
        simp only [List.cons_append, List.map_cons, ordOk, hE, Bool.and_eq_true] at o1
        have o2 := o1.1.2
        rw [Bool.not_true, Bool.false_or] at o2
        have := List.all_eq_true.1 o2 i (by simp)
        have h1 := hr j this
        rw [h.unl.2 j (by simp)] at h1
        cases h1
    obtain ⟨p, s1, H1, _, h1⟩ := DInv.adv F h hj
    obtain ⟨pend', s', H', h2, hl⟩ := DInv.adv_to F hr suf1 h1
    exact ⟨pend', s', H', h2, by rw [hl]; simp; omega⟩

theorem draw_go (F : Facts P T) (hC : CallOk P T call) (hops : opsOk T ops.toList = true) (hbef : befOk ops B = true) {cs : List Frame} (hk : KindOk b.kind cs) (k : List Item) :
    ∀ (fuel t : Nat) {listed : Array Bool} {suf : List (Nat × List Nat)} {pend : List Pe} {s : Env} {H : Hp} {g : GM} {l : LM} {w : World} {a : Act}, DInv P T call fx ops B K r b n0 g0 H0 w0 listed suf pend s H g l w a → pend.length + suf.length ≤ fuel →
    ∃ s' H', K s' H' = some r ∧ ∃ g' l' w' a', Steps P (lone (b.atR a (.inRegion ops (Region.linearise.go .any ops fuel t listed []) :: k)) cs w) (lone (b.atR a' k) cs w') ∧ FR P T g' l' s' H' w' a' n0 (fun _ => False) ∧ Ext P T (n0 ≤ ·) g0 H0 w0 g' H' w' := by
  have done : ∀ {listed : Array Bool} {suf : List (Nat × List Nat)} {pend : List Pe} {s : Env} {H : Hp} {g : GM} {l : LM} {w : World} {a : Act}, DInv P T call fx ops B K r b n0 g0 H0 w0 listed suf pend s H g l w a → suf = [] → pend = [] →
      ∃ s' H', K s' H' = some r ∧ ∃ g' l' w' a', Steps P (lone (b.atR a (.inRegion ops [] :: k)) cs w) (lone (b.atR a' k) cs w') ∧ FR P T g' l' s' H' w' a' n0 (fun _ => False) ∧ Ext P T (n0 ≤ ·) g0 H0 w0 g' H' w' := by
    intro listed suf pend s H g l w a h h1 h2
    subst h1; subst h2
    obtain ⟨lds, hev, _⟩ := h.ev
    exact ⟨s, H, hev, g, l, w, a, .one stepR_region_end, h.fr.weak (fun t ⟨p, hp, _⟩ => by simp at hp), h.ext⟩
  intro fuel
  induction fuel with
  | zero =>
    intro t listed suf pend s H g l w a h hl
    exact done h (List.eq_nil_of_length_eq_zero (by omega)) (List.eq_nil_of_length_eq_zero (by omega))
  | succ fuel ih =>
    intro t listed suf pend s H g l w a h hl
    simp only [Region.linearise.go]
    change ∃ s' H', K s' H' = some r ∧ ∃ g' l' w' a', Steps P (lone (b.atR a (.inRegion ops (match (Region.ready .any ops listed)[t % (Region.ready .any ops listed).length]? with
      | some i => Region.linearise.go .any ops fuel (t / (Region.ready .any ops listed).length) (listed.setIfInBounds i true) [i]
      | none => [].reverse) :: k)) cs w) (lone (b.atR a' k) cs w') ∧ FR P T g' l' s' H' w' a' n0 (fun _ => False) ∧ Ext P T (n0 ≤ ·) g0 H0 w0 g' H' w'
    have hready : ∀ i, i < ops.size → listed.getD i false = false → (∀ q, bit (B.getD i 0) q = true → listed.getD q false = true) → i ∈ Region.ready .any ops listed := by
      intro i hi hu hb
      rw [mem_ready]
      have ho : ops[i]? = some ops[i] := Array.getElem?_eq_getElem hi
      refine ⟨getD_tf (by rw [h.sz]; exact hi) hu, ops[i], ho, fun e he hbd => hb e.on ?_⟩
      exact (befOk_iff hbef ho e.on).2 ⟨e, he, hbd, .inl rfl⟩
    cases hi : (Region.ready .any ops listed)[t % (Region.ready .any ops listed).length]? with
    | none =>
      have hnil : Region.ready .any ops listed = [] := by
        cases hr : Region.ready .any ops listed with
        | nil => rfl
        | cons x xs =>
          rw [hr] at hi
          have hlt : t % (x :: xs).length < (x :: xs).length := Nat.mod_lt _ (by simp)
          rw [List.getElem?_eq_getElem hlt] at hi
          cases hi
      have hp : pend = [] := by
        cases hpe : pend with
        | nil => rfl
        | cons p0 pl =>
          exfalso
          obtain ⟨p, hp, hb⟩ := h.po.last (by rw [hpe]; simp)
          obtain ⟨lds, _, hok⟩ := h.ev
          have := hready p.i (lt_of_some (hok p hp).o) (h.unl.1 p hp) hb
          rw [hnil] at this; simp at this
      have hs : suf = [] := by
        cases hsf : suf with
        | nil => rfl
        | cons x xs =>
          exfalso
          obtain ⟨i, un⟩ := x
          subst hp
          subst hsf
          obtain ⟨mask, hU, hO, hD, o1, _, _, _, o5, _⟩ := h.st
          simp only [List.map_cons, ordOk, Bool.and_eq_true, decide_eq_true_eq] at o1
          obtain ⟨⟨⟨⟨q1, q2⟩, q3⟩, q4⟩, q5⟩ := o1
          have := hready i q1 (h.unl.2 i (by simp)) (fun q hq => by
            rcases o5 q (bit_and (by simpa using q3) hq) with e | ⟨p, hp, _⟩
            · exact e
            · simp at hp)
          rw [hnil] at this; simp at this
      exact done h hs hp
    | some i =>
      simp only []
      rw [linearise_go_acc, List.reverse_singleton, List.singleton_append]
      have him := List.mem_of_getElem? hi
      rw [mem_ready] at him
      obtain ⟨hu, o, ho, hed⟩ := him
      have hu := getD_ft hu
      have hr : ∀ q, bit (B.getD i 0) q = true → listed.getD q false = true := by
        intro q hq
        obtain ⟨e, he, hb, e1 | e1⟩ := (befOk_iff hbef ho q).1 hq
        · rw [← e1]; exact hed e he hb
        · exact h.cl e.on (hed e he hb) q e1
      have hexec : ∀ {pend : List Pe} {suf : List (Nat × List Nat)} {s : Env} {H : Hp} {g : GM} {l : LM} {w : World} {a : Act} (_ : DInv P T call fx ops B K r b n0 g0 H0 w0 listed suf pend s H g l w a) (p : Pe) (_ : p ∈ pend) (_ : p.i = i) (_ : pend.length + suf.length ≤ fuel + 1),
          ∃ s' H', K s' H' = some r ∧ ∃ g' l' w' a', Steps P (lone (b.atR a (.inRegion ops (i :: Region.linearise.go .any ops fuel (t / (Region.ready .any ops listed).length) (listed.setIfInBounds i true) []) :: k)) cs w) (lone (b.atR a' k) cs w') ∧ FR P T g' l' s' H' w' a' n0 (fun _ => False) ∧ Ext P T (n0 ≤ ·) g0 H0 w0 g' H' w' := by
        intro pend suf s H g l w a h p hp hpi hl
        obtain ⟨g1, l1, w1, a1, hst, h1⟩ := h.exec hops hp (by rw [hpi]; exact hr) (Region.linearise.go .any ops fuel (t / (Region.ready .any ops listed).length) (listed.setIfInBounds i true) []) k cs
        rw [hpi] at hst h1
        have hlen : (pend.filter fun q => !(Nat.beq q.i i)).length < pend.length := by
          refine List.length_filter_lt_length_iff_exists.2 ⟨p, hp, ?_⟩
          rw [hpi]; simp
        obtain ⟨s', H', hK, g', l', w', a', hst', hF, hE⟩ := ih (t / (Region.ready .any ops listed).length) h1 (by omega)
        exact ⟨s', H', hK, g', l', w', a', .head hst hst', hF, hE⟩
      rcases h.cov i (lt_of_some ho) with e | ⟨p, hp, hpi⟩ | hsf
      · rw [hu] at e; cases e
      · exact hexec h p hp hpi hl
      · obtain ⟨x, hx, hxi⟩ := List.mem_map.1 hsf
        obtain ⟨i', un⟩ := x
        simp only at hxi
        subst hxi
        obtain ⟨suf1, suf2, rfl⟩ := List.append_of_mem hx
        obtain ⟨pend1, s1, H1, h1, hl1⟩ := DInv.adv_to F hr suf1 h
        simp only [List.length_append, List.length_cons] at hl
        cases hE : isEff P (ops.getD i' default).op with
        | true =>
          obtain ⟨s2, H2, g2, l2, w2, a2, hst, h2⟩ := DInv.eff F hC hops h1 hE hr hk (Region.linearise.go .any ops fuel (t / (Region.ready .any ops listed).length) (listed.setIfInBounds i' true) []) k
          obtain ⟨s', H', hK, g', l', w', a', hst', hF, hE⟩ := ih (t / (Region.ready .any ops listed).length) h2 (by omega)
          exact ⟨s', H', hK, g', l', w', a', Steps.trans hst hst', hF, hE⟩
        | false =>
          obtain ⟨p, s2, H2, hpi, h2⟩ := DInv.adv F h1 hE
          exact hexec h2 p (List.mem_cons_self ..) hpi (by simp; omega)

/-- A region that draws. -/
theorem draw_ok (F : Facts P T) (hC : CallOk P T call) (hm : P.follows .mixedOrders = true) {l0 : List (Nat × List Nat)} (hreg : regOk P ops l0 = true) (hops : opsOk T ops.toList = true) {cs : List Frame} (hk : KindOk b.kind cs) (k : List Item) {id : Nat}
    {s : Env} {H : Hp} {K : Env → Hp → Option α} {r : α} (h : eopsD P T call fx ops l0 [] s H K = some r) {g : GM} {l : LM} {w : World} {a : Act} (hF : FR P T g l s H w a n0 (fun _ => False)) (hb : FxR g fx b) (hn : n0 ≤ w.heap.size) :
    ∃ s' H', K s' H' = some r ∧ ∃ g' l' w' a', Steps P (lone (b.atR a (.code (.region id ops true) :: k)) cs w) (lone (b.atR a' k) cs w') ∧ FR P T g' l' s' H' w' a' n0 (fun _ => False) ∧ Ext P T (n0 ≤ ·) g H w g' H' w' := by
  simp only [regOk, Bool.and_eq_true, Nat.beq_eq] at hreg
  obtain ⟨⟨⟨⟨⟨⟨b1, b2⟩, b3⟩, b4⟩, b5⟩, b6⟩, b7⟩ := hreg
  have hgr : ∀ {g : GM} {H : Hp}, GR P T g H w → GR P T g H w.drew := fun h => ⟨h.dom, h.lt, h.obj, h.inj⟩
  have hmr : MR P T g l s.ls H w.drew := ⟨hgr hF.mr.gr, hF.mr.lc, hF.mr.li⟩
  have hF' : FR P T g l s H w.drew a n0 (fun t => ∃ p ∈ ([] : List Pe), p.o.dst = some t) := { hF with mr := hmr, ts := fun t v _ e => hF.ts t v (fun q => q.1) e }
  have hE : Ext P T (n0 ≤ ·) g H w g H w.drew := ⟨g.le_refl, hgr hF.mr.gr, Nat.le_refl _, fun _ _ h => .inl h, fun _ _ _ => rfl, fun _ _ h => h, Nat.le_refl _, fun _ _ _ _ => rfl, rfl, rfl, rfl, fun _ _ _ _ h _ => ⟨h, rfl⟩⟩
  have hfalse : ∀ i, (Array.replicate ops.size false).getD i false = false := fun i => by
    rw [Array.getD_eq_getD_getElem?, Array.getElem?_replicate]; split <;> rfl
  have hinv : DInv P T call fx ops (Region.before ops) K r b n0 g H w (Array.replicate ops.size false) l0 [] s H g l w.drew a := by
    refine ⟨⟨[], h, fun p hp => by simp at hp⟩, hF', hb, hE, hn, .nil, trivial, ⟨0, [], [], [], b3, b4, b5, b6, fun q hq => by simp [bit] at hq, fun p hp => by simp at hp⟩, fun i hi => ?_, fun i hi => ?_, ⟨fun p hp => by simp at hp, fun i _ => hfalse i⟩, by simp, hF.mr.gr⟩
    · rw [hfalse i] at hi; cases hi
    · exact .inr (.inr (memN_iff.1 (List.all_eq_true.1 b2 i (List.mem_range.2 hi))))
  obtain ⟨s', H', hK, g', l', w', a', hst, hF2, hE2⟩ := draw_go F hC hops b1 hk k ops.size (w.tape w.drawn (.order b.fn id)) hinv (by simp [b7])
  refine ⟨s', H', hK, g', l', w', a', .head stepR_region_draw ?_, hF2, hE2⟩
  simp only [Region.schedule, hm, Bool.true_or, if_true]
  exact hst
end

end Go.Ev
end
section
set_option linter.unusedSimpArgs false
set_option linter.unusedVariables false
set_option maxHeartbeats 1000000
namespace Go.Ev
variable {P : Program} {T : Tab} {α : Type}

/-! ### What lies in the frame alone is forgotten -/
def LM.drop (l : LM) (t : Tmp) : LM := fun x => if x = t then none else l x
theorem LM.drop_some {l : LM} {t x : Tmp} {c : Nat} (h : LM.drop l t x = some c) : x ≠ t ∧ l x = some c := by
  unfold LM.drop at h
  split at h
  · cases h
  · exact ⟨‹_›, h⟩

theorem VR.drop {g : GM} {l : LM} {t : Tmp} {v v' : Value} (h : VR g l v v') (hp : pointsTo t v = false) : VR g (LM.drop l t) v v' := by
  have key : ∀ {a : Addr}, a.spot ≠ none → (match a.spot with | some _ => Nat.beq a.block t | none => false) = false → LM.drop l t a.block = l a.block := by
    intro a hs hq
    cases e : a.spot with
    | none => exact absurd e hs
    | some x =>
      rw [e] at hq
      have := beq_false.1 hq
      simp [LM.drop, this]
  cases h with
  | g h => exact .g h
  | ptr h => exact .ptr ⟨h.1, h.2.1, by rw [key h.1 hp]; exact h.2.2.1, h.2.2.2⟩
  | slc h hc => exact .slc ⟨h.1, h.2.1, by rw [key h.1 hp]; exact h.2.2.1, h.2.2.2⟩ hc
  | slcE h hb hc => exact .slcE ⟨h.1, h.2.1, by rw [key h.1 hp]; exact h.2.2⟩ hb hc

abbrev noT : Tmp → Prop := fun _ => False

theorem killL_ok {g : GM} {l : LM} {s : Env} {H : Hp} {w : World} {a : Act} {n0 : Nat} (h : FR P T g l s H w a n0 noT) (t : Tmp) : ∃ l', FR P T g l' (killL s t) H w a n0 noT ∧ (killL s t).nt = s.nt := by
  obtain ⟨n, ts, ls, ds⟩ := s
  unfold killL
  simp only
  split
  · rename_i c hc
    refine ⟨LM.drop l t, ⟨⟨h.mr.gr, fun x c e => ?_, fun x y c e1 e2 => h.mr.li x y c (LM.drop_some e1).2 (LM.drop_some e2).2⟩, fun u v _ hv => ?_, h.nt, h.ds, fun x c e => h.lo x c (LM.drop_some e).2, h.gl⟩, rfl⟩
    · obtain ⟨hne, e⟩ := LM.drop_some e
      obtain ⟨p, q, cs, r, z⟩ := h.mr.lc x c e
      exact ⟨p, q, cs, by rw [TT.get_set_ne _ _ _ _ (Ne.symm hne)]; exact r, z⟩
    · simp only [TT.get_map] at hv
      cases e : ts.get u with
      | none => rw [e] at hv; cases hv
      | some v0 =>
        rw [e] at hv
        simp only [Option.map_some, Option.some.injEq] at hv
        have h0 := h.ts u v0 (fun q => q.1) e
        cases hp : pointsTo t v0 with
        | true => rw [hp] at hv; simp only at hv; rw [← hv]; exact .g (.top _)
        | false => rw [hp] at hv; simp only at hv; rw [← hv]; exact h0.drop hp
  · exact ⟨l, h, rfl⟩

theorem killLs_ok {g : GM} {H : Hp} {w : World} {a : Act} {n0 : Nat} : ∀ (ts : List Tmp) {l : LM} {s : Env}, FR P T g l s H w a n0 noT → ∃ l', FR P T g l' (killLs s ts) H w a n0 noT
  | [], l, s, h => ⟨l, h⟩
  | t :: ts, l, s, h => by
    obtain ⟨l', h', _⟩ := killL_ok h t
    exact killLs_ok ts h'

theorem setTop_ok {g : GM} {l : LM} {s : Env} {H : Hp} {w : World} {a : Act} {n0 : Nat} (h : FR P T g l s H w a n0 noT) (t : Tmp) : FR P T g l (setT s t topV) H w a n0 noT where
  mr := by rw [show (setT s t topV).ls = s.ls from setD_ls s (some t) topV]; exact h.mr
  ts u v hn hv := by
    rw [setT_get] at hv
    split at hv
    · cases e : s.ts.get u with
      | none => rw [e] at hv; cases hv
      | some x => rw [e] at hv; simp at hv; rw [← hv]; exact .g (.top _)
    · exact h.ts u v (fun q => q.1) hv
  nt := by rw [show (setT s t topV).nt = s.nt from setD_nt s (some t) topV]; exact h.nt
  ds := by rw [show (setT s t topV).ds = s.ds from setD_ds s (some t) topV]; exact h.ds
  lo := h.lo
  gl := h.gl

theorem scrub_ok {g : GM} {H : Hp} {w : World} {a : Act} {n0 : Nat} : ∀ (ts : List Tmp) {l : LM} {s : Env}, FR P T g l s H w a n0 noT → ∃ l', FR P T g l' (scrub s ts) H w a n0 noT
  | [], l, s, h => ⟨l, h⟩
  | t :: ts, l, s, h => by
    obtain ⟨l', h', _⟩ := killL_ok h t
    exact scrub_ok ts (setTop_ok h' t)

/-! ### Regions -/
theorem eregion_ok (F : Facts P T) (hm : P.follows .mixedOrders = true) {call : Fn → List Value → Hp → (Value → Hp → Option α) → Option α} (hC : CallOk P T call) {fx : Fx} {b : Frame} {cs : List Frame} (hk : KindOk b.kind cs) (k : List Item) {n0 : Nat}
    {id : Nat} {ops : Array Oper} {draw : Bool} (hcode : codeOk P T fx.fn (.region id ops draw) = true) {s : Env} {H : Hp} {K : Env → Hp → Option α} {r : α} (h : eregion P T call fx id ops draw s H K = some r)
    {g : GM} {l : LM} {w : World} {a : Act} (hF : FR P T g l s H w a n0 noT) (hb : FxR g fx b) (hn : n0 ≤ w.heap.size) :
    ∃ s' H', K s' H' = some r ∧ ∃ g' l' w' a', Steps P (lone (b.atR a (.code (.region id ops draw) :: k)) cs w) (lone (b.atR a' k) cs w') ∧ FR P T g' l' s' H' w' a' n0 noT ∧ Ext P T (n0 ≤ ·) g H w g' H' w' := by
  simp only [codeOk, Bool.and_eq_true] at hcode
  obtain ⟨l1, hF1⟩ := killLs_ok (mkTs T fx.fn ops.toList) hF
  unfold eregion at h
  cases draw with
  | false =>
    dsimp only at h
    obtain ⟨s', H', hK, g', l', w', a', hst, hF', hE⟩ := eops_ok F hC hcode.1 hk k ops.toList 0 rfl h hF1 hb hn
    refine ⟨s', H', hK, g', l', w', a', .head stepR_region ?_, hF', hE⟩
    rw [List.range_eq_range']
    simpa using hst
  | true =>
    dsimp only at h
    split at h
    · rename_i l0 hl
      have hreg : regOk P ops l0 = true := by
        have := hcode.2
        dsimp only at this
        rw [hl] at this
        exact this
      exact draw_ok F hC hm hreg hcode.1 hk k h hF1 hb hn
    · cases h

end Go.Ev
end
section
set_option linter.unusedSimpArgs false
set_option linter.unusedVariables false
set_option maxHeartbeats 1000000
namespace Go.Ev
variable {P : Program} {T : Tab} {α : Type}

/-! ### Code -/
/-- Where a piece of code has been left. -/
def LeftAt (e : Ex) (k k' : List Item) : Prop :=
  match e with
  | .normal => k' = k
  | .exit id => ∃ k1, k' = .code (.exit id) :: k1 ∧ exitTo id k1 = exitTo id k
  | .ret => ∃ k1, k' = .code .ret :: k1

/-- A piece does what the evaluator says. -/
def PieceR (P : Program) (T : Tab) (fx : Fx) (b : Frame) (cs : List Frame) (n0 : Nat) (it : Item) (body : Env → Hp → (Ex → Env → Hp → Option α) → Option α) : Prop :=
  ∀ (k : List Item) (s : Env) (H : Hp) (K : Ex → Env → Hp → Option α) (r : α), body s H K = some r → ∀ (g : GM) (l : LM) (w : World) (a : Act), FR P T g l s H w a n0 noT → FxR g fx b → n0 ≤ w.heap.size →
    ∃ e s' H', K e s' H' = some r ∧ ∃ g' l' w' a' k', Steps P (lone (b.atR a (it :: k)) cs w) (lone (b.atR a' k') cs w') ∧ LeftAt e k k' ∧ FR P T g' l' s' H' w' a' n0 noT ∧ Ext P T (n0 ≤ ·) g H w g' H' w'

section
variable {fx : Fx} {b : Frame} {cs : List Frame} {n0 : Nat}

theorem piece_seq {x y : Code} {A B : Env → Hp → (Ex → Env → Hp → Option α) → Option α} (hA : PieceR P T fx b cs n0 (.code x) A) (hB : PieceR P T fx b cs n0 (.code y) B) :
    PieceR P T fx b cs n0 (.code (.seq x y)) (fun s H K => A s H (fun e s H => match e with | .normal => B s H K | e => K e s H)) := by
  intro k s H K r h g l w a hF hb hn
  obtain ⟨e, s1, H1, hK, g1, l1, w1, a1, k1, hst, hl, hF1, hE1⟩ := hA (.code y :: k) s H _ r h g l w a hF hb hn
  cases e with
  | normal =>
    obtain rfl : k1 = .code y :: k := hl
    obtain ⟨e, s2, H2, hK2, g2, l2, w2, a2, k2, hst2, hl2, hF2, hE2⟩ := hB k s1 H1 K r hK g1 l1 w1 a1 hF1 (hb.mono hE1.le) (Nat.le_trans hn hE1.size)
    exact ⟨e, s2, H2, hK2, g2, l2, w2, a2, k2, .head stepR_seq (Steps.trans hst hst2), hl2, hF2, hE1.trans hF.mr.gr hE2⟩
  | exit id => exact ⟨.exit id, s1, H1, hK, g1, l1, w1, a1, k1, .head stepR_seq hst, hl, hF1, hE1⟩
  | ret => exact ⟨.ret, s1, H1, hK, g1, l1, w1, a1, k1, .head stepR_seq hst, hl, hF1, hE1⟩

theorem piece_loop {c : Code} {sc : List Tmp} {A : Env → Hp → (Ex → Env → Hp → Option α) → Option α} (hA : PieceR P T fx b cs n0 (.code c) A) :
    ∀ (m : Nat) (it : Item), (∀ a k w, step P (lone (b.atR a (it :: k)) cs w) = .next (lone (b.atR a (.code c :: .inLoop c :: k)) cs w)) → PieceR P T fx b cs n0 it (eloop sc A m)
  | 0, it, hit => by intro k s H K r h; cases h
  | m + 1, it, hit => by
    intro k s H K r h g l w a hF hb hn
    obtain ⟨l0, hF0⟩ := scrub_ok sc hF
    obtain ⟨e, s1, H1, hK, g1, l1, w1, a1, k1, hst, hl, hF1, hE1⟩ := hA (.inLoop c :: k) (scrub s sc) H _ r h g l0 w a hF0 hb hn
    cases e with
    | normal =>
      obtain rfl : k1 = .inLoop c :: k := hl
      obtain ⟨e, s2, H2, hK2, g2, l2, w2, a2, k2, hst2, hl2, hF2, hE2⟩ := piece_loop hA m (.inLoop c) (fun _ _ _ => stepR_inLoop) k s1 H1 K r hK g1 l1 w1 a1 hF1 (hb.mono hE1.le) (Nat.le_trans hn hE1.size)
      exact ⟨e, s2, H2, hK2, g2, l2, w2, a2, k2, .head (hit a k w) (Steps.trans hst hst2), hl2, hF2, hE1.trans hF.mr.gr hE2⟩
    | exit id => exact ⟨.exit id, s1, H1, hK, g1, l1, w1, a1, k1, .head (hit a k w) hst, hl, hF1, hE1⟩
    | ret => exact ⟨.ret, s1, H1, hK, g1, l1, w1, a1, k1, .head (hit a k w) hst, hl, hF1, hE1⟩

theorem piece_block {id : Nat} {c : Code} {A : Env → Hp → (Ex → Env → Hp → Option α) → Option α} (hA : PieceR P T fx b cs n0 (.code c) A) :
    PieceR P T fx b cs n0 (.code (.block id c)) (fun s H K => A s H (fun e s H => match e with
      | .exit i => (match Nat.beq i id with | true => K .normal s H | false => K (.exit i) s H)
      | e => K e s H)) := by
  intro k s H K r h g l w a hF hb hn
  obtain ⟨e, s1, H1, hK, g1, l1, w1, a1, k1, hst, hl, hF1, hE1⟩ := hA (.inBlock id :: k) s H _ r h g l w a hF hb hn
  cases e with
  | normal =>
    obtain rfl : k1 = .inBlock id :: k := hl
    exact ⟨.normal, s1, H1, hK, g1, l1, w1, a1, k, .head stepR_block (Steps.trans hst (.one stepR_inBlock)), rfl, hF1, hE1⟩
  | exit i =>
    obtain ⟨k2, rfl, hx⟩ := hl
    dsimp only at hK
    cases hi : Nat.beq i id with
    | true =>
      rw [hi] at hK
      have hi := Nat.eq_of_beq_eq_true hi
      subst hi
      have hx' : exitTo i k2 = some k := by rw [hx]; simp [exitTo]
      exact ⟨.normal, s1, H1, hK, g1, l1, w1, a1, k, .head stepR_block (Steps.trans hst (.one (stepR_exit hx'))), rfl, hF1, hE1⟩
    | false =>
      rw [hi] at hK
      have hi := beq_false.1 hi
      refine ⟨.exit i, s1, H1, hK, g1, l1, w1, a1, _, .head stepR_block hst, ⟨k2, rfl, ?_⟩, hF1, hE1⟩
      rw [hx]
      have : (id == i) = false := by simpa using Ne.symm hi
      simp [exitTo, this]
  | ret => exact ⟨.ret, s1, H1, hK, g1, l1, w1, a1, k1, .head stepR_block hst, hl, hF1, hE1⟩

theorem stepR_scope {c : Code} {a : Act} {k : List Item} {w : World} : step P (lone (b.atR a (.code (.scope c) :: k)) cs w) = .next (lone (b.atR a (.code c :: .inScope c :: k)) cs w) :=
  step_lone_go (by simp [stepG, stepG.exec, Frame.atR])
theorem stepR_inScope {c : Code} {a : Act} {k : List Item} {w : World} : step P (lone (b.atR a (.inScope c :: k)) cs w) = .next (lone (b.atR a k) cs w) :=
  step_lone_go (by simp [stepG, stepG.exec, Frame.atR])

theorem piece_scope {c : Code} {A : Env → Hp → (Ex → Env → Hp → Option α) → Option α} (hA : PieceR P T fx b cs n0 (.code c) A) : PieceR P T fx b cs n0 (.code (.scope c)) A := by
  intro k s H K r h g l w a hF hb hn
  obtain ⟨e, s1, H1, hK, g1, l1, w1, a1, k1, hst, hl, hF1, hE1⟩ := hA (.inScope c :: k) s H _ r h g l w a hF hb hn
  cases e with
  | normal =>
    obtain rfl : k1 = .inScope c :: k := hl
    exact ⟨.normal, s1, H1, hK, g1, l1, w1, a1, k, .head stepR_scope (Steps.trans hst (.one stepR_inScope)), rfl, hF1, hE1⟩
  | exit i => exact ⟨.exit i, s1, H1, hK, g1, l1, w1, a1, k1, .head stepR_scope hst, hl, hF1, hE1⟩
  | ret => exact ⟨.ret, s1, H1, hK, g1, l1, w1, a1, k1, .head stepR_scope hst, hl, hF1, hE1⟩

theorem cond_ev {g : GM} {l : LM} {s : Env} {H : Hp} {w : World} {a : Act} {c : Operand} {t : Bool} (hF : FR P T g l s H w a n0 noT) (h : ev s c = .bool t) : a.eval c = .bool t ∧ SameE s (fixT s c t) := by
  cases c with
  | tmp u =>
    have h : (match s.ts.get u with | some v => v | none => topV) = .bool t := h
    cases e : s.ts.get u with
    | none => rw [e] at h; cases h
    | some v =>
      rw [e] at h
      have h : v = .bool t := h
      subst h
      exact ⟨(hF.ts u _ (fun q => q.1) e).bool, setT_same e⟩
  | const v =>
    have h : cst v = .bool t := h
    have := cst_vg g v
    rw [h] at this
    cases this
    exact ⟨rfl, SameE.refl s⟩
  | global b => cases h
  | func f => cases h

theorem piece_cond {c : Operand} {x y : Code} {A B : Env → Hp → (Ex → Env → Hp → Option α) → Option α} (hA : PieceR P T fx b cs n0 (.code x) A) (hB : PieceR P T fx b cs n0 (.code y) B) :
    PieceR P T fx b cs n0 (.code (.cond c x y)) (fun s H K => match ev s c with
      | .bool t => (match t with | true => A (fixT s c true) H K | false => B (fixT s c false) H K)
      | _ => none) := by
  intro k s H K r h g l w a hF hb hn
  dsimp only at h
  split at h
  · rename_i t ht
    cases t with
    | true =>
      obtain ⟨h1, h2⟩ := cond_ev hF ht
      obtain ⟨e, s1, H1, hK, g1, l1, w1, a1, k1, hst, hl, hF1, hE1⟩ := hA k _ H K r h g l w a (hF.same h2) hb hn
      exact ⟨e, s1, H1, hK, g1, l1, w1, a1, k1, .head (stepR_cond h1) hst, hl, hF1, hE1⟩
    | false =>
      obtain ⟨h1, h2⟩ := cond_ev hF ht
      obtain ⟨e, s1, H1, hK, g1, l1, w1, a1, k1, hst, hl, hF1, hE1⟩ := hB k _ H K r h g l w a (hF.same h2) hb hn
      exact ⟨e, s1, H1, hK, g1, l1, w1, a1, k1, .head (stepR_cond h1) hst, hl, hF1, hE1⟩
  · cases h
end

/-! ### A range over a function -/
section
variable {b : Frame} {a : Act} {k : List Item} {cs : List Frame} {w : World}
theorem stepR_rangeFunc_val {g : Operand} {ps : Array Tmp} {assign body : Code} {l : Nat} {mark : List Deferred} {w₁ w₁' w₂ : World} {d : Deferred} {v : Value}
    (he : (Instr.enterLoop b.fn a.tmps ps assign body b.roundOf).run P w = .ok (l, mark) w₁)
    (hres : (resolve a.eval (rangeCall g l) 0).run P w₁ = .ok d w₁') (hinv : (invoke d.target d.args).run P w₁' = .ok (.value v) w₂) :
    step P (lone (b.atR a (.code (.rangeFunc g ps assign body) :: k)) cs w) =
      .next (lone (b.atR { a with defers := mark ++ a.defers } (.endRangeFunc l :: k)) cs w₂) :=
  step_lone_go (by
    have hev := Frame.eval_atR b { a with defers := mark ++ a.defers } (.inRangeFunc l :: k)
    simp only [Frame.atR] at hev
    have hres' : Sem.run P (resolve ({ tmps := a.tmps, defers := mark ++ a.defers } : Act).eval { callee := .value g, args := #[.const (.func (.yield l) #[] #[])], argTypes := #[] } 0) w₁ = .ok d w₁' := hres
    simp [stepG, stepG.exec, Frame.atR, Sem.runT_eq, he, GStep.bare_after, stepG.apply, hev, Sem.run_bind, hres', hinv, Result.andThen, Frame.finish])
end

theorem run_enterLoop_in {w : World} {l₀ : Nat} {r₀ : Loop} (h : w.heap[l₀]? = some (.loop r₀)) (fn : FuncId) (tmps : Array Value) (ps : Array Tmp) (assign body : Code) :
    (Instr.enterLoop fn tmps ps assign body (some l₀)).run P w = .ok (w.heap.size, []) (w.alloc (.loop { state := .ready, pending := none, fn, tmps, params := ps, assign, body, defers := r₀.defers })) := by
  unfold Instr.enterLoop
  simp [Sem.run_bind, run_getLoop h, Result.andThen]

theorem Upd.putObj {w : World} {r : Nat} {o : Obj} (h : r < w.heap.size) : Upd w r o (w.putObj r o) := Upd.setBlk h o

theorem noL_vg {g : GM} {l : LM} {v v' : Value} (h : VR g l v v') : VG g (noL v) v' := by
  unfold noL
  split
  · exact h.nl (by assumption)
  · exact .top _

section
variable {call : Fn → List Value → Hp → (Value → Hp → Option α) → Option α} {fx : Fx} {b : Frame} {cs : List Frame} {n0 : Nat}

theorem rangeGo_ok (hC : CallOk P T call) {f : Operand} {ps : Array Tmp} {asg body : Code} (h1 : codeOk P T fx.fn asg = true) (h2 : codeOk P T fx.fn body = true) {n : FuncId} {p c p' c' : List Value} {d : Nat} {D : Nat} {mark : List Deferred}
    {s : Env} {H : Hp} {K : Ex → Env → Hp → Option α} {r : α} (h : rangeGo call fx.fn (.func n) p c ps.toList asg body d s H K = some r) {g : GM} {l : LM} {w0 w : World} {a : Act}
    (hF : FR P T g l s H w { a with defers := mark ++ a.defers } n0 noT) (hb : FxR g fx b) (hn : n0 ≤ w.heap.size) (hp : VGL g p p') (hc : VGL g c c') (hae : a.eval f = .func (.func n) ⟨p'⟩ ⟨c'⟩) (hd : ∃ i, g d = some i ∧ D = i.blk)
    (he : (Instr.enterLoop b.fn a.tmps ps asg body b.roundOf).run P w0 = .ok (w.heap.size, mark) (w.alloc (.loop { state := .ready, pending := none, fn := b.fn, tmps := a.tmps, params := ps, assign := asg, body := body, defers := D }))) (k : List Item) :
    ∃ e s' H', K e s' H' = some r ∧ ∃ g' l' w' a' k', Steps P (lone (b.atR a (.code (.rangeFunc f ps asg body) :: k)) cs w0) (lone (b.atR a' k') cs w') ∧ LeftAt e k k' ∧ FR P T g' l' s' H' w' a' n0 noT ∧ Ext P T (n0 ≤ ·) g H w g' H' w' := by
  unfold rangeGo at h
  split at h
  · cases h
  · rename_i hnl
    generalize hR0 : ({ state := .ready, pending := none, fn := b.fn, tmps := a.tmps, params := ps, assign := asg, body := body, defers := D } : Loop) = R0 at he
    have hobj : ∀ g', g.le g' → ObjR P T g' ⟨w.heap.size, 0, 0⟩ (.loop ⟨.ready, none, fx.fn, s.nt, s.ts.map noL, ps.toList, asg, body, d⟩) (.loop R0) := by
      intro g' hle
      subst hR0
      refine ⟨_, rfl, ⟨⟨h1, h2⟩, rfl, rfl, hb.fn, hF.nt, fun t v hv => ?_, rfl, rfl, rfl, ?_⟩⟩
      · simp only [TT.get_map] at hv
        cases e : s.ts.get t with
        | none => rw [e] at hv; cases hv
        | some v0 =>
          rw [e] at hv
          simp only [Option.map_some, Option.some.injEq] at hv
          rw [← hv]
          exact (noL_vg (hF.ts t v0 (fun q => q.1) e)).mono hle
      · obtain ⟨i, q1, q2⟩ := hd
        exact ⟨i, hle _ _ q1, q2⟩
    have hnew : New w (.loop R0) (w.alloc (.loop R0)) := ⟨rfl, rfl, rfl, rfl⟩
    obtain ⟨m2, t2⟩ := hF.mr.allocG hnew (hobj g g.le_refl)
    have hgb : (g.bind H.next ⟨w.heap.size, 0, 0⟩) H.next = some ⟨w.heap.size, 0, 0⟩ := GM.bind_same ..
    generalize g.bind H.next ⟨w.heap.size, 0, 0⟩ = g2 at m2 t2 hgb
    have hle2 := t2.ext.le
    have hargs : VGL g2 (p ++ (.func (.yield H.next) #[] #[] :: c)) ((p' ++ [.func (.yield w.heap.size) #[] #[]]) ++ c') := by
      have := (hp.mono hle2).append (VGL.cons (VG.yield hgb) (hc.mono hle2))
      simpa [List.append_assoc] using this
    have hinv := hC _ _ _ _ r h g2 (w.alloc (.loop R0)) _ (.func n) m2.gr (hF.gl.mono hle2) hargs (.inl ⟨n, rfl, rfl⟩) (p' ++ [.func (.yield w.heap.size) #[] #[]]) c' rfl (fun l e => by cases e)
    have hres : (resolve a.eval (rangeCall f w.heap.size) 0).run P (w.alloc (.loop R0)) = .ok ⟨.fn (.func n) ⟨c'⟩, ⟨p' ++ [.func (.yield w.heap.size) #[] #[]]⟩⟩ (w.alloc (.loop R0)) := by
      have : (#[Operand.const (.func (.yield w.heap.size) #[] #[])] : Array Operand).map a.eval = #[.func (.yield w.heap.size) #[] #[]] := by simp [Act.eval]
      have happ : (⟨p'⟩ : Array Value) ++ #[.func (.yield w.heap.size) #[] #[]] = ⟨p' ++ [.func (.yield w.heap.size) #[] #[]]⟩ := by apply Array.ext'; simp
      simp only [resolve, rangeCall, hae, this]
      show Result.ok ({ target := .fn (.func n) ⟨c'⟩, args := (⟨p'⟩ : Array Value) ++ #[.func (.yield w.heap.size) #[] #[]] } : Deferred) _ = _
      rw [happ]
    -- behind the call
    have back : ∀ {v' : Value} {w3 : World}, (∃ v H' g', rangeEnd H.next s H' K = some r ∧ VG g' v v' ∧ Ext P T (fun _ => False) g2 (H.alloc (.loop ⟨.ready, none, fx.fn, s.nt, s.ts.map noL, ps.toList, asg, body, d⟩)) (w.alloc (.loop R0)) g' H' w3) →
        Steps P (lone (b.atR a (.code (.rangeFunc f ps asg body) :: k)) cs w0) (lone (b.atR { a with defers := mark ++ a.defers } (.endRangeFunc w.heap.size :: k)) cs w3) →
        ∃ e s' H', K e s' H' = some r ∧ ∃ g' l' w' a' k', Steps P (lone (b.atR a (.code (.rangeFunc f ps asg body) :: k)) cs w0) (lone (b.atR a' k') cs w') ∧ LeftAt e k k' ∧ FR P T g' l' s' H' w' a' n0 noT ∧ Ext P T (n0 ≤ ·) g H w g' H' w' := by
      rintro v' w3 ⟨v, H3, g3, hend, hv, hext⟩ hst
      obtain ⟨m3, t3⟩ := m2.call hext
      have hg3 : g3 H.next = some ⟨w.heap.size, 0, 0⟩ := hext.le _ _ hgb
      unfold rangeEnd at hend
      split at hend
      · rename_i rr hrr
        obtain ⟨o3, ho3, r3, rfl, hL3⟩ := m3.gr.obj _ _ _ hg3 hrr
        have ho3 : w3.heap[w.heap.size]? = some (.loop r3) := ho3
        have fin : ∀ e, K e s (H3.put H.next (some (.loop { rr with st := .exhausted }))) = some r → rr.st ≠ .busy → LeftAt e k ((rr.pend.map Item.code).toList ++ k) →
            ∃ e s' H', K e s' H' = some r ∧ ∃ g' l' w' a' k', Steps P (lone (b.atR a (.code (.rangeFunc f ps asg body) :: k)) cs w0) (lone (b.atR a' k') cs w') ∧ LeftAt e k k' ∧ FR P T g' l' s' H' w' a' n0 noT ∧ Ext P T (n0 ≤ ·) g H w g' H' w' := by
          intro e hK hbusy hleft
          have hrun := run_endLoop (P := P) ho3 (by rw [hL3.st]; exact hbusy)
          have hlt : w.heap.size < w3.heap.size := m3.gr.lt _ _ hg3
          obtain ⟨m4, t4⟩ := m3.updG (o' := .loop { rr with st := .exhausted }) hg3 hrr rfl (Upd.putObj (o := .loop { r3 with state := .exhausted }) hlt) ⟨_, rfl, { hL3 with st := rfl }⟩
          have hall := (t2.fr hF).trans hF.mr.gr ((hext.own_mono (own' := (n0 ≤ ·)) (fun _ q => q.elim)).trans m2.gr (t4.ext.own_mono (own' := (n0 ≤ ·)) fun c ⟨t, q⟩ => hF.lo t c q))
          refine ⟨e, s, _, hK, g3, l, _, { a with defers := mark ++ a.defers }, _, Steps.trans hst (.one (stepR_endRangeFunc hrun)), ?_, ⟨m4, fun t v hn hv => ((hF.ts t v hn hv).mono hle2).mono hext.le, hF.nt, (hF.ds.mono hle2).mono hext.le, hF.lo, (hF.gl.mono hle2).mono hext.le⟩, hall⟩
          rw [hL3.pend]; exact hleft
        split at hend
        · cases hend
        · rename_i hbusy
          have hbusy : rr.st ≠ .busy := fun e => hbusy e
          split at hend
          · rename_i hpd; exact fin _ hend hbusy (by rw [hpd]; rfl)
          · rename_i hpd; exact fin _ hend hbusy (by rw [hpd]; exact ⟨k, rfl⟩)
          · rename_i id hpd; exact fin _ hend hbusy (by rw [hpd]; exact ⟨k, rfl, rfl⟩)
          · cases hend
      · cases hend
    rcases hinv with ⟨v', w3, hR, hr⟩ | ⟨f1, xs, w1, hr, hB⟩ | ⟨l1, f1, tmps, asg1, body1, w1, ⟨l2, hl2⟩, _⟩
    · exact back hR (.one (stepR_rangeFunc_val he hres hr))
    · obtain ⟨v', w3, hR, hs⟩ := hB.normal (b.atR { a with defers := mark ++ a.defers } (.inRangeFunc w.heap.size :: k)) cs
      refine back hR (.head (stepR_rangeFunc he hres hr) ?_)
      rw [← finish_atR_inRangeFunc w.heap.size v']; exact hs
    · cases hl2

theorem piece_range (hC : CallOk P T call) {f : Operand} {ps : Array Tmp} {asg body : Code} (h1 : codeOk P T fx.fn asg = true) (h2 : codeOk P T fx.fn body = true) :
    PieceR P T fx b cs n0 (.code (.rangeFunc f ps asg body)) (fun s H K => erange call fx f ps asg body s H K) := by
  intro k s H K r h g l w a hF hb hn
  replace h : erange call fx f ps asg body s H K = some r := h
  unfold erange at h
  split at h
  · rename_i g0 first captured hf
    split at h
    · rename_i n
      have hfv : VR g l (ev s f) (a.eval f) := by
        cases f with
        | tmp t => exact hF.operand rfl (fun _ _ q => q)
        | const v => exact hF.operand rfl (fun _ _ q => q)
        | global b => cases hf
        | func f => exact hF.operand rfl (fun _ _ q => q)
      rw [hf] at hfv
      generalize hae : a.eval f = fv at hfv
      cases hfv with
      | g hfv =>
        cases hfv with
        | func hp hc =>
          rename_i p p' c c'
          split at h
          · rename_i hro
            have hnew : New w (.deferred (some [])) (w.alloc (.deferred (some []))) := ⟨rfl, rfl, rfl, rfl⟩
            obtain ⟨m1, t1⟩ := hF.mr.allocG (o := .dfr) (csz := 0) hnew rfl
            have hgb : (g.bind H.next ⟨w.heap.size, 0, 0⟩) H.next = some ⟨w.heap.size, 0, 0⟩ := GM.bind_same ..
            generalize g.bind H.next ⟨w.heap.size, 0, 0⟩ = g1 at m1 t1 hgb
            have hle := t1.ext.le
            have hps : pushD s (.coll H.next) = ⟨s.nt, s.ts, s.ls, .coll H.next :: s.ds⟩ := by cases s; rfl
            rw [hps] at h
            have hF1 : FR P T g1 l ⟨s.nt, s.ts, s.ls, .coll H.next :: s.ds⟩ (H.alloc .dfr) (w.alloc (.deferred (some []))) { a with defers := [⟨.collected w.heap.size, #[]⟩] ++ a.defers } n0 noT :=
              ⟨m1, fun t v hn hv => (hF.ts t v hn hv).mono hle, hF.nt, .coll hgb (hF.ds.mono hle), hF.lo, hF.gl.mono hle⟩
            have he := run_enterLoop_outer (P := P) (w := w) b.fn a.tmps ps asg body
            rw [← hb.none hro] at he
            have hsz : (w.alloc (.deferred (some []))).heap.size = w.heap.size + 1 := hnew.size
            rw [← hsz] at he
            obtain ⟨e, s', H', hK, g', l', w', a', k', hst, hl, hF', hE⟩ := rangeGo_ok hC h1 h2 (ps := ps) h hF1 (hb.mono hle) (Nat.le_trans hn t1.ext.size) (hp.mono hle) (hc.mono hle) hae ⟨_, hgb, rfl⟩ he k
            exact ⟨e, s', H', hK, g', l', w', a', k', hst, hl, hF', (t1.fr hF).trans hF.mr.gr hE⟩
          · rename_i l0 hro
            split at h
            · rename_i rr hrr
              obtain ⟨i0, hg0, hb0⟩ := hb.some l0 hro
              obtain ⟨o0, ho0, r0, rfl, hL0⟩ := hF.mr.gr.obj _ _ _ hg0 hrr
              obtain ⟨id, hd1, hd2⟩ := hL0.dfr
              have he := run_enterLoop_in (P := P) (w := w) ho0 b.fn a.tmps ps asg body
              rw [← hb0] at he
              exact rangeGo_ok hC h1 h2 (ps := ps) (mark := []) h (by simpa using hF) hb hn hp hc hae ⟨_, hd1, hd2⟩ he k
            · cases h
    · cases h
  · cases h

/-- Code does what the evaluator says. -/
theorem ecode_ok (F : Facts P T) (hm : P.follows .mixedOrders = true) (hC : CallOk P T call) (hk : KindOk b.kind cs) (n : Nat) : ∀ (c : Code), codeOk P T fx.fn c = true → PieceR P T fx b cs n0 (.code c) (ecode P T call n fx c)
  | .skip, _ => fun k s H K r h g l w a hF hb hn => ⟨.normal, s, H, h, g, l, w, a, k, .one stepR_skip, rfl, hF, Ext.refl hF.mr.gr⟩
  | .label _, _ => fun k s H K r h g l w a hF hb hn => ⟨.normal, s, H, h, g, l, w, a, k, .one stepR_label, rfl, hF, Ext.refl hF.mr.gr⟩
  | .region id ops draw, hc => fun k s H K r h g l w a hF hb hn => by
    obtain ⟨s', H', hK, g', l', w', a', hst, hF', hE⟩ := eregion_ok F hm hC hk k hc (show eregion P T call fx id ops draw s H (fun s H => K .normal s H) = some r from h) hF hb hn
    exact ⟨.normal, s', H', hK, g', l', w', a', k, hst, rfl, hF', hE⟩
  | .seq x y, hc => by
    simp only [codeOk, Bool.and_eq_true] at hc
    exact piece_seq (ecode_ok F hm hC hk n x hc.1) (ecode_ok F hm hC hk n y hc.2)
  | .cond c x y, hc => by
    simp only [codeOk, Bool.and_eq_true] at hc
    exact piece_cond (ecode_ok F hm hC hk n x hc.1) (ecode_ok F hm hC hk n y hc.2)
  | .block id c, hc => piece_block (ecode_ok F hm hC hk n c hc)
  | .loop c, hc => piece_loop (ecode_ok F hm hC hk n c hc) n _ (fun _ _ _ => stepR_loop)
  | .scope c, hc => piece_scope (ecode_ok F hm hC hk n c hc)
  | .rangeFunc f ps x y, hc => by
    simp only [codeOk, Bool.and_eq_true] at hc
    exact piece_range hC hc.1 hc.2
  | .exit id, _ => fun k s H K r h g l w a hF hb hn => ⟨.exit id, s, H, h, g, l, w, a, _, Steps.refl P _, ⟨k, rfl, rfl⟩, hF, Ext.refl hF.mr.gr⟩
  | .ret, _ => fun k s H K r h g l w a hF hb hn => ⟨.ret, s, H, h, g, l, w, a, _, Steps.refl P _, ⟨k, rfl⟩, hF, Ext.refl hF.mr.gr⟩
  | .goto _, _ => fun k s H K r h => by cases h
  | .refuse _, _ => fun k s H K r h => by cases h
end
end Go.Ev
end
section
set_option linter.unusedSimpArgs false
set_option linter.unusedVariables false
set_option maxHeartbeats 1000000
namespace Go.Ev
variable {P : Program} {T : Tab} {α : Type}

/-! ### A frame's beginning -/
theorem lay0_get : ∀ (args : List Value) (i : Nat) (t : TT Value) (j : Nat) (v : Value), (lay0 i args t).get j = some v → (∃ k, j = i + k ∧ args[k]? = some v) ∨ ((j < i ∨ i + args.length ≤ j) ∧ t.get j = some v)
  | [], i, t, j, v, h => by
    refine .inr ⟨?_, h⟩
    simp only [List.length_nil]
    omega
  | a :: args, i, t, j, v, h => by
    rcases lay0_get args (i + 1) (t.set i a) j v h with ⟨k, hk, hv⟩ | ⟨hj, hv⟩
    · exact .inl ⟨k + 1, by omega, by simpa using hv⟩
    · by_cases e : i = j
      · subst e
        rw [TT.get_set_same] at hv
        cases e : t.get i with
        | none => rw [e] at hv; cases hv
        | some x => rw [e] at hv; simp at hv; exact .inl ⟨0, rfl, by simp [hv]⟩
      · rw [TT.get_set_ne _ _ _ _ e] at hv
        refine .inr ⟨?_, hv⟩
        simp only [List.length_cons]
        omega

theorem enter_ok {g : GM} {H : Hp} {w : World} (hg : GR P T g H w) (hgl : GLB T g) {args args' : List Value} (ha : VGL g args args') (m : Nat) :
    FR P T g (fun _ => none) (enter (max m args.length) args) H w { tmps := (⟨args'⟩ : Array Value) ++ Array.replicate (m - args'.length) undef, defers := [] } w.heap.size noT where
  mr := ⟨hg, fun t c e => by (cases e), fun t t' c e => by (cases e)⟩
  ts := by
    intro t v _ hv
    have hl := ha.length
    rw [Array.getD_eq_getD_getElem?]
    rcases lay0_get args 0 _ t v hv with ⟨k, hk, hv⟩ | ⟨hj, hv⟩
    · obtain rfl : t = k := by rw [hk]; exact Nat.zero_add k
      obtain ⟨v', h1, h2⟩ := ha.get hv
      have hlt : t < args'.length := by
        rcases Nat.lt_or_ge t args'.length with h | h
        · exact h
        · rw [List.getElem?_eq_none h] at h1; cases h1
      rw [Array.getElem?_append_left (by simpa using hlt)]
      rw [show (⟨args'⟩ : Array Value)[t]? = args'[t]? from by simp, h1]
      exact .g h2
    · have := TT.get_full _ _ _ _ hv
      subst this
      have hge : args'.length ≤ t := by
        rcases hj with hj | hj
        · exact absurd hj (Nat.not_lt_zero t)
        · omega
      rw [Array.getElem?_append_right (by simpa using hge), Array.getElem?_replicate]
      split
      · exact .g (.tuple .nil)
      · exact .g (.tuple .nil)
  nt := by
    have hl := ha.length
    simp [enter]
    omega
  ds := .nil
  lo := fun t c e => by cases e
  gl := hgl

/-! ### The results -/
def resF (tmps : Array Value) : ResultVar → Sem Value
  | .tmp t => pure (tmps.getD t undef)
  | .cell a t => do loadVar t (← asAddr (tmps.getD a undef))

theorem results_eq (fn : Func) (tmps : Array Value) : results fn tmps = (do let vs ← fn.results.mapM (resF tmps); pure (if h : vs.size = 1 then vs[0] else .tuple vs)) := by
  unfold results
  congr 1

inductive VL (g : GM) (l : LM) : List Value → List Value → Prop where
  | nil : VL g l [] []
  | cons {v v' : Value} {xs xs' : List Value} (h : VR g l v v') (k : VL g l xs xs') : VL g l (v :: xs) (v' :: xs')
theorem VL.nl {g : GM} {l : LM} : ∀ {xs xs' : List Value}, VL g l xs xs' → xs.all nl = true → VGL g xs xs'
  | _, _, .nil, _ => .nil
  | _, _, .cons h k, e => by
    simp only [List.all_cons, Bool.and_eq_true] at e
    exact .cons (h.nl e.1) (VL.nl k e.2)

theorem resV_ok {g : GM} {l : LM} {s : Env} {H : Hp} {w : World} {tmps : Array Value} (hm : MR P T g l s.ls H w) (hts : ∀ t v, s.ts.get t = some v → VR g l v (tmps.getD t undef)) :
    ∀ (rs : List ResultVar) (vs : List Value), resV P s H rs = some vs → ∃ vs', (rs.mapM (resF tmps)).run P w = .ok vs' w ∧ VL g l vs vs'
  | [], vs, h => by
    cases h
    exact ⟨[], by simp, .nil⟩
  | .tmp t :: rs, vs, h => by
    simp only [resV] at h
    split at h
    · rename_i r hr
      split at h
      · rename_i v hv
        cases h
        obtain ⟨vs', h1, h2⟩ := resV_ok hm hts rs r hr
        exact ⟨tmps.getD t undef :: vs', by simp [List.mapM_cons, resF, h1], .cons (hts t v hv) h2⟩
      · cases h
    · cases h
  | .cell p t :: rs, vs, h => by
    simp only [resV] at h
    split at h
    · rename_i r hr
      split at h
      · rename_i a ha
        split at h
        · rename_i agg n ht
          split at h
          · rename_i c hc
            split at h
            · rename_i v hv
              cases h
              obtain ⟨vs', h1, h2⟩ := resV_ok hm hts rs r hr
              have hl : c.length = ldN agg n := rd_len hc
              have hx := hts p _ ha
              have hld : LdR P s H t (.pointer (some a)) a c v := ⟨rfl, ⟨agg, n, ht, hl, hv⟩, by rw [hl]; exact hc⟩
              obtain ⟨v', h3, h4⟩ := hld.run hm hx
              obtain ⟨a', hpe, _⟩ := hx.ptr_inv
              rw [hpe] at h3
              have h5 : (loadVar t a').run P w = .ok v' w := by
                have e : (Instr.loadAt t (.pointer (some a'))).run P w = (loadVar t a').run P w := by
                  simp [Instr.loadAt, Instr.sureAddr]
                rw [← e]; exact h3
              refine ⟨v' :: vs', ?_, .cons h4 h2⟩
              simp [List.mapM_cons, resF, hpe, asAddr, h5, h1]
            · cases h
          · cases h
        · cases h
      · cases h
    · cases h

theorem resV_all {g : GM} {l : LM} {s : Env} {H : Hp} {w : World} {tmps : Array Value} (hm : MR P T g l s.ls H w) (hts : ∀ t v, s.ts.get t = some v → VR g l v (tmps.getD t undef)) {fn : Func} {vs : List Value}
    (h : resV P s H fn.results.toList = some vs) (hn : vs.all nl = true) : ∃ v', (results fn tmps).run P w = .ok v' w ∧ VG g (tupV vs) v' := by
  obtain ⟨vs', h1, h2⟩ := resV_ok hm hts _ _ h
  have h3 := h2.nl hn
  rw [results_eq]
  simp only [Array.mapM_eq_mapM_toList, Sem.run_bind, Sem.run_map, h1, Result.andThen_ok, Sem.run_pure]
  cases h3 with
  | nil => exact ⟨_, rfl, .tuple .nil⟩
  | cons a k =>
    cases k with
    | nil => exact ⟨_, rfl, a⟩
    | cons b k => exact ⟨_, rfl, .tuple (.cons a (.cons b k))⟩

/-! ### Deferred calls -/
theorem step_collected {fr : Frame} {cs : List Frame} {w w' : World} {blk : Nat} {as : Array Value} {ds : List Deferred} (hm : fr.mode ≠ .run) (hd : fr.defers = ⟨.collected blk, as⟩ :: ds)
    (hr : (Instr.takeDeferred blk).run P w = .ok [] w') : step P (lone fr cs w) = .next (lone { fr with defers := ds } cs w') := by
  refine step_lone_go ?_
  cases hmode : fr.mode with
  | run => exact absurd hmode hm
  | returning => simp [stepG, unwind, hmode, hd, Sem.runT_eq, hr]
  | panicking chain => simp [stepG, unwind, hmode, hd, Sem.runT_eq, hr]

theorem step_deferN {fr : Frame} {cs : List Frame} {w w1 : World} {d : Deferred} {ds : List Deferred} {fv : Fn} {cap : Array Value} {f : FuncId}
    {args : Array Value} (hm : fr.mode = .returning) (hd : fr.defers = d :: ds) (ht : d.target = .fn fv cap)
    (hi : (invoke d.target d.args).run P w = .ok (.enter f args) w1) :
    step P (lone fr cs w) = .next (lone (Frame.enter P f args .deferred) ({ fr with defers := ds } :: cs) w1) := by
  obtain ⟨t, a⟩ := d
  simp only at ht hi
  subst ht
  refine step_lone_go ?_
  simp [stepG, unwind, callDeferred, hm, hd, hi]

theorem step_deferV {fr : Frame} {cs : List Frame} {w w1 : World} {d : Deferred} {ds : List Deferred} {fv : Fn} {cap : Array Value} {v : Value}
    (hm : fr.mode = .returning) (hd : fr.defers = d :: ds) (ht : d.target = .fn fv cap)
    (hi : (invoke d.target d.args).run P w = .ok (.value v) w1) :
    step P (lone fr cs w) = .next (lone { fr with defers := ds } cs w1) := by
  obtain ⟨t, a⟩ := d
  simp only at ht hi
  subst ht
  refine step_lone_go ?_
  simp [stepG, unwind, callDeferred, hm, hd, hi]

section
variable {call : Fn → List Value → Hp → (Value → Hp → Option α) → Option α}

theorem eret_ok (hC : CallOk P T call) {fn : Func} {s : Env} {n0 : Nat} : ∀ (ds : List ADef) {H : Hp} {K : Value → Hp → Option α} {r : α}, eret P call fn s ds H K = some r →
    ∀ {g : GM} {l : LM} {w : World} {fr : Frame} {cs : List Frame}, MR P T g l s.ls H w → (∀ t v, s.ts.get t = some v → VR g l v (fr.tmps.getD t undef)) → DR g ds fr.defers → (∀ t c, l t = some c → n0 ≤ c) → GLB T g →
    fr.mode = .returning → P.funcs[fr.fn]? = some fn →
    ∃ v H', K v H' = some r ∧ ∃ g' w' fr' v', Steps P (lone fr cs w) (lone fr' cs w') ∧ fr'.fn = fr.fn ∧ fr'.kind = fr.kind ∧ fr'.mode = .returning ∧ fr'.defers = [] ∧
      (results fn fr'.tmps).run P w' = .ok v' w' ∧ VG g' v v' ∧ Ext P T (n0 ≤ ·) g H w g' H' w'
  | [], H, K, r, h, g, l, w, fr, cs, hm, hts, hd, hlo, hgl, hmode, hfn => by
    simp only [eret] at h
    split at h
    · rename_i vs hvs
      split at h
      · rename_i hn
        obtain ⟨v', h1, h2⟩ := resV_all hm hts hvs hn
        generalize hdf : fr.defers = df at hd
        cases hd
        exact ⟨_, _, h, g, w, fr, v', Steps.refl P _, rfl, rfl, hmode, hdf, h1, h2, Ext.refl hm.gr⟩
      · cases h
    · cases h
  | .coll b :: ds, H, K, r, h, g, l, w, fr, cs, hm, hts, hd, hlo, hgl, hmode, hfn => by
    simp only [eret] at h
    split at h
    · rename_i hb
      generalize hdf : fr.defers = df at hd
      cases hd with
      | coll hgb hd =>
        rename_i i ds'
        obtain ⟨o, ho, hobj⟩ := hm.gr.obj _ _ _ hgb hb
        have hobj : o = .deferred (some []) := hobj
        subst hobj
        have hrun := run_takeDeferred (P := P) ho
        have hlt := hm.gr.lt _ _ hgb
        have hstep := step_collected (P := P) (cs := cs) (by rw [hmode]; exact fun e => by cases e) hdf hrun
        -- the block is turned; nobody looks at it again
        obtain ⟨m1, t1⟩ := hm.die hgb hb rfl
        have hu : Upd w i.blk (.deferred none) (w.putObj i.blk (.deferred none)) := Upd.putObj hlt
        have hlive : Live g H i.blk := ⟨b, i, _, hgb, hb, rfl⟩
        have hnl : ¬ Live g (H.put b none) i.blk := by
          rintro ⟨b', i', o', e, eo, q⟩
          by_cases hbb : b = b'
          · subst hbb; rw [Hp.get_put_same hb] at eo; cases eo
          · rw [Hp.get_put_ne H hbb] at eo
            exact hbb (hm.gr.inj b b' i i' _ _ hgb e hb eo q.symm)
        have gr2 : GR P T g (H.put b none) (w.putObj i.blk (.deferred none)) := by
          refine ⟨m1.gr.dom, fun b' i' e => by rw [hu.size]; exact m1.gr.lt b' i' e, fun b' i' o' e eo => ?_, m1.gr.inj⟩
          obtain ⟨x, hx, hy⟩ := m1.gr.obj b' i' o' e eo
          exact ⟨x, by rw [hu.ne _ (fun q => hnl ⟨b', i', o', e, eo, q⟩)]; exact hx, hy⟩
        have m2 : MR P T g l s.ls (H.put b none) (w.putObj i.blk (.deferred none)) := by
          refine ⟨gr2, fun t c ht => ?_, m1.li⟩
          obtain ⟨p, q, cs', q1, q2⟩ := m1.lc t c ht
          have hne : c ≠ i.blk := fun e => (hm.lc t c ht).2.1 (e ▸ hlive)
          exact ⟨by rw [hu.size]; exact p, q, cs', q1, q2.heap (hu.ne c hne)⟩
        have e2 : Ext P T (n0 ≤ ·) g H w g (H.put b none) (w.putObj i.blk (.deferred none)) := by
          have e1 := t1.ext
          exact ⟨g.le_refl, gr2, by rw [hu.size]; exact Nat.le_refl _, fun _ _ h => .inl h, e1.keep, e1.dead, e1.next, fun c _ hl _ => hu.ne c (fun e => hl (e ▸ hlive)), hu.os, hu.tape, hu.output, fun b' i' o' e eo er => by
            obtain ⟨h1, _⟩ := e1.ro b' i' o' e eo er
            have hne : b ≠ b' := fun q => by subst q; rw [hb] at eo; cases eo; cases er
            exact ⟨h1, hu.ne _ (fun q => hne (hm.gr.inj b b' i i' _ o' hgb e hb eo q.symm))⟩⟩
        obtain ⟨v, H', hK, g', w', fr', v', hst, q1, q2, q3, q4, q5, q6, q7⟩ := eret_ok hC ds h (fr := { fr with defers := ds' }) (cs := cs) m2 hts hd hlo hgl hmode hfn
        exact ⟨v, H', hK, g', w', fr', v', .head hstep hst, q1, q2, q3, q4, q5, q6, e2.trans hm.gr q7⟩
    · cases h
  | .call f args :: ds, H, K, r, h, g, l, w, fr, cs, hm, hts, hd, hlo, hgl, hmode, hfn => by
    simp only [eret] at h
    generalize hdf : fr.defers = df at hd
    cases hd with
    | call ha hd =>
      rename_i n args' cap' ds'
      have hinv := hC _ _ _ _ r h g w (args' ++ cap') (.func n) hm.gr hgl ha (.inl ⟨n, rfl, rfl⟩) args' cap' rfl (fun l e => by cases e)
      have fin : ∀ {v1 : Value} {w1 : World}, (∃ v H' g', (eret P call fn s ds H' K) = some r ∧ VG g' v v1 ∧ Ext P T (fun _ => False) g H w g' H' w1) → Steps P (lone fr cs w) (lone { fr with defers := ds' } cs w1) →
          ∃ v H', K v H' = some r ∧ ∃ g' w' fr' v', Steps P (lone fr cs w) (lone fr' cs w') ∧ fr'.fn = fr.fn ∧ fr'.kind = fr.kind ∧ fr'.mode = .returning ∧ fr'.defers = [] ∧
            (results fn fr'.tmps).run P w' = .ok v' w' ∧ VG g' v v' ∧ Ext P T (n0 ≤ ·) g H w g' H' w' := by
        rintro v1 w1 ⟨v, H1, g1, hK, hv, hext⟩ hst
        obtain ⟨m1, t1⟩ := hm.call hext
        obtain ⟨v, H', hK, g', w', fr', v', hst', q1, q2, q3, q4, q5, q6, q7⟩ := eret_ok hC ds hK (fr := { fr with defers := ds' }) (cs := cs) m1 (fun t v e => (hts t v e).mono hext.le) (hd.mono hext.le) hlo (hgl.mono hext.le) hmode hfn
        exact ⟨v, H', hK, g', w', fr', v', Steps.trans hst hst', q1, q2, q3, q4, q5, q6, (hext.own_mono (own' := (n0 ≤ ·)) fun _ q => q.elim).trans hm.gr q7⟩
      rcases hinv with ⟨v1, w1, hR, hr⟩ | ⟨f1, xs, w1, hr, hB⟩ | ⟨l1, f1, tmps, asg1, body1, w1, ⟨l2, hl2⟩, _⟩
      · exact fin hR (.one (step_deferV hmode hdf rfl hr))
      · obtain ⟨v', w', hR, hs⟩ := hB.deferred { fr with defers := ds' } cs hmode
        exact fin hR (.head (step_deferN hmode hdf rfl hr) hs)
      · cases hl2

/-- A function's body. -/
theorem eBody_ok (F : Facts P T) (hm : P.follows .mixedOrders = true) (hC : CallOk P T call) {f : FuncId} {fn : Func} {c : Code} (hf : P.funcs[f]? = some fn) (hb : fn.body = some c) (hcode : codeOk P T f c = true) (n : Nat)
    {args : List Value} {H : Hp} {K : Value → Hp → Option α} {r : α} (h : eBody P T call n f fn c args H K = some r) {g : GM} {w : World} {args' : List Value} (hg : GR P T g H w) (hgl : GLB T g) (ha : VGL g args args') :
    BodyR P f ⟨args'⟩ w (fun v' w' => ∃ v H' g', K v H' = some r ∧ VG g' v v' ∧ Ext P T (fun _ => False) g H w g' H' w') := by
  intro kind cs hk
  let b : Frame := { (default : Frame) with fn := f, kind := kind, roundOf := none }
  have henter : Frame.enter P f ⟨args'⟩ kind = b.atR { tmps := (⟨args'⟩ : Array Value) ++ Array.replicate (fn.ntmps - args'.length) undef, defers := [] } [.code c] := by
    simp [Frame.enter, Frame.atR, hf, hb, b]
  have hF := enter_ok hg hgl ha fn.ntmps
  have hbx : FxR g ⟨f, none⟩ b := ⟨rfl, fun _ => rfl, fun l e => by cases e⟩
  obtain ⟨e, s1, H1, hK, g1, l1, w1, a1, k1, hst, hl, hF1, hE1⟩ := ecode_ok (b := b) (cs := cs) (n0 := w.heap.size) (fx := ⟨f, none⟩) F hm hC hk n c hcode [] _ _ _ _ h g _ w _ hF hbx (Nat.le_refl _)
  have fin : ∀ todo : List Item, eret P call fn s1 s1.ds H1 K = some r → step P (lone (b.atR a1 k1) cs w1) = .next (lone { b.atR a1 todo with mode := .returning } cs w1) →
      ∃ v w' fr, (∃ v' H' g', K v' H' = some r ∧ VG g' v' v ∧ Ext P T (fun _ => False) g H w g' H' w') ∧ Steps P (lone (Frame.enter P f ⟨args'⟩ kind) cs w) (lone fr cs w') ∧ fr.fn = f ∧ fr.kind = kind ∧ fr.mode = .returning ∧ fr.defers = [] ∧
        ∃ fn, P.funcs[f]? = some fn ∧ (results fn fr.tmps).run P w' = .ok v w' := by
    intro todo hret hstep
    obtain ⟨v, H', hK, g', w', fr', v', hst', q1, q2, q3, q4, q5, q6, q7⟩ := eret_ok hC s1.ds hret (fr := { b.atR a1 todo with mode := .returning }) (cs := cs) hF1.mr (fun t v e => hF1.ts t v (fun q => q.1) e) hF1.ds hF1.lo hF1.gl rfl hf
    have hall := hE1.trans hg q7
    refine ⟨v', w', fr', ⟨v, H', g', hK, q6, { hall with frame := fun c a b d => hall.frame c a b (fun e => by have := Nat.lt_of_lt_of_le a e; omega) }⟩, ?_, q1, q2, q3, q4, fn, hf, q5⟩
    rw [henter]
    exact Steps.trans hst (.head hstep hst')
  cases e with
  | normal =>
    obtain rfl : k1 = [] := hl
    exact fin [] hK (stepR_end rfl)
  | exit id => cases hK
  | ret =>
    obtain ⟨k2, rfl⟩ := hl
    exact fin _ hK (stepR_ret rfl)
end
end Go.Ev
end
section
set_option linter.unusedSimpArgs false
set_option linter.unusedVariables false
set_option maxHeartbeats 1000000
namespace Go.Ev
variable {P : Program} {T : Tab} {α : Type}

/-! ### A round of a loop over a function -/
theorem layP_ok {g : GM} {n : Nat} : ∀ (ps : List Tmp) (args args' : List Value) (ts : TT Value) (tmps : Array Value), VGL g args args' → tmps.size = n → (∀ t v, ts.get t = some v → VG g v (tmps.getD t undef)) →
    ((ps.zip args').foldl (fun (tmps : Array Value) (x : Tmp × Value) => tmps.setIfInBounds x.1 x.2) tmps).size = n ∧
    ∀ t v, (layP n ps args ts).get t = some v → VG g v (((ps.zip args').foldl (fun (tmps : Array Value) (x : Tmp × Value) => tmps.setIfInBounds x.1 x.2) tmps).getD t undef)
  | [], args, args', ts, tmps, ha, hs, ht => by
    simp only [List.zip_nil_left, List.foldl_nil]
    exact ⟨hs, fun t v h => ht t v (by cases args <;> exact h)⟩
  | p :: ps, [], args', ts, tmps, ha, hs, ht => by
    cases ha
    exact ⟨hs, fun t v h => ht t v h⟩
  | p :: ps, a :: args, args', ts, tmps, ha, hs, ht => by
    cases ha with
    | cons h k =>
      rename_i a' args'
      simp only [List.zip_cons_cons, List.foldl_cons]
      refine layP_ok ps args args' _ _ k (by simpa using hs) fun t v hv => ?_
      rw [Array.getD_eq_getD_getElem?]
      cases hlt : Nat.blt p n with
      | true =>
        rw [hlt] at hv
        dsimp only at hv
        have hlt := blt_iff.1 hlt
        by_cases e : p = t
        · subst e
          rw [Array.getElem?_setIfInBounds_self_of_lt (by omega)]
          rw [TT.get_set_same] at hv
          cases e : ts.get p with
          | none => rw [e] at hv; cases hv
          | some x => rw [e] at hv; simp at hv; rw [← hv]; exact h
        · rw [TT.get_set_ne _ _ _ _ e] at hv
          rw [Array.getElem?_setIfInBounds_ne e, ← Array.getD_eq_getD_getElem?]
          exact ht t v hv
      | false =>
        rw [hlt] at hv
        dsimp only at hv
        have hlt := blt_false.1 hlt
        rw [Array.setIfInBounds_eq_of_size_le (by omega), ← Array.getD_eq_getD_getElem?]
        exact ht t v hv

theorem full_none {n i : Nat} {c : List Value} (h : (TT.full (none : Option (List Value)) n).get i = some (some c)) : False := by
  have := TT.get_full _ _ _ _ h
  cases this

section
variable {call : Fn → List Value → Hp → (Value → Hp → Option α) → Option α}

theorem eYield_ok (F : Facts P T) (hmo : P.follows .mixedOrders = true) (hC : CallOk P T call) {n : Nat} {lb : Nat} {args : List Value} {H : Hp} {K : Value → Hp → Option α} {r : α} (h : eYield P T call n lb args H K = some r)
    {g : GM} {w : World} {args' : List Value} (hg : GR P T g H w) (hgl : GLB T g) (ha : VGL g args args') {i : Img} (hi : g lb = some i) :
    ∃ f tmps asg body, (Instr.yield i.blk ⟨args'⟩).run P w = .ok (.round i.blk f tmps asg body) w ∧
      RoundR P i.blk f tmps asg body w (fun v' w' => ∃ v H' g', K v H' = some r ∧ VG g' v v' ∧ Ext P T (fun _ => False) g H w g' H' w') := by
  unfold eYield at h
  split at h
  · rename_i r0 hr0
    obtain ⟨o0, ho0, r0', rfl, hL0⟩ := hg.obj _ _ _ hi hr0
    split at h
    · cases h
    · rename_i hlen
      have hlen := Nat.eq_of_beq_eq_true hlen
      have hpl : r0'.params.size = args'.length := by
        rw [← Array.length_toList, hL0.ps, hlen, ha.length]
      refine ⟨_, _, _, _, run_yield ho0 (by simpa using hpl.symm), ?_⟩
      intro c cs
      generalize htm : (r0'.params.zip ⟨args'⟩).foldl (fun tmps (x : Tmp × Value) => tmps.setIfInBounds x.1 x.2) r0'.tmps = tmps
      have htm' : (r0.ps.zip args').foldl (fun (tmps : Array Value) (x : Tmp × Value) => tmps.setIfInBounds x.1 x.2) r0'.tmps = tmps := by
        rw [← htm, ← Array.foldl_toList, Array.toList_zip, hL0.ps]
      obtain ⟨hs1, hs2⟩ := layP_ok (n := r0.nt) r0.ps args args' r0.ts r0'.tmps ha hL0.nt hL0.ts
      rw [htm'] at hs1 hs2
      let b : Frame := { (default : Frame) with fn := r0'.fn, kind := .normal, roundOf := some i.blk }
      have hb0 : Frame.round i.blk r0'.fn tmps r0'.assign r0'.body .normal = b.atR { tmps := tmps, defers := [] } [.code r0'.assign, .beginRound, .code r0'.body] := by
        simp [Frame.round, Frame.atR, b]
      have hF : FR P T g (fun _ => none) ⟨r0.nt, layP r0.nt r0.ps args r0.ts, TT.full none (depth r0.nt), []⟩ H w { tmps := tmps, defers := [] } w.heap.size noT :=
        ⟨⟨hg, fun t c e => by (cases e), fun t t' c e => by (cases e)⟩, fun t v _ hv => .g (hs2 t v hv), hs1, .nil, fun t c e => (by cases e), hgl⟩
      have hbx : FxR g ⟨r0.fn, some lb⟩ b := ⟨hL0.fn, fun e => (by cases e), fun l e => (by cases e; exact ⟨i, hi, rfl⟩)⟩
      rw [← hL0.asg] at h
      obtain ⟨e, s1, H1, hK, g1, l1, w1, a1, k1, hst, hl, hF1, hE1⟩ := ecode_ok (b := b) (cs := c :: cs) (n0 := w.heap.size) (fx := ⟨r0.fn, some lb⟩) F hmo hC (.inl rfl) n r0'.assign (by rw [hL0.asg]; exact hL0.cok.1) [.beginRound, .code r0'.body] _ _ _ _ h g _ w _ hF hbx (Nat.le_refl _)
      cases e with
      | exit id => cases hK
      | ret => cases hK
      | normal =>
        obtain rfl : k1 = [.beginRound, .code r0'.body] := hl
        dsimp only at hK
        unfold eRound at hK
        split at hK
        · rename_i r2 hr2
          split at hK
          · rename_i hready
            split at hK
            · rename_i hds
              have hi1 := hE1.le _ _ hi
              obtain ⟨o2, ho2, r2', rfl, hL2⟩ := hF1.mr.gr.obj _ _ _ hi1 hr2
              have hrun := run_beginRound (P := P) ho2 (by rw [hL2.st]; exact hready)
              obtain ⟨m2, t2⟩ := hF1.mr.updG (o' := .loop { r2 with st := .busy }) hi1 hr2 rfl (Upd.putObj (o := .loop { r2' with state := .busy }) (hF1.mr.gr.lt _ _ hi1)) ⟨_, rfl, { hL2 with st := rfl }⟩
              have hF2 : FR P T g1 l1 s1 (H1.put lb (some (.loop { r2 with st := .busy }))) (w1.putObj i.blk (.loop { r2' with state := .busy })) a1 w.heap.size noT := { hF1 with mr := m2 }
              have hE2 := t2.fr hF1
              rw [← hL0.body] at hK
              obtain ⟨e, s3, H3, hK3, g3, l3, w3, a3, k3, hst3, hl3, hF3, hE3⟩ := ecode_ok (b := b) (cs := c :: cs) (n0 := w.heap.size) (fx := ⟨r0.fn, some lb⟩) F hmo hC (.inl rfl) n r0'.body (by rw [hL0.body]; exact hL0.cok.2) [] _ _ _ _ hK g1 _ _ _ hF2 (hbx.mono hE1.le) (Nat.le_trans hE1.size hE2.size)
              have hstA : Steps P (lone (Frame.round i.blk r0'.fn tmps r0'.assign r0'.body .normal) (c :: cs) w) (lone (b.atR a3 k3) (c :: cs) w3) := by
                rw [hb0]
                exact Steps.trans hst (.head (stepR_beginRound rfl hrun) hst3)
              have hi3 := hE3.le _ _ hi1
              have hEA := (hE1.trans hg hE2).trans hg hE3
              unfold eEnd at hK3
              split at hK3
              · rename_i r3 hr3
                obtain ⟨o3, ho3, r3', rfl, hL3⟩ := hF3.mr.gr.obj _ _ _ hi3 hr3
                have fin : ∀ (st : LoopState) (pd : Option Code) (bv : Bool) (w4 : World), w4 = w3.putObj i.blk (.loop { r3' with state := st, pending := pd }) → K (.bool bv) (H3.put lb (some (.loop { r3 with st := st, pend := pd }))) = some r →
                    step P (lone (b.atR a3 k3) (c :: cs) w3) = .next (lone (c.finish (.bool bv)) cs w4) →
                    ∃ v w', (∃ v' H' g', K v' H' = some r ∧ VG g' v' v ∧ Ext P T (fun _ => False) g H w g' H' w') ∧ Steps P (lone (Frame.round i.blk r0'.fn tmps r0'.assign r0'.body .normal) (c :: cs) w) (lone (c.finish v) cs w') := by
                  intro st pd bv w4 hw4 hKv hstep
                  subst hw4
                  obtain ⟨m4, t4⟩ := hF3.mr.updG (o' := .loop { r3 with st := st, pend := pd }) hi3 hr3 rfl (Upd.putObj (o := .loop { r3' with state := st, pending := pd }) (hF3.mr.gr.lt _ _ hi3)) ⟨_, rfl, { hL3 with st := rfl, pend := rfl }⟩
                  have hall := hEA.trans hg (t4.fr hF3)
                  exact ⟨.bool bv, _, ⟨_, _, g3, hKv, .bool bv, { hall with frame := fun c a b d => hall.frame c a b (fun e => by have := Nat.lt_of_lt_of_le a e; omega) }⟩, Steps.trans hstA (.one hstep)⟩
                cases e with
                | normal =>
                  obtain rfl : k3 = [] := hl3
                  exact fin .ready none true _ rfl hK3 (stepR_round_end rfl rfl (run_endRound none ho3))
                | ret =>
                  obtain ⟨k4, rfl⟩ := hl3
                  exact fin .done (some .ret) false _ rfl hK3 (stepR_round_ret rfl rfl (run_endRound (some .ret) ho3))
                | exit id =>
                  obtain ⟨k4, rfl, hx⟩ := hl3
                  exact fin .done (some (.exit id)) false _ rfl hK3 (stepR_round_exit rfl rfl hx (run_endRound (some (.exit id)) ho3))
              · cases hK3
            · cases hK
          · cases hK
        · cases hK
  · cases h
end

/-! ### All calls -/
/-- What a function without a body does is what the evaluator says. -/
def ExtSem (P : Program) (T : Tab) (k : ExtK) (e : Array Value → Sem Value) : Prop :=
  ∀ (args : List Value) (H : Hp) (v : Value) (H' : Hp), (extK k args H (fun v H => some (v, H)) = some (v, H')) → ∀ (g : GM) (w : World) (args' : List Value), GR P T g H w → VGL g args args' →
    ∃ v' w' g', (e ⟨args'⟩).run P w = .ok v' w' ∧ VG g' v v' ∧ Ext P T (fun _ => False) g H w g' H' w'

theorem extK_nat {k : ExtK} {args : List Value} {H : Hp} {K : Value → Hp → Option α} {r : α} (h : extK k args H K = some r) : ∃ v H', extK k args H (fun v H => some (v, H)) = some (v, H') ∧ K v H' = some r := by
  cases k <;> simp only [extK] at h ⊢ <;> (try unfold wr at h ⊢) <;> (repeat' split at h) <;> first | (cases h; done) | (simp_all; done) | exact ⟨_, _, by simp_all, h⟩ | skip

structure Facts2 (P : Program) (T : Tab) : Prop where
  mo : P.follows .mixedOrders = true
  nm : ∀ (f : FuncId) (fn : Func), P.funcs[f]? = some fn → fn.body.isSome = true → (fn.name == "runtime.NumGoroutine") = false
  code : ∀ (f : FuncId) (fn : Func) (c : Code), P.funcs[f]? = some fn → fn.body = some c → codeOk P T f c = true
  ext : ∀ (f : FuncId) (fn : Func) (k : ExtK), P.funcs[f]? = some fn → fn.body = none → look T.ext f = some k → ∃ e, (fn.name == "runtime.NumGoroutine") = false ∧ Extern.findNext fn = none ∧ Extern.find fn = some e ∧ ExtSem P T k e

/-- What is known of calls beforehand is true. -/
def OrcOk (P : Program) (T : Tab) (O : Orc) : Prop :=
  ∀ (α : Type) f args H (K : Value → Hp → Option α) (b : Option α) (r : α), O α f args H K b = some r → b = some r ∨ ∃ v H', K v H' = some r ∧
    ∀ (g : GM) (w : World) (args' : List Value), GR P T g H w → GLB T g → VGL g args args' →
    InvR P (.func f) args' w (fun v' w' => ∃ g', VG g' v v' ∧ Ext P T (fun _ => False) g H w g' H' w')
theorem noO_ok : OrcOk P T noO := fun α f args H K b r h => .inl h

theorem BodyR.imp {f : FuncId} {args : Array Value} {w : World} {R R' : Value → World → Prop} (h : BodyR P f args w R) (hr : ∀ v w', R v w' → R' v w') : BodyR P f args w R' :=
  fun kind cs hk => let ⟨v, w', fr, a, b⟩ := h kind cs hk; ⟨v, w', fr, hr _ _ a, b⟩
theorem RoundR.imp {l : Nat} {f : FuncId} {tmps : Array Value} {asg body : Code} {w : World} {R R' : Value → World → Prop} (h : RoundR P l f tmps asg body w R) (hr : ∀ v w', R v w' → R' v w') : RoundR P l f tmps asg body w R' :=
  fun c cs => let ⟨v, w', a, b⟩ := h c cs; ⟨v, w', hr _ _ a, b⟩
theorem InvR.imp {f : Fn} {args : List Value} {w : World} {R R' : Value → World → Prop} (h : InvR P f args w R) (hr : ∀ v w', R v w' → R' v w') : InvR P f args w R' := by
  intro as cap e hy
  rcases h as cap e hy with ⟨v, w', a, b⟩ | ⟨g, xs, w1, a, b⟩ | ⟨l, g, tmps, asg, body, w1, a, b, c⟩
  · exact .inl ⟨v, w', hr _ _ a, b⟩
  · exact .inr (.inl ⟨g, xs, w1, a, b.imp hr⟩)
  · exact .inr (.inr ⟨l, g, tmps, asg, body, w1, a, b, c.imp hr⟩)

theorem einv_ok (F : Facts P T) (F2 : Facts2 P T) {O : Orc} (hO : OrcOk P T O) : ∀ n, CallOk (α := α) P T (einv P T O n)
  | 0 => fun f args H K r h => by cases h
  | n + 1 => by
    intro f args H K r h g w args' f' hg hgl ha hfn
    cases f with
    | func f =>
      obtain rfl : f' = .func f := by
        rcases hfn with ⟨n, h1, h2⟩ | ⟨l, i, h1, _⟩
        · cases h1; exact h2
        · cases h1
      replace h : O α f args H K (match lget P.funcs.toList f with
          | none => none
          | some fn => (match fn.body with
            | none => eExt T f args H K
            | some c => eBody P T (einv P T O n) n f fn c args H K)) = some r := h
      rcases hO α f args H K _ r h with h | ⟨v, H', h, hq⟩
      case inr => exact (hq g w args' hg hgl ha).imp fun v' w' ⟨g', a, b⟩ => ⟨v, H', g', h, a, b⟩
      intro as cap hsplit hy
      subst hsplit
      have happ : (⟨as⟩ : Array Value) ++ ⟨cap⟩ = ⟨as ++ cap⟩ := by apply Array.ext'; simp
      split at h
      · cases h
      · rename_i fn hfn
        rw [lget_eq] at hfn
        have hfn : P.funcs[f]? = some fn := by simpa using hfn
        split at h
        · rename_i hb
          unfold eExt at h
          split at h
          · rename_i k hk
            obtain ⟨e, h1, h2, h3, h4⟩ := F2.ext f fn k hfn hb hk
            obtain ⟨v, H', hx, hK⟩ := extK_nat h
            obtain ⟨v', w', g', hr, hv, hE⟩ := h4 args H v H' hx g w _ hg ha
            refine .inl ⟨v', w', ⟨v, H', g', hK, hv, hE⟩, ?_⟩
            show (callFunc f ((⟨as⟩ : Array Value) ++ ⟨cap⟩)).run P w = _
            rw [happ, run_callFunc_extern hfn h1 (by simp [hb]) h2 h3, hr]
            rfl
          · cases h
        · rename_i c hb
          refine .inr (.inl ⟨f, _, w, ?_, eBody_ok F F2.mo (einv_ok F F2 hO n) hfn hb (F2.code f fn c hfn hb) n h hg hgl ha⟩)
          show (callFunc f ((⟨as⟩ : Array Value) ++ ⟨cap⟩)).run P w = _
          rw [happ]
          have h1 : fn.name ≠ "runtime.NumGoroutine" := by simpa using F2.nm f fn hfn (by simp [hb])
          simp [callFunc, hfn, h1, hb]
    | yield l =>
      obtain ⟨i, hi, rfl⟩ : ∃ i, g l = some i ∧ f' = .yield i.blk := by
        rcases hfn with ⟨n, h1, h2⟩ | ⟨l, i, h1, h2, h3⟩
        · cases h1
        · cases h1; exact ⟨i, h2, h3⟩
      replace h : eYield P T (einv P T O n) n l args H K = some r := h
      intro as cap hsplit hy
      subst hsplit
      have hcap := hy _ rfl
      subst hcap
      rw [List.append_nil] at ha
      obtain ⟨f, tmps, asg, body, hr, hR⟩ := eYield_ok F F2.mo (einv_ok F F2 hO n) h hg hgl ha hi
      exact .inr (.inr ⟨i.blk, f, tmps, asg, body, w, ⟨_, rfl⟩, hr, hR⟩)
    | _ => cases h

end Go.Ev
end
section
set_option linter.unusedSimpArgs false
set_option linter.unusedVariables false
set_option maxHeartbeats 1000000
namespace Go.Ev
variable {P : Program} {T : Tab}

/-! ### The functions without a body -/
theorem mr0 {g : GM} {H : Hp} {w : World} (h : GR P T g H w) : MR P T g (fun _ => none) (⟨0, .nil, .nil, []⟩ : Env).ls H w := ⟨h, fun t c e => by (cases e), fun t t' c e => by (cases e)⟩
theorem ext0 {g : GM} {H : Hp} {w : World} {ls ls' : LS} {g' : GM} {l' : LM} {H' : Hp} {w' : World} (h : Stp P T g (fun _ => none) ls H w g' l' ls' H' w') : Ext P T (fun _ => False) g H w g' H' w' :=
  h.ext.own_mono fun c ⟨t, e⟩ => by cases e

theorem ext_mark (m : Mark) : ExtSem P T .nop (fun _ => do mark m; pure Extern.Race.none_) := by
  intro args H v H' h g w args' hg ha
  simp only [extK, Option.some.injEq, Prod.mk.injEq] at h
  obtain ⟨rfl, rfl⟩ := h
  exact ⟨_, w, g, rfl, .tuple .nil, Ext.refl hg⟩

theorem ext_addr (m : Addr → Mark) : ExtSem P T .addr0 (Extern.Race.marked m) := by
  intro args H v H' h g w args' hg ha
  simp only [extK] at h
  split at h
  · simp only [Option.some.injEq, Prod.mk.injEq] at h
    obtain ⟨rfl, rfl⟩ := h
    cases ha with
    | cons hx hr =>
      cases hx with
      | ptr hx => exact ⟨_, w, g, rfl, .tuple .nil, Ext.refl hg⟩
  · cases h

theorem ext_same : ExtSem P T .same Extern.AbiNoEscape.same := by
  intro args H v H' h g w args' hg ha
  simp only [extK] at h
  split at h
  · simp only [Option.some.injEq, Prod.mk.injEq] at h
    obtain ⟨rfl, rfl⟩ := h
    cases ha with
    | cons hx hr =>
      cases hr
      exact ⟨_, w, g, rfl, hx, Ext.refl hg⟩
  · cases h

theorem ext_mk {ps : Array TypeId} {t e : TypeId} (ht : P.underlying t = some (.slice e)) : ExtSem P T (.mkNoZero e) (Extern.BytealgMakeNoZero.makeNoZero ps #[t]) := by
  intro args H v H' h g w args' hg ha
  simp only [extK] at h
  split at h
  · rename_i n
    split at h
    · rename_i hn
      simp only [Option.some.injEq, Prod.mk.injEq] at h
      obtain ⟨rfl, rfl⟩ := h
      cases ha with
      | cons hx hr =>
        cases hr
        cases hx
        obtain ⟨n, rfl⟩ := Int.eq_ofNat_of_zero_le hn.1
        obtain ⟨cs, hr, h1, _⟩ := Lib.run_makeNoZero (P := P) w ps t e ht n (by omega)
        have hnew : New w (.cells cs e) (w.drew.drew.alloc (.cells cs e)) := ⟨rfl, rfl, rfl, rfl⟩
        have hobj : ObjR P T g ⟨w.heap.size, 0, cs.size⟩ (.cells (List.replicate (n : Int).toNat topV) e 0 false) (.cells cs e) := by
          refine ⟨cs, 0, 0, rfl, rfl, by simpa using h1, fun k v hk => ?_, .inl rfl, .inl rfl⟩
          have hk' : k < n := by
            rcases Nat.lt_or_ge k n with h | h
            · exact h
            · rw [List.getElem?_eq_none (by simpa using h)] at hk; cases hk
          rw [List.getElem?_replicate, if_pos (by simpa using hk')] at hk
          cases hk
          simp only [Nat.zero_add]
          exact ⟨cs[k]'(by omega), Array.getElem?_eq_getElem _, .top _⟩
        obtain ⟨m1, m2⟩ := (mr0 hg).allocG hnew hobj
        refine ⟨_, _, _, hr, ?_, ext0 m2⟩
        have hb := GM.bind_same g H.next ⟨w.heap.size, 0, cs.size⟩
        exact .slc ⟨rfl, rfl, _, hb, rfl, rfl⟩ (.inr ⟨1, rfl, by simpa using h1, _, hb, by simp⟩)
    · cases h
  · cases h

theorem byte_beq (c : Int) (x : UInt8) : Nat.beq x.toNat (c.toNat % 256) = (x == c.toNat.toUInt8) := by
  rw [Bool.eq_iff_iff]
  simp only [Nat.beq_eq, beq_iff_eq]
  rw [← UInt8.toNat_inj]
  simp

theorem idx_eq (l : List UInt8) (c : UInt8) : Lib.indexByte l c = (match l.findIdx? (fun x => x == c) with | some i => (i : Int) | none => -1) := by
  induction l with
  | nil => rfl
  | cons b l ih =>
    unfold Lib.indexByte
    rw [List.findIdx?_cons]
    cases h : b == c
    · simp only [Bool.false_eq_true, if_false]
      rw [ih]
      cases List.findIdx? (fun x => x == c) l with
      | none => simp
      | some i => simp <;> omega
    · simp

theorem ext_idx : ExtSem P T .idxByte Extern.BytealgIndexByte.indexByte := by
  intro args H v H' h g w args' hg ha
  simp only [extK] at h
  split at h
  · rename_i s c
    simp only [Option.some.injEq, Prod.mk.injEq] at h
    obtain ⟨rfl, rfl⟩ := h
    cases ha with
    | cons hx hr =>
      cases hr with
      | cons hy hr =>
        cases hr
        cases hx
        cases hy
        refine ⟨_, w, g, Lib.run_indexByteString s c w, ?_, Ext.refl hg⟩
        rw [idx_eq]
        have : (fun x : UInt8 => Nat.beq x.toNat (c.toNat % 256)) = fun x => x == c.toNat.toUInt8 := funext fun x => byte_beq c x
        rw [this]
        exact .int _ _
  · cases h

theorem ext_count : ExtSem P T .count Extern.BytealgCount.count := by
  intro args H v H' h g w args' hg ha
  simp only [extK] at h
  split at h
  · rename_i s c
    simp only [Option.some.injEq, Prod.mk.injEq] at h
    obtain ⟨rfl, rfl⟩ := h
    cases ha with
    | cons hx hr =>
      cases hr with
      | cons hy hr =>
        cases hr
        cases hx
        cases hy
        refine ⟨_, w, g, Lib.run_countString s c w, ?_, Ext.refl hg⟩
        have : (fun x : UInt8 => Nat.beq x.toNat (c.toNat % 256)) = fun x => x == c.toNat.toUInt8 := funext fun x => byte_beq c x
        rw [this]
        exact .int _ _
  · cases h

theorem carry01 {c : Int} (h : c.toNat ≤ 1) : c.toNat = 0 ∨ c.toNat = 1 := by omega

theorem ext_add64 : ExtSem P T .add64 add64Entry := by
  intro args H v H' h g w args' hg ha
  simp only [extK] at h
  split at h
  · rename_i k1 x k2 y k3 c
    split at h
    · rename_i hc
      simp only [Option.some.injEq, Prod.mk.injEq] at h
      obtain ⟨rfl, rfl⟩ := h
      cases ha with
      | cons hx hr =>
        cases hr with
        | cons hy hr =>
          cases hr with
          | cons hz hr =>
            cases hr
            cases hx
            cases hy
            cases hz
            refine ⟨.tuple #[.int .u64 (Int.ofNat ((x.toNat + y.toNat + c.toNat) % Extern.MathBitsCarry.m64)), .int .u64 (Int.ofNat ((x.toNat + y.toNat + c.toNat) / Extern.MathBitsCarry.m64))], w, g, ?_, ?_, Ext.refl hg⟩
            · cases c with
              | ofNat n =>
                have : n = 0 ∨ n = 1 := by simp at hc; omega
                rcases this with rfl | rfl <;> rfl
              | negSucc n => rfl
            · exact .tuple (.cons (.int _ _) (.cons (.int _ _) .nil))
    · cases h
  · cases h

def sub64E : Array Value → Sem Value := fun args => do
  let (x, y, b) ← Extern.MathBitsCarry.three "Sub64" args
  pure (Extern.MathBitsCarry.pair ((x + Extern.MathBitsCarry.m64 - y - b) % Extern.MathBitsCarry.m64) (if x < y + b then 1 else 0))

theorem ext_sub64 : ExtSem P T .sub64 sub64E := by
  intro args H v H' h g w args' hg ha
  simp only [extK] at h
  split at h
  · rename_i k1 x k2 y k3 c
    split at h
    · rename_i hc
      simp only [Option.some.injEq, Prod.mk.injEq] at h
      obtain ⟨rfl, rfl⟩ := h
      cases ha with
      | cons hx hr =>
        cases hr with
        | cons hy hr =>
          cases hr with
          | cons hz hr =>
            cases hr
            cases hx
            cases hy
            cases hz
            refine ⟨.tuple #[.int .u64 (Int.ofNat ((x.toNat + Extern.MathBitsCarry.m64 - y.toNat - c.toNat) % Extern.MathBitsCarry.m64)), .int .u64 (Int.ofNat (if x.toNat < y.toNat + c.toNat then 1 else 0))], w, g, ?_, ?_, Ext.refl hg⟩
            · cases c with
              | ofNat n =>
                have : n = 0 ∨ n = 1 := by simp at hc; omega
                rcases this with rfl | rfl <;> rfl
              | negSucc n => rfl
            · have e : (Int.ofNat (if x.toNat < y.toNat + c.toNat then 1 else 0)) = (if x.toNat < y.toNat + c.toNat then 1 else 0 : Int) := by split <;> rfl
              rw [e]
              exact .tuple (.cons (.int _ _) (.cons (.int _ _) .nil))
    · cases h
  · cases h

/-! #### Of one cell -/
theorem ar_ptr {g : GM} {a a' : Addr} (h : AR g a a') : PR g (fun _ => none) a a' := .inl h

theorem rd1 {g : GM} {H : Hp} {w : World} (hg : GR P T g H w) {a a' : Addr} (ha : AR g a a') {v : Value} (hr : rd ⟨0, .nil, .nil, []⟩ H a 1 = some [v]) : ∃ v', VG g v v' ∧ w.cell? a' = some v' := by
  obtain ⟨cs', hv, hl, c, e, fr, hb, hc⟩ := rd_ok (mr0 hg) (ar_ptr ha) hr
  cases hv with
  | cons hv k =>
    cases k
    refine ⟨_, hv, ?_⟩
    have := hc 0 _ rfl
    simp only [World.cell?, hb, ha.2.1]
    simpa using this

theorem wr1 {g : GM} {H : Hp} {w : World} (hg : GR P T g H w) {a a' : Addr} (ha : AR g a a') {v v' : Value} (hv : VG g v v') (_ho : one v = true) {α : Type} {K : Env → Hp → Option α} {r : α} (hr : wr ⟨0, .nil, .nil, []⟩ H a [v] K = some r) :
    ∃ H', K ⟨0, .nil, .nil, []⟩ H' = some r ∧ (∃ u, w.cell? a' = some u) ∧ w.frozen? a' = false ∧ Ext P T (fun _ => False) g H w g H' (w.setCell a' v') := by
  obtain ⟨p, q, i, hi, e1, e2⟩ := ha
  unfold wr at hr
  rw [p] at hr
  simp only at hr
  split at hr
  · rename_i c e fz sg hb
    split at hr
    · rename_i hfz
      have hfz : fz ≤ a.off := by simpa using hfz
      split at hr
      · rename_i c1 hlay
        obtain ⟨o', ho', c', lo, hi', e3, e4, e5, hc, e6, e7⟩ := hg.obj _ _ _ hi hb
        subst e3
        obtain ⟨h1, h2, h3⟩ := lay_some hlay
        simp only [List.length_cons, List.length_nil, Nat.zero_add] at h1
        have hlt : a'.off < c'.size := by omega
        have hblk : w.heap[a'.block]? = some (.cells c' e (lo, hi')) := by rw [e1]; exact ho'
        have hu := Upd.setCell hblk q v'
        have hcell := lay_cellsR hc (by omega) hlay (.cons hv .nil)
        have hla : layA c' (a.off + i.del) [v'] = c'.setIfInBounds a'.off v' := by
          simp [layA, e2]
        rw [hla] at hcell
        rw [e1] at hu
        obtain ⟨m1, m2⟩ := (mr0 hg).updG hi hb (by unfold isRo; exact blt_false.2 (by omega)) hu (o' := .cells c1 e fz sg) ⟨_, lo, hi', rfl, by simpa using e4, by rw [h2]; exact e5, hcell, e6, e7⟩
        refine ⟨_, hr, ⟨c'[a'.off], ?_⟩, ?_, ext0 m2⟩
        · simp [World.cell?, hblk, q, hlt]
        · have hno : ¬ (lo ≤ a'.off ∧ a'.off < hi') := by
            rintro ⟨k1, k2⟩
            rcases e6 with e6 | e6 | e6
            · omega
            · omega
            · cases sg
              · simp only [Bool.false_eq_true, if_false] at e6; omega
              · simp only [if_true] at e6; omega
          simp only [World.frozen?, hblk]
          simpa using hno
      · cases hr
    · cases hr
  · cases hr

theorem ext_load (k : IntKind) : ExtSem P T (.load k) (Extern.Atomic.loadT (.int k)) := by
  intro args H v H' h g w args' hg ha
  simp only [extK] at h
  split at h
  · rename_i a
    split at h
    · rename_i k' n hr
      split at h
      · rename_i hk
        have hk : k = k' := by simpa using hk
        subst hk
        simp only [Option.some.injEq, Prod.mk.injEq] at h
        obtain ⟨rfl, rfl⟩ := h
        cases ha with
        | cons hx hr' =>
          cases hr'
          cases hx with
          | ptr hx =>
            obtain ⟨v', hv, hc⟩ := rd1 hg hx hr
            cases hv
            refine ⟨.int k n, w, g, ?_, .int _ _, Ext.refl hg⟩
            change Sem.run P (do Extern.Atomic.read (.int k) (← asAddr (.pointer (some _)))) w = _
            simp [Extern.Atomic.read, asAddr, hc]
      · cases h
    · cases h
  · cases h

theorem ext_store : ExtSem P T .store Extern.Atomic.storeT := by
  intro args H v H' h g w args' hg ha
  simp only [extK] at h
  split at h
  · rename_i a x
    split at h
    · cases h
    · rename_i hs
      split at h
      · rename_i ho
        simp only [Bool.and_eq_true] at ho
        cases ha with
        | cons hx hr =>
          cases hr with
          | cons hy hr =>
            cases hr
            cases hx with
            | ptr hx =>
              rename_i y' a'
              obtain ⟨H1, hK, ⟨u, hc⟩, hz, hE⟩ := wr1 hg hx hy ho.1 h
              simp only [Option.some.injEq, Prod.mk.injEq] at hK
              obtain ⟨rfl, rfl⟩ := hK
              refine ⟨_, _, g, ?_, .tuple .nil, hE⟩
              change Sem.run P (do
                store (← asAddr (.pointer (some a'))) y' .atomic
                pure Extern.Atomic.none_) w = _
              have h1 : one y' = true := hy.one ho.1
              simp [asAddr, hc, hz, run_store P w a' y' .atomic (by cases y' <;> first | rfl | cases h1), Result.andThen, Extern.Atomic.none_]
      · cases h
  · cases h

theorem ext_cas (k : IntKind) : ExtSem P T (.cas k) (Extern.Atomic.casT (.int k)) := by
  intro args H v H' h g w args' hg ha
  simp only [extK] at h
  split at h
  · rename_i a k1 y k2 z
    split at h
    · cases h
    · rename_i hs
      split at h
      · rename_i k' x hr
        split at h
        · rename_i hk
          have hk : k = k' := by simpa using hk
          subst hk
          cases ha with
          | cons hp hr' =>
            cases hr' with
            | cons hy hr' =>
              cases hr' with
              | cons hz hr' =>
                cases hr'
                cases hy
                cases hz
                cases hp with
                | ptr hp =>
                  rename_i a'
                  obtain ⟨v', hv, hc⟩ := rd1 hg hp hr
                  cases hv
                  have heq : (Extern.Atomic.casT (.int k) #[.pointer (some a'), .int k1 y, .int k2 z]) = (do
                      let a' ← asAddr (.pointer (some a'))
                      if ← Extern.Atomic.touchesFrozen a' then unsupported (.unsafePointer "a write to bytes that a string shares")
                      let eq ← match Extern.Atomic.T.int k, ← Extern.Atomic.read (.int k) a', Value.int k1 y with
                        | _, .int _ x, .int _ y => pure (x == y)
                        | .ptr, .pointer x, .pointer y => samePointer x y
                        | .int _, .pointer (some _), .int _ 0 | .int _, .int _ 0, .pointer (some _) => pure false
                        | .int _, .pointer (some _), _ | .int _, _, .pointer (some _) => unsupported .addressObserved
                        | _, _, _ => stuck "atomic.CompareAndSwap: old is no T"
                      if eq then store a' (.int k2 z) .atomic
                      pure (Value.bool eq)) := rfl
                  split at h
                  · rename_i hxy
                    obtain ⟨H1, hK, _, hz, hE⟩ := wr1 hg hp (.int k2 z) rfl h
                    simp only [Option.some.injEq, Prod.mk.injEq] at hK
                    obtain ⟨rfl, rfl⟩ := hK
                    have hxy : x = y := by simpa using hxy
                    subst hxy
                    refine ⟨.bool true, _, g, ?_, .bool true, hE⟩
                    show (Extern.Atomic.casT (.int k) #[.pointer (some a'), .int k1 x, .int k2 z]).run P w = _
                    rw [heq]
                    simp [Extern.Atomic.touchesFrozen, Extern.Atomic.read, asAddr, viewAt, World.shape?_isSome_of_cell? hc, hc, hz, run_store P w a' (.int k2 z) .atomic rfl, Result.andThen]
                  · rename_i hxy
                    obtain ⟨H1, hK, _, hz, _⟩ := wr1 hg hp (.int k x) rfl h
                    simp only [Option.some.injEq, Prod.mk.injEq] at hK
                    obtain ⟨rfl, rfl⟩ := hK
                    have hxy : ¬ x = y := by simpa using hxy
                    refine ⟨.bool false, w, g, ?_, .bool false, Ext.refl hg⟩
                    show (Extern.Atomic.casT (.int k) #[.pointer (some a'), .int k1 y, .int k2 z]).run P w = _
                    rw [heq]
                    simp [Extern.Atomic.touchesFrozen, Extern.Atomic.read, asAddr, viewAt, World.shape?_isSome_of_cell? hc, hc, hz, hxy, Result.andThen]
        · cases h
      · cases h
  · cases h

theorem ext_add (k : IntKind) (hadd : ∀ x y (w : World), (Op.intArith .add k x y).run P w = .ok (.int k (k.wrap (x + y))) w) : ExtSem P T (.add k) (Extern.Atomic.update (Op.intArith .add) k true) := by
  intro args H v H' h g w args' hg ha
  simp only [extK] at h
  split at h
  · rename_i a k1 y
    split at h
    · cases h
    · rename_i hs
      split at h
      · rename_i k' x hr
        split at h
        · rename_i hk
          have hk : k = k' := by simpa using hk
          subst hk
          cases ha with
          | cons hp hr' =>
            cases hr' with
            | cons hy hr' =>
              cases hr'
              cases hy
              cases hp with
              | ptr hp =>
                rename_i a'
                obtain ⟨v', hv, hc⟩ := rd1 hg hp hr
                cases hv
                obtain ⟨H1, hK, _, hz, hE⟩ := wr1 hg hp (.int k (kw k (x + y))) rfl h
                simp only [Option.some.injEq, Prod.mk.injEq] at hK
                obtain ⟨rfl, rfl⟩ := hK
                rw [kw_eq] at hE ⊢
                refine ⟨.int k (k.wrap (x + y)), _, g, ?_, .int _ _, hE⟩
                change Sem.run P (do
                  let a' ← asAddr (.pointer (some a'))
                  let old ← Extern.Atomic.read (.int k) a'
                  let new ← Op.intArith .add k (← asInt old) (← asInt (.int k1 y))
                  store a' new .atomic
                  pure (if true = true then new else old)) w = _
                simp [Extern.Atomic.read, asAddr, asInt, asIntOf, hc, hz, hadd, run_store P w a' (.int k (k.wrap (x + y))) .atomic rfl, Result.andThen]
        · cases h
      · cases h
  · cases h

end Go.Ev
end
section
set_option linter.unusedSimpArgs false
set_option linter.unusedVariables false
set_option maxHeartbeats 1000000
namespace Go.Ev
variable {P : Program} {T : Tab}

/-! ### A call of which nothing remains but its result -/
mutual
/-- No pointers. -/
def clo : Value → Bool
  | .bool _ => true
  | .int _ _ => true
  | .string _ => true
  | .pointer none => true
  | .slice none _ _ => true
  | .map none => true
  | .nilFunc => true
  | .nilIface => true
  | .agg l => cloL l.toList
  | .tuple l => cloL l.toList
  | _ => false
def cloL : List Value → Bool
  | [] => true
  | v :: l => clo v && cloL l
end
theorem cloL_cons (v : Value) (l : List Value) : cloL (v :: l) = (clo v && cloL l) := by simp [cloL]

mutual
theorem VG.clo {g g' : GM} : ∀ {v v' : Value}, VG g v v' → clo v = true → VG g' v v'
  | _, _, .top v, _ => .top v
  | _, _, .bool b, _ => .bool b
  | _, _, .int k n, _ => .int k n
  | _, _, .string s, _ => .string s
  | _, _, .ptrN, _ => .ptrN
  | _, _, .ptr a, h => by simp [Ev.clo] at h
  | _, _, .slcN l c, _ => .slcN l c
  | _, _, .slc a c, h => by simp [Ev.clo] at h
  | _, _, .slcE e p b hb c hc, h => by simp [Ev.clo] at h
  | _, _, .mapN, _ => .mapN
  | _, _, .map e, h => by simp [Ev.clo] at h
  | _, _, .nilF, _ => .nilF
  | _, _, .nilI, _ => .nilI
  | _, _, .func a b, h => by simp [Ev.clo] at h
  | _, _, .yield e, h => by simp [Ev.clo] at h
  | _, _, .iface t a, h => by simp [Ev.clo] at h
  | _, _, .agg a, h => .agg (VGL.clo a (by simpa [Ev.clo] using h))
  | _, _, .tuple a, h => .tuple (VGL.clo a (by simpa [Ev.clo] using h))
theorem VGL.clo {g g' : GM} : ∀ {l l' : List Value}, VGL g l l' → cloL l = true → VGL g' l l'
  | _, _, .nil, _ => .nil
  | _, _, .cons a b, h => by
    rw [cloL_cons, Bool.and_eq_true] at h
    exact .cons (VG.clo a h.1) (VGL.clo b h.2)
end

/-- Blocks without pointers. -/
def cloO : AObj → Bool
  | .cells c _ _ _ => cloL c
  | _ => false
theorem cloL_get : ∀ {l : List Value} {k : Nat} {v : Value}, cloL l = true → l[k]? = some v → clo v = true
  | [], k, v, _, h => by simp at h
  | a :: l, 0, v, hc, h => by rw [cloL_cons, Bool.and_eq_true] at hc; simp at h; rw [← h]; exact hc.1
  | a :: l, k + 1, v, hc, h => by rw [cloL_cons, Bool.and_eq_true] at hc; simp at h; exact cloL_get hc.2 h
theorem ObjR.clo {g g' : GM} {i : Img} {o : AObj} {ob : Obj} (h : ObjR P T g i o ob) (hc : cloO o = true) : ObjR P T g' i o ob := by
  cases o with
  | cells c e fz sg =>
    obtain ⟨c', lo, hi, h1, h2, h3, h4, h5, h6⟩ := h
    refine ⟨c', lo, hi, h1, h2, h3, fun k v hk => ?_, h5, h6⟩
    obtain ⟨v', p, q⟩ := h4 k v hk
    exact ⟨v', p, q.clo (cloL_get hc hk)⟩
  | _ => cases hc

/-- The blocks that lie beneath: those of the variables of packages. -/
structure Base (T : Tab) (B : Hp) (H : Hp) : Prop where
  next : B.next = T.ng
  le : T.ng ≤ H.next
  get : ∀ b o, B.get b = some o → H.get b = some o
  clo : ∀ b o, B.get b = some o → cloO o = true
  ro : ∀ b o, B.get b = some o → isRo o = true

theorem gc_gr {B H : Hp} (hB : Base T B H) {g : GM} {w : World} (hg : GR P T g H w) : GR P T (fun b => if b < T.ng then g b else none) B w where
  dom b i h := by
    split at h
    · rw [hB.next]; assumption
    · cases h
  lt b i h := by
    split at h
    · exact hg.lt b i h
    · cases h
  obj b i o h ho := by
    split at h
    · obtain ⟨x, hx, hy⟩ := hg.obj b i o h (hB.get b o ho)
      exact ⟨x, hx, hy.clo (hB.clo b o ho)⟩
    · cases h
  inj b₁ b₂ i₁ i₂ o₁ o₂ e₁ e₂ p₁ p₂ q := by
    split at e₁
    · split at e₂
      · exact hg.inj b₁ b₂ i₁ i₂ o₁ o₂ e₁ e₂ (hB.get _ _ p₁) (hB.get _ _ p₂) q
      · cases e₂
    · cases e₁

theorem gc_ext {B H B' : Hp} (hB : Base T B H) (hB' : ∀ b o, B.get b = some o → B'.get b = some o) {g g' : GM} {w w' : World} (hg : GR P T g H w) (hx : Ext P T (fun _ => False) (fun b => if b < T.ng then g b else none) B w g' B' w') :
    Ext P T (fun _ => False) g H w g H w' := by
  have hlive : ∀ c, Live (fun b => if b < T.ng then g b else none) B c → Live g H c := by
    rintro c ⟨b, i, o, hb, ho, rfl⟩
    dsimp only at hb
    split at hb
    · exact ⟨b, i, o, hb, hB.get b o ho, rfl⟩
    · cases hb
  have gr : GR P T g H w' := by
    refine ⟨hg.dom, fun b i h => Nat.lt_of_lt_of_le (hg.lt b i h) hx.size, fun b i o h ho => ?_, hg.inj⟩
    by_cases hl : Live (fun b => if b < T.ng then g b else none) B i.blk
    · obtain ⟨b', i', o', hb', ho', e⟩ := hl
      dsimp only at hb'
      by_cases hlt : b' < T.ng
      · rw [if_pos hlt] at hb'
        have hH := hB.get b' o' ho'
        have hbb : b' = b := hg.inj b' b i' i o' o hb' h hH ho e
        subst hbb
        rw [hb'] at h; cases h
        rw [hH] at ho; cases ho
        obtain ⟨x, hx1, hx2⟩ := hx.gr.obj b' _ _ (hx.le b' _ (by rw [if_pos hlt]; exact hb')) (hB' b' _ ho')
        exact ⟨x, hx1, hx2.clo (hB.clo b' _ ho')⟩
      · rw [if_neg hlt] at hb'; cases hb'
    · obtain ⟨x, hx1, hx2⟩ := hg.obj b i o h ho
      exact ⟨x, by rw [hx.frame i.blk (hg.lt b i h) hl (fun q => q)]; exact hx1, hx2⟩
  exact ⟨g.le_refl, gr, hx.size, fun _ _ h => .inl h, fun _ _ _ => rfl, fun _ _ h => h, Nat.le_refl _, fun c hc hl _ => hx.frame c hc (fun q => hl (hlive c q)) (fun q => q), hx.os, hx.tape, hx.output, fun b i o e eo er => ⟨eo, by
    by_cases hl : Live (fun b => if b < T.ng then g b else none) B i.blk
    · obtain ⟨b', i', o', hb', ho', q⟩ := hl
      have := (hx.ro b' i' o' hb' ho' (hB.ro b' o' ho')).2
      rw [q] at this; exact this
    · exact hx.frame i.blk (hg.lt b i e) hl (fun q => q)⟩⟩

/-- A call, carried out over the base alone, of arguments and to a result without pointers. -/
theorem orc_of {O : Orc} (F : Facts P T) (F2 : Facts2 P T) (hO : OrcOk P T O) {B H B' : Hp} (hB : Base T B H) (hB' : ∀ b o, B.get b = some o → B'.get b = some o) {n : Nat} {f : FuncId} {args : List Value} {v : Value}
    (he : einv P T O n (.func f) args B (fun v H => some (v, H)) = some (v, B')) (ha : cloL args = true) (hv : clo v = true) :
    ∀ (g : GM) (w : World) (args' : List Value), GR P T g H w → GLB T g → VGL g args args' → InvR P (.func f) args' w (fun v' w' => ∃ g', VG g' v v' ∧ Ext P T (fun _ => False) g H w g' H w') := by
  intro g w args' hg hgl hargs
  have h1 := einv_ok F F2 hO n (.func f) args B _ _ he _ w args' (.func f) (gc_gr hB hg) (fun b hb => by rw [if_pos hb]; exact hgl b hb) (hargs.clo ha) (.inl ⟨f, rfl, rfl⟩)
  refine h1.imp fun v' w' ⟨v1, H1, g1, hk, hv1, hx⟩ => ?_
  simp only [Option.some.injEq, Prod.mk.injEq] at hk
  obtain ⟨rfl, rfl⟩ := hk
  exact ⟨g, hv1.clo hv, gc_ext hB hB' hg hx⟩

end Go.Ev
end
section
set_option linter.unusedSimpArgs false
set_option linter.unusedVariables false
set_option maxHeartbeats 1000000
namespace Go.Ev

/-! ### The facts, as tests -/
def eqsB (P : Program) (t : TypeId) : Bool :=
  match P.underlying t with
  | some (.struct fs) => fs.toList.all (fun f => f.name != "_") && !(P.stoodInHeld t) && !(P.eqGuardType P.depth t)
  | _ => false
theorem Facts.of {P : Program} {T : Tab} (h : T.eqs.all (eqsB P) = true) : Facts P T := by
  refine ⟨fun t ht => ?_⟩
  have := List.all_eq_true.1 h t (memN_iff.1 ht)
  unfold eqsB at this
  split at this
  · rename_i fs hu
    simp only [Bool.and_eq_true, Bool.not_eq_true'] at this
    refine ⟨fs, hu, fun f hf => ?_, this.1.2, this.2⟩
    have := List.all_eq_true.1 this.1.1 f hf
    simpa using this
  · cases this

noncomputable def codeB (P : Program) (T : Tab) : Nat → List Func → Bool
  | _, [] => true
  | i, f :: l => (match f.body with | some c => codeOk P T i c | none => true) && codeB P T (i + 1) l
theorem codeB_get {P : Program} {T : Tab} : ∀ (l : List Func) (i k : Nat) (fn : Func) (c : Code), codeB P T i l = true → l[k]? = some fn → fn.body = some c → codeOk P T (i + k) c = true
  | [], i, k, fn, c, h, hk, hb => by simp at hk
  | f :: l, i, 0, fn, c, h, hk, hb => by
    simp at hk
    subst hk
    simp only [codeB, Bool.and_eq_true] at h
    have := h.1
    rw [hb] at this
    exact this
  | f :: l, i, k + 1, fn, c, h, hk, hb => by
    simp only [codeB, Bool.and_eq_true] at h
    simp at hk
    have := codeB_get l (i + 1) k fn c h.2 hk hb
    rwa [show i + 1 + k = i + (k + 1) from by omega] at this

/-- The rows for the functions without a body. -/
def extB (P : Program) (f : FuncId) (k : ExtK) : Prop :=
  ∃ fn e, P.funcs[f]? = some fn ∧ (fn.name == "runtime.NumGoroutine") = false ∧ Extern.findNext fn = none ∧ Extern.find fn = some e ∧
    (match k with
    | .nop => ∃ m, e = (fun _ => do mark m; pure Extern.Race.none_)
    | .addr0 => ∃ m, e = Extern.Race.marked m
    | .same => e = Extern.AbiNoEscape.same
    | .mkNoZero t => ∃ ps s, e = Extern.BytealgMakeNoZero.makeNoZero ps #[s] ∧ P.underlying s = some (.slice t)
    | .load k => e = Extern.Atomic.loadT (.int k)
    | .store => e = Extern.Atomic.storeT
    | .cas k => e = Extern.Atomic.casT (.int k)
    | .add k => e = Extern.Atomic.update (Op.intArith .add) k true
    | .idxByte => e = Extern.BytealgIndexByte.indexByte
    | .count => e = Extern.BytealgCount.count
    | .add64 => e = add64Entry
    | .sub64 => e = sub64E)

theorem run_intAdd {P : Program} (k : IntKind) (x y : Int) (w : World) : (Op.intArith .add k x y).run P w = .ok (.int k (k.wrap (x + y))) w := rfl

theorem extB_sem {P : Program} {T : Tab} {f : FuncId} {k : ExtK} (h : extB P f k) {fn : Func} (hf : P.funcs[f]? = some fn) :
    ∃ e, (fn.name == "runtime.NumGoroutine") = false ∧ Extern.findNext fn = none ∧ Extern.find fn = some e ∧ ExtSem P T k e := by
  obtain ⟨fn', e, h1, h2, h3, h4, h5⟩ := h
  rw [hf] at h1
  cases h1
  refine ⟨e, h2, h3, h4, ?_⟩
  cases k with
  | nop => obtain ⟨m, rfl⟩ := h5; exact ext_mark m
  | addr0 => obtain ⟨m, rfl⟩ := h5; exact ext_addr m
  | same => subst h5; exact ext_same
  | mkNoZero t => obtain ⟨ps, s, rfl, hu⟩ := h5; exact ext_mk hu
  | load k => subst h5; exact ext_load k
  | store => subst h5; exact ext_store
  | cas k => subst h5; exact ext_cas k
  | add k => subst h5; exact ext_add k (run_intAdd k)
  | idxByte => subst h5; exact ext_idx
  | count => subst h5; exact ext_count
  | add64 => subst h5; exact ext_add64
  | sub64 => subst h5; exact ext_sub64

theorem look_mem {α : Type} : ∀ {l : List (Nat × α)} {n : Nat} {a : α}, look l n = some a → (n, a) ∈ l
  | [], n, a, h => by cases h
  | (k, b) :: l, n, a, h => by
    have h : (Bool.rec (motive := fun _ => Option α) (look l n) (some b) (Nat.beq k n)) = some a := h
    cases e : Nat.beq k n with
    | true =>
      rw [e] at h
      have e := Nat.eq_of_beq_eq_true e
      subst e
      cases h
      exact List.mem_cons_self ..
    | false =>
      rw [e] at h
      exact List.mem_cons_of_mem _ (look_mem h)

theorem Facts2.of {P : Program} {T : Tab} (h1 : P.follows .mixedOrders = true) (h2 : P.funcs.toList.all (fun fn => !(fn.name == "runtime.NumGoroutine")) = true) (h3 : codeB P T 0 P.funcs.toList = true)
    (h4 : ∀ p ∈ T.ext, extB P p.1 p.2) : Facts2 P T where
  mo := h1
  nm f fn hf _ := by
    have := List.all_eq_true.1 h2 fn (Array.mem_toList_iff.2 (Array.mem_of_getElem? hf))
    simpa using this
  code f fn c hf hb := by
    have := codeB_get P.funcs.toList 0 f fn c h3 (by simpa using hf) hb
    rwa [Nat.zero_add] at this
  ext f fn k hf _ hk := extB_sem (h4 (f, k) (look_mem hk)) hf

/-- All rows. -/
def extAll (P : Program) : List (FuncId × ExtK) → Prop
  | [] => True
  | p :: l => extB P p.1 p.2 ∧ extAll P l
theorem extAll_mem {P : Program} : ∀ {l : List (FuncId × ExtK)}, extAll P l → ∀ p ∈ l, extB P p.1 p.2
  | [], _, p, hp => by simp at hp
  | q :: l, h, p, hp => by
    rcases List.mem_cons.1 hp with rfl | hp
    · exact h.1
    · exact extAll_mem h.2 p hp

end Go.Ev
end
section
set_option linter.unusedSimpArgs false
set_option linter.unusedVariables false
set_option maxHeartbeats 1000000
namespace Go.Ev
variable {P : Program} {T : Tab}

/-! ### Whole numbers of a kind -/
theorem kw_i64 (n : Int) : kw .i64 n = (n + 9223372036854775808) % 18446744073709551616 - 9223372036854775808 := by
  rw [kw_eq]; simp [IntKind.wrap, IntKind.bits, IntKind.signed]; omega
theorem kw_u64 (n : Int) : kw .u64 n = n % 18446744073709551616 := by
  rw [kw_eq]; simp [IntKind.wrap, IntKind.bits, IntKind.signed]
theorem kw_u32 (n : Int) : kw .u32 n = n % 4294967296 := by
  rw [kw_eq]; simp [IntKind.wrap, IntKind.bits, IntKind.signed]
theorem kw_i32 (n : Int) : kw .i32 n = (n + 2147483648) % 4294967296 - 2147483648 := by
  rw [kw_eq]; simp [IntKind.wrap, IntKind.bits, IntKind.signed]; omega
theorem kw_u8 (n : Int) : kw .u8 n = n % 256 := by
  rw [kw_eq]; simp [IntKind.wrap, IntKind.bits, IntKind.signed]
theorem kwi (n : Int) (h : -9223372036854775808 ≤ n) (k : n ≤ 9223372036854775807) : kw .i64 n = n := by rw [kw_i64]; omega
theorem kwu (n : Int) (h : 0 ≤ n) (k : n ≤ 18446744073709551615) : kw .u64 n = n := by rw [kw_u64]; omega
theorem kwu32 (n : Int) (h : 0 ≤ n) (k : n ≤ 4294967295) : kw .u32 n = n := by rw [kw_u32]; omega
theorem kwu8 (n : Int) (h : 0 ≤ n) (k : n ≤ 255) : kw .u8 n = n := by rw [kw_u8]; omega

/-! ### What a run comes to -/
/-- Among the blocks are those that lie beneath. -/
structure Beneath (T : Tab) (B : Hp) (t : Hp → Bool) : Prop where
  next : B.next = T.ng
  ok : ∀ H, t H = true → ∀ b o, B.get b = some o → H.get b = some o
  clo : ∀ b o, B.get b = some o → cloO o = true
  ro : ∀ b o, B.get b = some o → isRo o = true

section
variable {t : Hp → Bool}
def Res (t : Hp → Bool) (v : Value) (r : Option (Value × Hp)) : Prop := ∃ B', t B' = true ∧ r = some (v, B')
theorem Res.ct {v : Value} {p : Prop} [Decidable p] {a b : Option (Value × Hp)} (h : p) (k : Res t v a) : Res t v (cond (decide p) a b) := by
  rw [decide_eq_true h]; exact k
theorem Res.cf {v : Value} {p : Prop} [Decidable p] {a b : Option (Value × Hp)} (h : ¬ p) (k : Res t v b) : Res t v (cond (decide p) a b) := by
  rw [decide_eq_false h]; exact k
theorem Res.ctb {v : Value} {c : Bool} {a b : Option (Value × Hp)} (h : c = true) (k : Res t v a) : Res t v (cond c a b) := by
  rw [h]; exact k
theorem Res.cfb {v : Value} {c : Bool} {a b : Option (Value × Hp)} (h : c = false) (k : Res t v b) : Res t v (cond c a b) := by
  rw [h]; exact k
theorem Res.split {v : Value} {p : Prop} [Decidable p] {a b : Option (Value × Hp)} (h : p → Res t v a) (k : ¬ p → Res t v b) : Res t v (cond (decide p) a b) := by
  by_cases hp : p
  · exact .ct hp (h hp)
  · exact .cf hp (k hp)
theorem Res.splitb {v : Value} {c : Bool} {a b : Option (Value × Hp)} (h : c = true → Res t v a) (k : c = false → Res t v b) : Res t v (cond c a b) := by
  cases c
  · exact k rfl
  · exact h rfl
theorem Res.eqt {v : Value} {x y : Int} {a b : Option (Value × Hp)} (h : x = y) (k : Res t v a) : Res t v (cond (x == y) a b) := by
  rw [beq_iff_eq.2 h]; exact k
theorem Res.eqf {v : Value} {x y : Int} {a b : Option (Value × Hp)} (h : ¬ x = y) (k : Res t v b) : Res t v (cond (x == y) a b) := by
  rw [beq_eq_false_iff_ne.2 h]; exact k
theorem Res.net {v : Value} {x y : Int} {a b : Option (Value × Hp)} (h : ¬ x = y) (k : Res t v a) : Res t v (cond (x != y) a b) := by
  rw [bne_iff_ne.2 h]; exact k
theorem Res.nef {v : Value} {x y : Int} {a b : Option (Value × Hp)} (h : x = y) (k : Res t v b) : Res t v (cond (x != y) a b) := by
  subst h; simpa using k
theorem Res.andt {v : Value} {p q : Prop} [Decidable p] [Decidable q] {a b : Option (Value × Hp)} (h : p ∧ q) (k : Res t v a) : Res t v (cond (decide p && decide q) a b) := by
  rw [decide_eq_true h.1, decide_eq_true h.2]; exact k
theorem Res.it {v : Value} {p : Prop} [Decidable p] {a b : Option (Value × Hp)} (h : p) (k : Res t v a) : Res t v (if p then a else b) := by
  rw [if_pos h]; exact k
theorem Res.if {v : Value} {p : Prop} [Decidable p] {a b : Option (Value × Hp)} (h : ¬ p) (k : Res t v b) : Res t v (if p then a else b) := by
  rw [if_neg h]; exact k
theorem Res.el {v : Value} {β : Type} {o : Option β} {x : β} {f : β → Option (Value × Hp)} {z : Option (Value × Hp)} (h : o = some x) (k : Res t v (f x)) : Res t v (Option.elim o z f) := by
  rw [h]; exact k
theorem Res.done {v v' : Value} {B' : Hp} (h : v' = v) (k : t B' = true) : Res t v (some (v', B')) := ⟨B', k, by rw [h]⟩

variable (P T) in
/-- A function comes to a value, over what lies beneath. -/
def Runs (B : Hp) (t : Hp → Bool) (O : Orc) (f : FuncId) (args : List Value) (v : Value) : Prop := ∃ n, Res t v (einv P T O n (.func f) args B (fun v H => some (v, H)))

/-- What is known of a function: by its arguments, when, and what it comes to. -/
def orcB (t : Hp → Bool) (f : FuncId) (m : List Value → Option (Bool × Value)) : Orc := fun _ g args H K b =>
  cond (Nat.beq g f) (match m args with
    | some r => (match r with | (ok, v) => cond (t H) (cond ok (K v H) none) none)
    | none => b) b
def orcA (O O' : Orc) : Orc := fun α f args H K b => O α f args H K (O' α f args H K b)

theorem orcA_ok {O O' : Orc} (h : OrcOk P T O) (h' : OrcOk P T O') : OrcOk P T (orcA O O') := by
  intro α f args H K b r hr
  rcases h α f args H K _ r hr with e | e
  · exact h' α f args H K b r e
  · exact .inr e

theorem orcB_ok' {B : Hp} (hB : Beneath T B t) (F : Facts P T) (F2 : Facts2 P T) {f : FuncId} {m : List Value → Option (Bool × Value)}
    (h : ∀ args v, m args = some (true, v) → cloL args = true ∧ clo v = true ∧ ∃ O, OrcOk P T O ∧ Runs P T B t O f args v) : OrcOk P T (orcB t f m) := by
  intro α g args H K b r hr
  unfold orcB at hr
  cases hf : Nat.beq g f with
  | false => rw [hf] at hr; exact .inl hr
  | true =>
    have hf := Nat.eq_of_beq_eq_true hf
    subst hf
    have e : Nat.beq g g = true := by simp
    rw [e] at hr
    simp only [cond_true] at hr
    split at hr
    · rename_i q hq
      obtain ⟨ok, v⟩ := q
      simp only at hr
      cases ht : t H with
      | false => rw [ht] at hr; cases hr
      | true =>
        rw [ht] at hr
        cases ok with
        | false => cases hr
        | true =>
          obtain ⟨h1, h2, O, hO, n, B', h3, h4⟩ := h args v hq
          refine .inr ⟨v, H, hr, fun g' w args' hg hgl ha => ?_⟩
          have hle : T.ng ≤ H.next := by
            rcases Nat.lt_or_ge H.next T.ng with hlt | hge
            · obtain ⟨k, e⟩ := hgl H.next hlt
              have := hg.dom _ _ e
              omega
            · exact hge
          exact orc_of F F2 hO ⟨hB.next, hle, hB.ok H ht, hB.clo, hB.ro⟩ (hB.ok B' h3) h4 h1 h2 g' w args' hg hgl ha
    · exact .inl hr
theorem orcB_ok {B : Hp} (hB : Beneath T B t) (F : Facts P T) (F2 : Facts2 P T) {O : Orc} (hO : OrcOk P T O) {f : FuncId} {m : List Value → Option (Bool × Value)}
    (h : ∀ args v, m args = some (true, v) → cloL args = true ∧ clo v = true ∧ Runs P T B t O f args v) : OrcOk P T (orcB t f m) :=
  orcB_ok' hB F F2 fun args v e => let ⟨a, b, c⟩ := h args v e; ⟨a, b, O, hO, c⟩
end

/-! ### Digits -/
/-- So many digits of a number. -/
def dec : Nat → Nat → List UInt8
  | 0, _ => []
  | k + 1, n => dec k (n / 10) ++ [UInt8.ofNat (48 + n % 10)]

theorem lget_mid {α : Type} (l : List α) (n : Nat) (a : α) (h : l[n]? = some a) : lget l n = some a := by rw [lget_eq]; exact h
end Go.Ev
end
section
set_option linter.unusedSimpArgs false
set_option linter.unusedVariables false
set_option maxHeartbeats 1000000
namespace Go.Ev
open Go
/-! ### A function cut in two, before a region or a loop -/
def isP (r : Nat) : Code → Bool
  | .region id _ _ => Nat.beq id r
  | .loop c => (match firstR c with | some i => Nat.beq i r | none => false)
  | _ => false
def hasP (r : Nat) : Code → Bool
  | .seq a b => hasP r a || hasP r b
  | .cond _ a b => hasP r a || hasP r b
  | .block _ c => hasP r c
  | .scope c => hasP r c
  | c => isP r c
/-- What lies at the cut. -/
def nodeP (r : Nat) : Code → Code
  | .seq a b => (match hasP r a with | true => nodeP r a | false => nodeP r b)
  | .cond _ a b => (match hasP r a with | true => nodeP r a | false => nodeP r b)
  | .block _ c => nodeP r c
  | .scope c => nodeP r c
  | c => c
def unloop : Code → Code
  | .loop c => c
  | c => c
noncomputable section
variable {α : Type} (P : Program) (T : Tab) (call : Fn → List Value → Hp → (Value → Hp → Option α) → Option α) (n : Nat) (fx : Fx)
def seqK (b : Code) (K : Ex → Env → Hp → Option α) : Ex → Env → Hp → Option α := fun e s H => match e with
  | .normal => ecode P T call n fx b s H K
  | e => K e s H
def blockK (id : Nat) (K : Ex → Env → Hp → Option α) : Ex → Env → Hp → Option α := fun e s H => match e with
  | .exit i => (match Nat.beq i id with | true => K .normal s H | false => K (.exit i) s H)
  | e => K e s H
/-- What follows what lies at the cut. -/
def ctxP (r : Nat) : Code → (Ex → Env → Hp → Option α) → (Ex → Env → Hp → Option α)
  | .seq a b, K => (match hasP r a with | true => ctxP r a (seqK P T call n fx b K) | false => ctxP r b K)
  | .cond _ a b, K => (match hasP r a with | true => ctxP r a K | false => ctxP r b K)
  | .block id c, K => ctxP r c (blockK id K)
  | .scope c, K => ctxP r c K
  | _, K => K
/-- The code up to the cut. -/
def ecodeP (r : Nat) (KL : Env → Hp → Option α) : Code → Env → Hp → (Ex → Env → Hp → Option α) → Option α
  | .seq a b, s, H, K => (match hasP r a with
    | true => ecodeP r KL a s H (seqK P T call n fx b K)
    | false => ecode P T call n fx a s H (fun e s H => match e with
      | .normal => ecodeP r KL b s H K
      | e => K e s H))
  | .cond c a b, s, H, K => (match ev s c with
    | .bool t => (match t with
      | true => (match hasP r a with | true => ecodeP r KL a (fixT s c true) H K | false => ecode P T call n fx a (fixT s c true) H K)
      | false => (match hasP r a with | true => ecode P T call n fx b (fixT s c false) H K | false => ecodeP r KL b (fixT s c false) H K))
    | _ => none)
  | .block id c, s, H, K => ecodeP r KL c s H (blockK id K)
  | .scope c, s, H, K => ecodeP r KL c s H K
  | _, s, H, _ => KL s H
theorem ecode_cut (r : Nat) : ∀ (c : Code), hasP r c = true → ∀ (s : Env) (H : Hp) (K : Ex → Env → Hp → Option α),
    ecode P T call n fx c s H K = ecodeP P T call n fx r (fun s H => ecode P T call n fx (nodeP r c) s H (ctxP P T call n fx r c K)) c s H K := by
  intro c
  induction c with
  | seq a b iha ihb =>
    intro hc s H K
    rw [ecodeP, ecode, nodeP, ctxP]
    cases ha : hasP r a with
    | true => exact iha ha s H _
    | false =>
      have hb : hasP r b = true := by simpa [hasP, ha] using hc
      refine congrArg (ecode P T call n fx a s H) (funext fun e => funext fun s => funext fun H => ?_)
      cases e with
      | normal => exact ihb hb s H K
      | ret => rfl
      | exit i => rfl
  | cond q a b iha ihb =>
    intro hc s H K
    rw [ecodeP, ecode, nodeP, ctxP]
    cases ev s q with
    | bool t =>
      cases ha : hasP r a with
      | true =>
        cases t with
        | true => exact iha ha _ H K
        | false => rfl
      | false =>
        have hb : hasP r b = true := by simpa [hasP, ha] using hc
        cases t with
        | true => rfl
        | false => exact ihb hb _ H K
    | _ => rfl
  | block id c ih =>
    intro hc s H K
    exact ih hc s H (blockK id K)
  | scope c ih =>
    intro hc s H K
    exact ih hc s H K
  | loop c _ => intro _ s H K; rfl
  | region id ops d => intro _ s H K; rfl
  | _ => intro hc; cases hc
end
set_option linter.unusedVariables false
noncomputable section
/-- A function's code. -/
def codeOf (P : Program) (f : FuncId) : Code := match lget P.funcs.toList f with
  | some fn => (match fn.body with | some c => c | none => .skip)
  | none => .skip
/-- What a function's end does. -/
def retK {α : Type} (P : Program) (T : Tab) (call : Fn → List Value → Hp → (Value → Hp → Option α) → Option α) (f : FuncId) (K : Value → Hp → Option α) : Ex → Env → Hp → Option α := fun e s H =>
  match lget P.funcs.toList f with
  | some fn => (match e with
    | .exit _ => none
    | _ => eret P call fn s s.ds H K)
  | none => none
def ntOf (P : Program) (f : FuncId) : Nat := match lget P.funcs.toList f with | some fn => fn.ntmps | none => 0
/-- A call, by its function's code. -/
def einvC {α : Type} (P : Program) (T : Tab) (O : Orc) (n : Nat) (f : FuncId) (args : List Value) (H : Hp) (K : Value → Hp → Option α) : Option α :=
  ecode P T (einv P T O n) n ⟨f, none⟩ (codeOf P f) (enter (max (ntOf P f) args.length) args) H (retK P T (einv P T O n) f K)
def hasBody (P : Program) (f : FuncId) : Bool := match lget P.funcs.toList f with
  | some fn => fn.body.isSome
  | none => false
theorem einv_C {α : Type} (P : Program) (T : Tab) (O : Orc) (n : Nat) (f : FuncId) (args : List Value) (H : Hp) (K : Value → Hp → Option α)
    (h : ∀ b, O α f args H K b = b) (hf : hasBody P f = true) : einv P T O (n + 1) (.func f) args H K = einvC P T O n f args H K := by
  rw [einv, h]
  unfold einvC codeOf retK ntOf
  unfold hasBody at hf
  cases e : lget P.funcs.toList f with
  | none => rw [e] at hf; cases hf
  | some fn =>
    rw [e] at hf
    simp only at hf ⊢
    cases e2 : fn.body with
    | none => rw [e2] at hf; cases hf
    | some c => rfl
theorem orcB_ne {α : Type} {t : Hp → Bool} {f g : FuncId} {m : List Value → Option (Bool × Value)} (h : Nat.beq g f = false) (args : List Value) (H : Hp) (K : Value → Hp → Option α) (b : Option α) :
    orcB t f m α g args H K b = b := by unfold orcB; rw [h]; rfl
theorem orcA_ne {α : Type} {O O' : Orc} {g : FuncId} {args : List Value} {H : Hp} {K : Value → Hp → Option α} (h : ∀ b, O α g args H K b = b) (h' : ∀ b, O' α g args H K b = b) (b : Option α) :
    orcA O O' α g args H K b = b := by unfold orcA; rw [h, h']
end
end Go.Ev
end
section
set_option linter.unusedSimpArgs false
set_option linter.unusedVariables false
set_option maxHeartbeats 1000000
namespace Go.Ev
/-! ### The calendar, plainly -/
theorem tdiv_pos {n k : Int} (h : 0 ≤ n) : Int.tdiv n k = n / k := Int.tdiv_eq_ediv_of_nonneg h
theorem tdiv_neg {n k : Int} (h : n < 0) : Int.tdiv n k = -((-n) / k) := by
  have e : Int.tdiv n k = -(Int.tdiv (-n) k) := by rw [Int.neg_tdiv, Int.neg_neg]
  rw [e, Int.tdiv_eq_ediv_of_nonneg (by omega)]
theorem tmod_pos {n k : Int} (h : 0 ≤ n) : Int.tmod n k = n % k := Int.tmod_eq_emod_of_nonneg h
theorem tmod_neg {n k : Int} (h : n < 0) : Int.tmod n k = -((-n) % k) := by
  have e : Int.tmod n k = -(Int.tmod (-n) k) := by rw [Int.neg_tmod, Int.neg_neg]
  rw [e, Int.tmod_eq_emod_of_nonneg (by omega)]
/-- Whether there is a rest. -/
theorem tmod0 (n k : Int) : (Int.tmod n k = 0) ↔ (n % k = 0) := by
  rw [← Int.dvd_iff_tmod_eq_zero, Int.dvd_iff_emod_eq_zero]
theorem tmod0b (n k : Int) : (Int.tmod n k == 0) = decide (n % k = 0) := by
  rw [Bool.eq_iff_iff, beq_iff_eq, decide_eq_true_eq, tmod0]
theorem tmod0n (n k : Int) : (Int.tmod n k != 0) = !decide (n % k = 0) := by
  rw [bne, tmod0b]
def leapB (y : Int) : Bool := decide (y % 4 = 0 ∧ (y % 100 ≠ 0 ∨ y % 400 = 0))
def yearLen (y : Int) : Int := if y % 4 = 0 ∧ (y % 100 ≠ 0 ∨ y % 400 = 0) then 366 else 365
/-- How many days a month has. -/
def mlen (y m : Int) : Int := if m = 2 then (if y % 4 = 0 ∧ (y % 100 ≠ 0 ∨ y % 400 = 0) then 29 else 28) else if m = 4 ∨ m = 6 ∨ m = 9 ∨ m = 11 then 30 else if 1 ≤ m ∧ m ≤ 12 then 31 else 0
/-- The number of a year's first day. -/
def january (y : Int) : Int := 365 * y + (y + 3) / 4 - (y + 99) / 100 + (y + 399) / 400 - 719528
theorem january_next (y : Int) : january (y + 1) = january y + yearLen y := by
  unfold january yearLen
  split <;> omega
theorem january_era (c : Int) : january (400 * c) = c * 146097 - 719528 := by
  unfold january
  omega
/-- A date's number. -/
def dnum (y m d : Int) : Int := if m ≤ 2 then 365 * (y - 1) + (y - 1) / 4 - (y - 1) / 100 + (y - 1) / 400 + (153 * (m + 9) + 2) / 5 + d - 719469 else 365 * y + y / 4 - y / 100 + y / 400 + (153 * (m - 3) + 2) / 5 + d - 719469
/-- May a date be? -/
def dateOk (y m d : Int) : Bool := decide (-271821 ≤ y ∧ y ≤ 275760 ∧ 1 ≤ d ∧ d ≤ mlen y m ∧ -100000001 ≤ dnum y m d ∧ dnum y m d ≤ 100000000)
theorem mlen_le (y m : Int) : mlen y m ≤ 31 := by
  unfold mlen
  repeat' split
  all_goals omega
theorem mlen_ge (y m : Int) : 0 ≤ mlen y m := by
  unfold mlen
  repeat' split
  all_goals omega
theorem mlen_in {y m : Int} (h : 1 ≤ mlen y m) : 1 ≤ m ∧ m ≤ 12 := by
  unfold mlen at h
  repeat' split at h
  all_goals omega
theorem dateOk_iff (y m d : Int) : dateOk y m d = true ↔ (-271821 ≤ y ∧ y ≤ 275760 ∧ 1 ≤ d ∧ d ≤ mlen y m ∧ -100000001 ≤ dnum y m d ∧ dnum y m d ≤ 100000000) := by
  unfold dateOk; rw [decide_eq_true_eq]
theorem months {m : Int} (h : 1 ≤ m) (k : m ≤ 12) : m = 1 ∨ m = 2 ∨ m = 3 ∨ m = 4 ∨ m = 5 ∨ m = 6 ∨ m = 7 ∨ m = 8 ∨ m = 9 ∨ m = 10 ∨ m = 11 ∨ m = 12 := by omega
theorem dateOk_rng {y m d : Int} (h : dateOk y m d = true) : -280000 ≤ y ∧ y ≤ 280000 ∧ 1 ≤ m ∧ m ≤ 12 ∧ 1 ≤ d ∧ d ≤ 31 := by
  rw [dateOk_iff] at h
  have h1 := mlen_le y m
  have h2 := mlen_in (y := y) (m := m) (by omega)
  omega
end Go.Ev
end
