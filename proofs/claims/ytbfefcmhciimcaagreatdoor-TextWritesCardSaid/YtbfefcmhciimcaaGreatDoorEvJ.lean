/- The calendar, by the program and by the document. -/
import Derived.KernelRfl
import Derived.Test.YtbfefcmhciimcaaGreatDoorEvI
section
set_option linter.unusedSimpArgs false
set_option linter.unusedVariables false
set_option maxRecDepth 100000
set_option linter.unusedVariables false
namespace Go.Ev
open Go
theorem t_down {α : Type} (K : Value → Hp → Option α) (x0 : Int) : einv PP tab noO 60 (.func 67) [.int .i64 x0, .int .i64 400] hp0 K =
  cond (decide (((kw .i64 ((kw .i64 (Int.tdiv x0 400)) * 400)) : Int) > x0))
  (K (.int .i64 (kw .i64 ((kw .i64 (Int.tdiv x0 400)) - 1))) hp0)
  (K (.int .i64 (kw .i64 (Int.tdiv x0 400))) hp0) := by kernel_rfl

theorem t_mlen1 {α : Type} (K : Value → Hp → Option α) (x0 : Int) : einv PP tab noO 60 (.func 58) [.int .i64 x0, .int .i64 1] hp0 K =
  K (.int .i64 31) hp0 := by kernel_rfl

theorem t_mlen2 {α : Type} (K : Value → Hp → Option α) (x0 : Int) : einv PP tab noO 60 (.func 58) [.int .i64 x0, .int .i64 2] hp0 K =
  cond ((Int.tmod x0 4) == 0)
  (cond ((Int.tmod x0 100) != 0)
    (K (.int .i64 29) hp0)
    (cond ((Int.tmod x0 400) == 0)
      (K (.int .i64 29) hp0)
      (K (.int .i64 28) hp0)))
  (K (.int .i64 28) hp0) := by kernel_rfl

theorem t_mlen3 {α : Type} (K : Value → Hp → Option α) (x0 : Int) : einv PP tab noO 60 (.func 58) [.int .i64 x0, .int .i64 3] hp0 K =
  K (.int .i64 31) hp0 := by kernel_rfl

theorem t_mlen4 {α : Type} (K : Value → Hp → Option α) (x0 : Int) : einv PP tab noO 60 (.func 58) [.int .i64 x0, .int .i64 4] hp0 K =
  K (.int .i64 30) hp0 := by kernel_rfl

theorem t_mlen5 {α : Type} (K : Value → Hp → Option α) (x0 : Int) : einv PP tab noO 60 (.func 58) [.int .i64 x0, .int .i64 5] hp0 K =
  K (.int .i64 31) hp0 := by kernel_rfl

theorem t_mlen6 {α : Type} (K : Value → Hp → Option α) (x0 : Int) : einv PP tab noO 60 (.func 58) [.int .i64 x0, .int .i64 6] hp0 K =
  K (.int .i64 30) hp0 := by kernel_rfl

theorem t_mlen7 {α : Type} (K : Value → Hp → Option α) (x0 : Int) : einv PP tab noO 60 (.func 58) [.int .i64 x0, .int .i64 7] hp0 K =
  K (.int .i64 31) hp0 := by kernel_rfl

theorem t_mlen8 {α : Type} (K : Value → Hp → Option α) (x0 : Int) : einv PP tab noO 60 (.func 58) [.int .i64 x0, .int .i64 8] hp0 K =
  K (.int .i64 31) hp0 := by kernel_rfl

theorem t_mlen9 {α : Type} (K : Value → Hp → Option α) (x0 : Int) : einv PP tab noO 60 (.func 58) [.int .i64 x0, .int .i64 9] hp0 K =
  K (.int .i64 30) hp0 := by kernel_rfl

theorem t_mlen10 {α : Type} (K : Value → Hp → Option α) (x0 : Int) : einv PP tab noO 60 (.func 58) [.int .i64 x0, .int .i64 10] hp0 K =
  K (.int .i64 31) hp0 := by kernel_rfl

theorem t_mlen11 {α : Type} (K : Value → Hp → Option α) (x0 : Int) : einv PP tab noO 60 (.func 58) [.int .i64 x0, .int .i64 11] hp0 K =
  K (.int .i64 30) hp0 := by kernel_rfl

theorem t_mlen12 {α : Type} (K : Value → Hp → Option α) (x0 : Int) : einv PP tab noO 60 (.func 58) [.int .i64 x0, .int .i64 12] hp0 K =
  K (.int .i64 31) hp0 := by kernel_rfl

theorem t_mlenC {α : Type} (K : Value → Hp → Option α) (KL : Env → Hp → Option α) (x0 : Int) (x1 : Int) : ecodeP PP tab (einv PP tab noO 59) 59 ⟨58, none⟩ 4 KL (codeOf PP 58) (enter (max (ntOf PP 58) 2) [.int .i64 x0, .int .i64 x1]) hp0 (retK PP tab (einv PP tab noO 59) 58 K) =
  cond (decide ((x1 : Int) < 1))
  (K (.int .i64 0) hp0)
  (cond (decide ((x1 : Int) > 12))
    (K (.int .i64 0) hp0)
    (KL ⟨24, (.node (.node (.node (.node (.node .nil (.tuple ⟨[]⟩) .nil) (.bool false) (.node .nil (.tuple ⟨[]⟩) .nil)) (.tuple ⟨[]⟩) (.node (.node .nil (.tuple ⟨[]⟩) .nil) (.int .i64 x1) (.node .nil (.tuple ⟨[]⟩) .nil))) (.int .i64 x1) (.node (.node (.node .nil (.tuple ⟨[]⟩) .nil) (.bool (decide ((x1 : Int) < 1))) (.node .nil (.tuple ⟨[]⟩) .nil)) (.pointer (some ⟨5, 0, (some 0)⟩)) (.node (.node .nil (.tuple ⟨[]⟩) .nil) (.bool (decide ((x1 : Int) > 12))) (.node .nil (.tuple ⟨[]⟩) .nil)))) (.int .i64 x0) (.node (.node (.node (.node .nil (.tuple ⟨[]⟩) .nil) (.int .i64 x1) (.node .nil (.tuple ⟨[]⟩) .nil)) (.int .i64 0) (.node (.node .nil (.tuple ⟨[]⟩) .nil) (.bool (decide ((x1 : Int) > 12))) (.node .nil (.tuple ⟨[]⟩) .nil))) (.tuple ⟨[]⟩) (.node (.node (.node .nil (.tuple ⟨[]⟩) .nil) (.bool false) (.node .nil (.tuple ⟨[]⟩) .nil)) (.agg ⟨[(.int .i64 0), (.int .i64 31), (.int .i64 28), (.int .i64 31), (.int .i64 30), (.int .i64 31), (.int .i64 30), (.int .i64 31), (.int .i64 31), (.int .i64 30), (.int .i64 31), (.int .i64 30), (.int .i64 31)]⟩) (.node (.node .nil (.tuple ⟨[]⟩) .nil) (.tuple ⟨[]⟩) (.node .nil (.tuple ⟨[]⟩) .nil))))), (.node (.node (.node (.node (.node .nil none .nil) none (.node .nil none .nil)) none (.node (.node .nil none .nil) none (.node .nil none .nil))) none (.node (.node (.node .nil none .nil) none (.node .nil none .nil)) (some [(.int .i64 0), (.int .i64 31), (.int .i64 28), (.int .i64 31), (.int .i64 30), (.int .i64 31), (.int .i64 30), (.int .i64 31), (.int .i64 31), (.int .i64 30), (.int .i64 31), (.int .i64 30), (.int .i64 31)]) (.node (.node .nil none .nil) none (.node .nil none .nil)))) none (.node (.node (.node (.node .nil none .nil) none (.node .nil none .nil)) none (.node (.node .nil none .nil) none (.node .nil none .nil))) none (.node (.node (.node .nil none .nil) none (.node .nil none .nil)) none (.node (.node .nil none .nil) none (.node .nil none .nil))))), []⟩ hp0)) := by kernel_rfl

theorem t_rmonth {α : Type} (K : Value → Hp → Option α) (x0 : Int) (x1 : Int) : einv PP tab noO 60 (.func 35) [.int .i64 x0, .int .i64 x1] hp0 K =
  cond (x1 == 1)
  (K (.int .i64 31) hp0)
  (cond (x1 == 3)
    (K (.int .i64 31) hp0)
    (cond (x1 == 5)
      (K (.int .i64 31) hp0)
      (cond (x1 == 7)
        (K (.int .i64 31) hp0)
        (cond (x1 == 8)
          (K (.int .i64 31) hp0)
          (cond (x1 == 10)
            (K (.int .i64 31) hp0)
            (cond (x1 == 12)
              (K (.int .i64 31) hp0)
              (cond (x1 == 4)
                (K (.int .i64 30) hp0)
                (cond (x1 == 6)
                  (K (.int .i64 30) hp0)
                  (cond (x1 == 9)
                    (K (.int .i64 30) hp0)
                    (cond (x1 == 11)
                      (K (.int .i64 30) hp0)
                      (cond (x1 == 2)
                        (cond ((Int.tmod x0 400) == 0)
                          (K (.int .i64 29) hp0)
                          (cond ((Int.tmod x0 100) == 0)
                            (K (.int .i64 28) hp0)
                            (cond ((Int.tmod x0 4) == 0)
                              (K (.int .i64 29) hp0)
                              (K (.int .i64 28) hp0))))
                        (K (.int .i64 0) hp0)))))))))))) := by kernel_rfl

theorem t_year {α : Type} (K : Value → Hp → Option α) (x0 : Int) : einv PP tab noO 60 (.func 68) [.int .i64 x0] hp0 K =
  cond ((Int.tmod x0 400) == 0)
  (K (.int .i64 366) hp0)
  (cond ((Int.tmod x0 100) == 0)
    (K (.int .i64 365) hp0)
    (cond ((Int.tmod x0 4) == 0)
      (K (.int .i64 366) hp0)
      (K (.int .i64 365) hp0))) := by kernel_rfl

theorem t_floor {α : Type} (K : Value → Hp → Option α) (x0 : Int) : einv PP tab noO 60 (.func 118) [.int .i64 x0, .int .i64 400] hp0 K =
  cond (decide (((Int.tmod x0 400) : Int) < 0))
  (K (.tuple ⟨[(.int .i64 (kw .i64 ((kw .i64 (Int.tdiv x0 400)) - 1))), (.int .i64 (kw .i64 ((Int.tmod x0 400) + 400)))]⟩) hp0)
  (K (.tuple ⟨[(.int .i64 (kw .i64 (Int.tdiv x0 400))), (.int .i64 (Int.tmod x0 400))]⟩) hp0) := by kernel_rfl

end Go.Ev
end
section
set_option linter.unusedSimpArgs false
set_option linter.unusedVariables false
set_option maxHeartbeats 1000000
set_option linter.unusedSimpArgs false
namespace Go.Ev
open Go
theorem rDown (x : Int) (h1 : -1000000000000 ≤ x) (h2 : x ≤ 1000000000000) : Run1 noO 67 [.int .i64 x, .int .i64 400] (.int .i64 (x / 400)) := by
  refine ⟨60, ?_⟩
  rw [t_down]
  by_cases h : x < 0
  · rw [tdiv_neg h]
    simp (disch := omega) only [kwi]
    exact Res.split (fun c => Res.done (by rw [show -(-x / 400) - 1 = x / 400 from by omega]) rfl) (fun c => Res.done (by rw [show -(-x / 400) = x / 400 from by omega]) rfl)
  · rw [tdiv_pos (by omega)]
    simp (disch := omega) only [kwi]
    exact Res.cf (by omega) (Res.done rfl rfl)
theorem rYear (x : Int) : Run1 noO 68 [.int .i64 x] (.int .i64 (yearLen x)) := by
  refine ⟨60, ?_⟩
  rw [t_year]
  simp only [tmod0b]
  refine Res.split (fun a => Res.done ?_ rfl) (fun a => Res.split (fun b => Res.done ?_ rfl) (fun b => Res.split (fun c => Res.done ?_ rfl) (fun c => Res.done ?_ rfl)))
  · rw [yearLen, if_pos (by omega)]
  · rw [yearLen, if_neg (by omega)]
  · rw [yearLen, if_pos (by omega)]
  · rw [yearLen, if_neg (by omega)]
theorem beqd (a b : Int) : (a == b) = decide (a = b) := by rw [Bool.eq_iff_iff, beq_iff_eq, decide_eq_true_eq]
theorem rRMonth (x m : Int) : Run1 noO 35 [.int .i64 x, .int .i64 m] (.int .i64 (mlen x m)) := by
  refine ⟨60, ?_⟩
  rw [t_rmonth]
  simp only [tmod0b]
  simp only [beqd]
  repeat' refine Res.split (fun _ => ?_) (fun _ => ?_)
  all_goals refine Res.done (congrArg (Value.int .i64) ?_) rfl
  all_goals unfold mlen
  all_goals repeat' split
  all_goals omega
theorem einv_cut (f r n : Nat) (args : List Value) (h : hasP r (codeOf PP f) = true) {α : Type} (K : Value → Hp → Option α) (hb : hasBody PP f = true) :
    ∃ KL, einv PP tab noO (n + 1) (.func f) args hp0 K = ecodeP PP tab (einv PP tab noO n) n ⟨f, none⟩ r KL (codeOf PP f) (enter (max (ntOf PP f) args.length) args) hp0 (retK PP tab (einv PP tab noO n) f K) :=
  ⟨_, (einv_C PP tab noO n f args hp0 K (fun _ => rfl) hb).trans (ecode_cut PP tab (einv PP tab noO n) n ⟨f, none⟩ r _ h _ _ _)⟩
theorem rMLen (x m : Int) : Run1 noO 58 [.int .i64 x, .int .i64 m] (.int .i64 (mlen x m)) := by
  refine ⟨60, ?_⟩
  by_cases h : 1 ≤ m ∧ m ≤ 12
  · rcases months h.1 h.2 with rfl | rfl | rfl | rfl | rfl | rfl | rfl | rfl | rfl | rfl | rfl | rfl
    rotate_left
    · rw [t_mlen2]
      simp only [tmod0b, tmod0n]
      refine Res.split (fun a => Res.splitb (fun b => Res.done ?_ rfl) (fun b => Res.split (fun c => Res.done ?_ rfl) (fun c => Res.done ?_ rfl))) (fun a => Res.done ?_ rfl)
      all_goals refine congrArg (Value.int .i64) ?_
      all_goals unfold mlen
      all_goals simp at *
      all_goals omega
    rotate_right
    · rw [t_mlen1]; exact Res.done rfl rfl
    · rw [t_mlen3]; exact Res.done rfl rfl
    · rw [t_mlen4]; exact Res.done rfl rfl
    · rw [t_mlen5]; exact Res.done rfl rfl
    · rw [t_mlen6]; exact Res.done rfl rfl
    · rw [t_mlen7]; exact Res.done rfl rfl
    · rw [t_mlen8]; exact Res.done rfl rfl
    · rw [t_mlen9]; exact Res.done rfl rfl
    · rw [t_mlen10]; exact Res.done rfl rfl
    · rw [t_mlen11]; exact Res.done rfl rfl
    · rw [t_mlen12]; exact Res.done rfl rfl
  · obtain ⟨KL, e⟩ := einv_cut 58 4 59 [.int .i64 x, .int .i64 m] (by kernel_rfl) (fun v H => some (v, H)) (by kernel_rfl)
    rw [e, show (max (ntOf PP 58) [Value.int IntKind.i64 x, Value.int IntKind.i64 m].length) = (max (ntOf PP 58) 2) from rfl, t_mlenC]
    have : mlen x m = 0 := by
      unfold mlen
      repeat' split
      all_goals omega
    rw [this]
    exact Res.split (fun _ => Res.done rfl rfl) (fun _ => Res.ct (by omega) (Res.done rfl rfl))
noncomputable section
def mDown : List Value → Option (Bool × Value)
  | [.int .i64 x, .int .i64 k] => some (decide (k = 400) && decide (-1000000000000 ≤ x) && decide (x ≤ 1000000000000), .int .i64 (x / 400))
  | _ => none
def oDown : Orc := orcB baseB 67 mDown
def mYear : List Value → Option (Bool × Value)
  | [.int .i64 x] => some (decide (-1000000000000 ≤ x) && decide (x ≤ 1000000000000), .int .i64 (yearLen x))
  | _ => none
def oYear : Orc := orcB baseB 68 mYear
def mRMonth : List Value → Option (Bool × Value)
  | [.int .i64 x, .int .i64 m] => some (decide (True), .int .i64 (mlen x m))
  | _ => none
def oRMonth : Orc := orcB baseB 35 mRMonth
def mMLen : List Value → Option (Bool × Value)
  | [.int .i64 x, .int .i64 m] => some (decide (True), .int .i64 (mlen x m))
  | _ => none
def oMLen : Orc := orcB baseB 58 mMLen
theorem okDown : OrcOk PP tab oDown := by
  refine okOrc noO_ok fun args v h => ?_
  unfold mDown at h
  split at h
  · simp only [Option.some.injEq, Prod.mk.injEq, Bool.and_eq_true, decide_eq_true_eq] at h
    obtain ⟨⟨⟨h1, h2⟩, h3⟩, rfl⟩ := h
    subst h1
    exact ⟨rfl, rfl, rDown _ h2 h3⟩
  · cases h
theorem okYear : OrcOk PP tab oYear := by
  refine okOrc noO_ok fun args v h => ?_
  unfold mYear at h
  split at h
  · simp only [Option.some.injEq, Prod.mk.injEq, Bool.and_eq_true, decide_eq_true_eq] at h
    obtain ⟨⟨h1, h2⟩, rfl⟩ := h
    exact ⟨rfl, rfl, rYear _⟩
  · cases h
theorem okRMonth : OrcOk PP tab oRMonth := by
  refine okOrc noO_ok fun args v h => ?_
  unfold mRMonth at h
  split at h
  · simp only [Option.some.injEq, Prod.mk.injEq, Bool.and_eq_true, decide_eq_true_eq] at h
    obtain ⟨h1, rfl⟩ := h
    exact ⟨rfl, rfl, rRMonth _ _⟩
  · cases h
theorem okMLen : OrcOk PP tab oMLen := by
  refine okOrc noO_ok fun args v h => ?_
  unfold mMLen at h
  split at h
  · simp only [Option.some.injEq, Prod.mk.injEq, Bool.and_eq_true, decide_eq_true_eq] at h
    obtain ⟨h1, rfl⟩ := h
    exact ⟨rfl, rfl, rMLen _ _⟩
  · cases h
end
end Go.Ev
end
section
set_option linter.unusedSimpArgs false
set_option linter.unusedVariables false
set_option maxRecDepth 100000
set_option linter.unusedVariables false
namespace Go.Ev
open Go
noncomputable section
def janE (x0 : Int) (n : Int) (k : Int) : Env := ⟨23, (.node (.node (.node (.node (.node .nil topV .nil) (.int .i64 (x0 / 400)) (.node .nil (.tuple ⟨[]⟩) .nil)) (.int .i64 (x0 / 400)) (.node (.node .nil topV .nil) (.int .i64 (x0 / 400)) (.node .nil (.tuple ⟨[]⟩) .nil))) (.tuple ⟨[]⟩) (.node (.node (.node .nil topV .nil) (.int .i64 (kw .i64 ((x0 / 400) * 146097))) (.node .nil (.tuple ⟨[]⟩) .nil)) (.int .i64 k) (.node (.node .nil topV .nil) topV (.node .nil (.tuple ⟨[]⟩) .nil)))) (.int .i64 x0) (.node (.node (.node (.node .nil topV .nil) (.int .i64 (x0 / 400)) (.node .nil (.tuple ⟨[]⟩) .nil)) (.int .i64 n) (.node (.node .nil topV .nil) (.int .i64 (kw .i64 (400 * (x0 / 400)))) (.node .nil (.tuple ⟨[]⟩) .nil))) (.int .i64 0) (.node (.node (.node .nil topV .nil) (.int .i64 (kw .i64 ((kw .i64 ((x0 / 400) * 146097)) - 719528))) (.node .nil (.tuple ⟨[]⟩) .nil)) (.int .i64 x0) (.node (.node .nil (.tuple ⟨[]⟩) .nil) topV (.node .nil (.tuple ⟨[]⟩) .nil))))), (.node (.node (.node (.node (.node .nil none .nil) none (.node .nil none .nil)) none (.node (.node .nil none .nil) none (.node .nil none .nil))) none (.node (.node (.node .nil none .nil) none (.node .nil none .nil)) none (.node (.node .nil none .nil) none (.node .nil none .nil)))) none (.node (.node (.node (.node .nil none .nil) none (.node .nil none .nil)) none (.node (.node .nil none .nil) none (.node .nil none .nil))) none (.node (.node (.node .nil none .nil) none (.node .nil none .nil)) none (.node (.node .nil none .nil) none (.node .nil none .nil))))), []⟩
def jan0 (x0 : Int) : Env := ⟨23, (.node (.node (.node (.node (.node .nil (.tuple ⟨[]⟩) .nil) (.int .i64 (x0 / 400)) (.node .nil (.tuple ⟨[]⟩) .nil)) (.int .i64 (x0 / 400)) (.node (.node .nil (.tuple ⟨[]⟩) .nil) (.int .i64 (x0 / 400)) (.node .nil (.tuple ⟨[]⟩) .nil))) (.tuple ⟨[]⟩) (.node (.node (.node .nil (.tuple ⟨[]⟩) .nil) (.int .i64 (kw .i64 ((x0 / 400) * 146097))) (.node .nil (.tuple ⟨[]⟩) .nil)) (.int .i64 (kw .i64 (400 * (x0 / 400)))) (.node (.node .nil (.tuple ⟨[]⟩) .nil) (.tuple ⟨[]⟩) (.node .nil (.tuple ⟨[]⟩) .nil)))) (.int .i64 x0) (.node (.node (.node (.node .nil (.tuple ⟨[]⟩) .nil) (.int .i64 (x0 / 400)) (.node .nil (.tuple ⟨[]⟩) .nil)) (.int .i64 (kw .i64 ((kw .i64 ((x0 / 400) * 146097)) - 719528))) (.node (.node .nil (.tuple ⟨[]⟩) .nil) (.int .i64 (kw .i64 (400 * (x0 / 400)))) (.node .nil (.tuple ⟨[]⟩) .nil))) (.int .i64 0) (.node (.node (.node .nil (.tuple ⟨[]⟩) .nil) (.int .i64 (kw .i64 ((kw .i64 ((x0 / 400) * 146097)) - 719528))) (.node .nil (.tuple ⟨[]⟩) .nil)) (.int .i64 x0) (.node (.node .nil (.tuple ⟨[]⟩) .nil) (.tuple ⟨[]⟩) (.node .nil (.tuple ⟨[]⟩) .nil))))), (.node (.node (.node (.node (.node .nil none .nil) none (.node .nil none .nil)) none (.node (.node .nil none .nil) none (.node .nil none .nil))) none (.node (.node (.node .nil none .nil) none (.node .nil none .nil)) none (.node (.node .nil none .nil) none (.node .nil none .nil)))) none (.node (.node (.node (.node .nil none .nil) none (.node .nil none .nil)) none (.node (.node .nil none .nil) none (.node .nil none .nil))) none (.node (.node (.node .nil none .nil) none (.node .nil none .nil)) none (.node (.node .nil none .nil) none (.node .nil none .nil))))), []⟩
def janB0 (x0 : Int) (n : Int) (k : Int) : Env := ⟨23, (.node (.node (.node (.node (.node .nil (.bool true) .nil) (.int .i64 (x0 / 400)) (.node .nil (.tuple ⟨[]⟩) .nil)) (.int .i64 (x0 / 400)) (.node (.node .nil (.int .i64 k) .nil) (.int .i64 (x0 / 400)) (.node .nil (.tuple ⟨[]⟩) .nil))) (.tuple ⟨[]⟩) (.node (.node (.node .nil (.int .i64 (kw .i64 (k + 1))) .nil) (.int .i64 (kw .i64 ((x0 / 400) * 146097))) (.node .nil (.tuple ⟨[]⟩) .nil)) (.int .i64 (kw .i64 (k + 1))) (.node (.node .nil (.int .i64 (kw .i64 (n + (yearLen k)))) .nil) (.int .i64 k) (.node .nil (.tuple ⟨[]⟩) .nil)))) (.int .i64 x0) (.node (.node (.node (.node .nil (.int .i64 k) .nil) (.int .i64 (x0 / 400)) (.node .nil (.tuple ⟨[]⟩) .nil)) (.int .i64 (kw .i64 (n + (yearLen k)))) (.node (.node .nil (.int .i64 (yearLen k)) .nil) (.int .i64 (kw .i64 (400 * (x0 / 400)))) (.node .nil (.tuple ⟨[]⟩) .nil))) (.int .i64 0) (.node (.node (.node .nil (.int .i64 n) .nil) (.int .i64 (kw .i64 ((kw .i64 ((x0 / 400) * 146097)) - 719528))) (.node .nil (.tuple ⟨[]⟩) .nil)) (.int .i64 x0) (.node (.node .nil (.tuple ⟨[]⟩) .nil) (.int .i64 x0) (.node .nil (.tuple ⟨[]⟩) .nil))))), (.node (.node (.node (.node (.node .nil none .nil) none (.node .nil none .nil)) none (.node (.node .nil none .nil) none (.node .nil none .nil))) none (.node (.node (.node .nil none .nil) none (.node .nil none .nil)) none (.node (.node .nil none .nil) none (.node .nil none .nil)))) none (.node (.node (.node (.node .nil none .nil) none (.node .nil none .nil)) none (.node (.node .nil none .nil) none (.node .nil none .nil))) none (.node (.node (.node .nil none .nil) none (.node .nil none .nil)) none (.node (.node .nil none .nil) none (.node .nil none .nil))))), []⟩
def janB1 (x0 : Int) (n : Int) (k : Int) : Env := ⟨23, (.node (.node (.node (.node (.node .nil (.bool false) .nil) (.int .i64 (x0 / 400)) (.node .nil (.tuple ⟨[]⟩) .nil)) (.int .i64 (x0 / 400)) (.node (.node .nil topV .nil) (.int .i64 (x0 / 400)) (.node .nil (.tuple ⟨[]⟩) .nil))) (.tuple ⟨[]⟩) (.node (.node (.node .nil topV .nil) (.int .i64 (kw .i64 ((x0 / 400) * 146097))) (.node .nil (.tuple ⟨[]⟩) .nil)) (.int .i64 k) (.node (.node .nil topV .nil) (.int .i64 k) (.node .nil (.tuple ⟨[]⟩) .nil)))) (.int .i64 x0) (.node (.node (.node (.node .nil topV .nil) (.int .i64 (x0 / 400)) (.node .nil (.tuple ⟨[]⟩) .nil)) (.int .i64 n) (.node (.node .nil topV .nil) (.int .i64 (kw .i64 (400 * (x0 / 400)))) (.node .nil (.tuple ⟨[]⟩) .nil))) (.int .i64 0) (.node (.node (.node .nil topV .nil) (.int .i64 (kw .i64 ((kw .i64 ((x0 / 400) * 146097)) - 719528))) (.node .nil (.tuple ⟨[]⟩) .nil)) (.int .i64 x0) (.node (.node .nil (.tuple ⟨[]⟩) .nil) (.int .i64 x0) (.node .nil (.tuple ⟨[]⟩) .nil))))), (.node (.node (.node (.node (.node .nil none .nil) none (.node .nil none .nil)) none (.node (.node .nil none .nil) none (.node .nil none .nil))) none (.node (.node (.node .nil none .nil) none (.node .nil none .nil)) none (.node (.node .nil none .nil) none (.node .nil none .nil)))) none (.node (.node (.node (.node .nil none .nil) none (.node .nil none .nil)) none (.node (.node .nil none .nil) none (.node .nil none .nil))) none (.node (.node (.node .nil none .nil) none (.node .nil none .nil)) none (.node (.node .nil none .nil) none (.node .nil none .nil))))), []⟩
end
theorem janH {α : Type} (KL : Env → Hp → Option α) (K : Ex → Env → Hp → Option α) (x0 : Int) : ecodeP PP tab (einv PP tab (orcA oDown oYear) 999) 999 ⟨36, none⟩ 4 KL (codeOf PP 36) (enter (max (ntOf PP 36) 1) [.int .i64 x0]) hp0 K =
  cond ((true && (decide (((-1000000000000) : Int) ≤ x0))) && (decide ((x0 : Int) ≤ 1000000000000)))
  (KL (jan0 x0) hp0)
  (none) := by kernel_rfl
theorem jan0_s (x0 : Int) : scrub (jan0 x0) (scrubL tab 36 (unloop (nodeP 4 (codeOf PP 36)))) = janE x0 ((kw .i64 ((kw .i64 ((x0 / 400) * 146097)) - 719528))) ((kw .i64 (400 * (x0 / 400)))) := by kernel_rfl
theorem janB {α : Type} (K : Ex → Env → Hp → Option α) (x0 : Int) (n : Int) (k : Int) : ecode PP tab (einv PP tab (orcA oDown oYear) 999) 999 ⟨36, none⟩ (unloop (nodeP 4 (codeOf PP 36))) (janE x0 n k) hp0 K =
  cond (decide ((k : Int) < x0))
  (cond ((decide (((-1000000000000) : Int) ≤ k)) && (decide ((k : Int) ≤ 1000000000000)))
    (K .normal (janB0 x0 n k) hp0)
    (none))
  (K (.exit 0) (janB1 x0 n k) hp0) := by kernel_rfl
theorem janN : nodeP 4 (codeOf PP 36) = .loop (unloop (nodeP 4 (codeOf PP 36))) := by kernel_rfl
theorem janP : hasP 4 (codeOf PP 36) = true := by kernel_rfl
theorem janB0_s (x0 : Int) (n : Int) (k : Int) : scrub (janB0 x0 n k) (scrubL tab 36 (unloop (nodeP 4 (codeOf PP 36)))) = janE x0 ((kw .i64 (n + (yearLen k)))) ((kw .i64 (k + 1))) := by kernel_rfl
theorem janB1_t {α : Type} (K : Value → Hp → Option α) (x0 : Int) (n : Int) (k : Int) : ctxP PP tab (einv PP tab (orcA oDown oYear) 999) 999 ⟨36, none⟩ 4 (codeOf PP 36) (retK PP tab (einv PP tab (orcA oDown oYear) 999) 36 K) ((.exit 0)) (janB1 x0 n k) hp0 =
  K (.int .i64 n) hp0 := by kernel_rfl
end Go.Ev
end
section
set_option linter.unusedSimpArgs false
set_option linter.unusedVariables false
set_option maxHeartbeats 1000000
namespace Go.Ev
open Go
set_option linter.unusedSimpArgs false
theorem ecode_loopE {α : Type} (P : Program) (T : Tab) (call : Fn → List Value → Hp → (Value → Hp → Option α) → Option α) (n : Nat) (fx : Fx) (c : Code) (s : Env) (H : Hp) (K : Ex → Env → Hp → Option α) :
    ecode P T call n fx (.loop c) s H K = eloop (scrubL T fx.fn c) (ecode P T call n fx c) n s H K := rfl
theorem eloop_S {α : Type} (sc : List Tmp) (body : Env → Hp → (Ex → Env → Hp → Option α) → Option α) (n : Nat) (s : Env) (H : Hp) (K : Ex → Env → Hp → Option α) :
    eloop sc body (n + 1) s H K = body (scrub s sc) H (fun e s H => match e with
      | .normal => eloop sc body n s H K
      | e => K e s H) := rfl
theorem janL {α : Type} (y : Int) (h1 : -280000 ≤ y) (h2 : y ≤ 280000) (K : Ex → Env → Hp → Option α) : ∀ (N : Nat) (s : Env) (n k : Int),
    scrub s (scrubL tab 36 (unloop (nodeP 4 (codeOf PP 36)))) = janE y n k → n = january k → -281000 ≤ k → k ≤ y → y - k ≤ N →
    eloop (scrubL tab 36 (unloop (nodeP 4 (codeOf PP 36)))) (ecode PP tab (einv PP tab (orcA oDown oYear) 999) 999 ⟨36, none⟩ (unloop (nodeP 4 (codeOf PP 36)))) (N + 1) s hp0 K = K (.exit 0) (janB1 y (january y) y) hp0 := by
  intro N
  induction N with
  | zero =>
    intro s n k hs hn hk hk2 hN
    have : k = y := by omega
    subst this
    rw [eloop_S, hs, janB, decide_eq_false (by omega), hn]
    rfl
  | succ N ih =>
    intro s n k hs hn hk hk2 hN
    rw [eloop_S, hs, janB]
    by_cases c : k < y
    · rw [decide_eq_true c, decide_eq_true (by omega), decide_eq_true (by omega)]
      have hj : -300000000 ≤ january k ∧ january k ≤ 300000000 := by unfold january; omega
      have hl : 365 ≤ yearLen k ∧ yearLen k ≤ 366 := by unfold yearLen; split <;> omega
      refine ih (janB0 y n k) (january (k + 1)) (k + 1) ?_ rfl (by omega) (by omega) (by omega)
      rw [janB0_s, hn, kwi (january k + yearLen k) (by omega) (by omega), kwi (k + 1) (by omega) (by omega), january_next]
    · have : k = y := by omega
      subst this
      rw [decide_eq_false (by omega), hn]
      rfl
theorem rJan (y : Int) (h1 : -280000 ≤ y) (h2 : y ≤ 280000) : Run1 (orcA oDown oYear) 36 [.int .i64 y] (.int .i64 (january y)) := by
  refine ⟨1000, ?_⟩
  have e : einv PP tab (orcA oDown oYear) 1000 (.func 36) [.int .i64 y] hp0 (fun v H => some (v, H)) = einvC PP tab (orcA oDown oYear) 999 36 [.int .i64 y] hp0 (fun v H => some (v, H)) := einv_C PP tab _ 999 _ _ _ _ (orcA_ne (orcB_ne (by rfl) _ _ _) (orcB_ne (by rfl) _ _ _)) (by kernel_rfl)
  rw [e, einvC, ecode_cut PP tab (einv PP tab (orcA oDown oYear) 999) 999 ⟨36, none⟩ 4 _ janP]
  rw [show (max (ntOf PP 36) [Value.int IntKind.i64 y].length) = (max (ntOf PP 36) 1) from rfl, janH]
  refine Res.ctb (by simp; omega) ?_
  rw [janN, ecode_loopE]
  rw [janL y h1 h2 _ 998 (jan0 y) (january (400 * (y / 400))) (400 * (y / 400)) (by rw [jan0_s, january_era]; simp (disch := omega) only [kwi]) rfl (by omega) (by omega) (by omega), janB1_t]
  exact Res.done rfl rfl
noncomputable section
def mJan : List Value → Option (Bool × Value)
  | [.int .i64 x] => some (decide (-280000 ≤ x) && decide (x ≤ 280000), .int .i64 (january x))
  | _ => none
def oJan : Orc := orcB baseB 36 mJan
theorem okJan : OrcOk PP tab oJan := by
  refine okOrc (orcA_ok okDown okYear) fun args v h => ?_
  unfold mJan at h
  split at h
  · simp only [Option.some.injEq, Prod.mk.injEq, Bool.and_eq_true, decide_eq_true_eq] at h
    obtain ⟨⟨h1, h2⟩, rfl⟩ := h
    exact ⟨rfl, rfl, rJan _ h1 h2⟩
  · cases h
end
end Go.Ev
end
section
set_option linter.unusedSimpArgs false
set_option linter.unusedVariables false
set_option maxRecDepth 100000
set_option linter.unusedVariables false
namespace Go.Ev
open Go
theorem t_rdays1 {α : Type} (K : Value → Hp → Option α) (x0 : Int) (x1 : Int) : einv PP tab (orcA oJan oRMonth) 60 (.func 21) [.agg ⟨[.int .i64 x0, .int .i64 1, .int .i64 x1]⟩] hp0 K =
  cond (decide ((x0 : Int) < (-280000)))
  (K (.tuple ⟨[(.int .i64 0), (.bool false)]⟩) hp0)
  (cond (decide ((x0 : Int) > 280000))
    (K (.tuple ⟨[(.int .i64 0), (.bool false)]⟩) hp0)
    (cond (decide ((x1 : Int) < 1))
      (K (.tuple ⟨[(.int .i64 0), (.bool false)]⟩) hp0)
      (cond (decide ((x1 : Int) > (mlen x0 1)))
        (K (.tuple ⟨[(.int .i64 0), (.bool false)]⟩) hp0)
        (cond ((decide (((-280000) : Int) ≤ x0)) && (decide ((x0 : Int) ≤ 280000)))
          (cond (decide (((kw .i64 ((kw .i64 ((january x0) + x1)) - 1)) : Int) < (-100000001)))
            (K (.tuple ⟨[(.int .i64 0), (.bool false)]⟩) hp0)
            (cond (decide (((kw .i64 ((kw .i64 ((january x0) + x1)) - 1)) : Int) > 100000000))
              (K (.tuple ⟨[(.int .i64 0), (.bool false)]⟩) hp0)
              (K (.tuple ⟨[(.int .i64 (kw .i64 ((kw .i64 ((january x0) + x1)) - 1))), (.bool true)]⟩) hp0)))
          (none))))) := by kernel_rfl

theorem t_rdays2 {α : Type} (K : Value → Hp → Option α) (x0 : Int) (x1 : Int) : einv PP tab (orcA oJan oRMonth) 60 (.func 21) [.agg ⟨[.int .i64 x0, .int .i64 2, .int .i64 x1]⟩] hp0 K =
  cond (decide ((x0 : Int) < (-280000)))
  (K (.tuple ⟨[(.int .i64 0), (.bool false)]⟩) hp0)
  (cond (decide ((x0 : Int) > 280000))
    (K (.tuple ⟨[(.int .i64 0), (.bool false)]⟩) hp0)
    (cond (decide ((x1 : Int) < 1))
      (K (.tuple ⟨[(.int .i64 0), (.bool false)]⟩) hp0)
      (cond (decide ((x1 : Int) > (mlen x0 2)))
        (K (.tuple ⟨[(.int .i64 0), (.bool false)]⟩) hp0)
        (cond ((decide (((-280000) : Int) ≤ x0)) && (decide ((x0 : Int) ≤ 280000)))
          (cond (decide (((kw .i64 ((kw .i64 ((kw .i64 ((january x0) + (mlen x0 1))) + x1)) - 1)) : Int) < (-100000001)))
            (K (.tuple ⟨[(.int .i64 0), (.bool false)]⟩) hp0)
            (cond (decide (((kw .i64 ((kw .i64 ((kw .i64 ((january x0) + (mlen x0 1))) + x1)) - 1)) : Int) > 100000000))
              (K (.tuple ⟨[(.int .i64 0), (.bool false)]⟩) hp0)
              (K (.tuple ⟨[(.int .i64 (kw .i64 ((kw .i64 ((kw .i64 ((january x0) + (mlen x0 1))) + x1)) - 1))), (.bool true)]⟩) hp0)))
          (none))))) := by kernel_rfl

theorem t_rdays3 {α : Type} (K : Value → Hp → Option α) (x0 : Int) (x1 : Int) : einv PP tab (orcA oJan oRMonth) 60 (.func 21) [.agg ⟨[.int .i64 x0, .int .i64 3, .int .i64 x1]⟩] hp0 K =
  cond (decide ((x0 : Int) < (-280000)))
  (K (.tuple ⟨[(.int .i64 0), (.bool false)]⟩) hp0)
  (cond (decide ((x0 : Int) > 280000))
    (K (.tuple ⟨[(.int .i64 0), (.bool false)]⟩) hp0)
    (cond (decide ((x1 : Int) < 1))
      (K (.tuple ⟨[(.int .i64 0), (.bool false)]⟩) hp0)
      (cond (decide ((x1 : Int) > (mlen x0 3)))
        (K (.tuple ⟨[(.int .i64 0), (.bool false)]⟩) hp0)
        (cond ((decide (((-280000) : Int) ≤ x0)) && (decide ((x0 : Int) ≤ 280000)))
          (cond (decide (((kw .i64 ((kw .i64 ((kw .i64 ((kw .i64 ((january x0) + (mlen x0 1))) + (mlen x0 2))) + x1)) - 1)) : Int) < (-100000001)))
            (K (.tuple ⟨[(.int .i64 0), (.bool false)]⟩) hp0)
            (cond (decide (((kw .i64 ((kw .i64 ((kw .i64 ((kw .i64 ((january x0) + (mlen x0 1))) + (mlen x0 2))) + x1)) - 1)) : Int) > 100000000))
              (K (.tuple ⟨[(.int .i64 0), (.bool false)]⟩) hp0)
              (K (.tuple ⟨[(.int .i64 (kw .i64 ((kw .i64 ((kw .i64 ((kw .i64 ((january x0) + (mlen x0 1))) + (mlen x0 2))) + x1)) - 1))), (.bool true)]⟩) hp0)))
          (none))))) := by kernel_rfl

theorem t_rdays4 {α : Type} (K : Value → Hp → Option α) (x0 : Int) (x1 : Int) : einv PP tab (orcA oJan oRMonth) 60 (.func 21) [.agg ⟨[.int .i64 x0, .int .i64 4, .int .i64 x1]⟩] hp0 K =
  cond (decide ((x0 : Int) < (-280000)))
  (K (.tuple ⟨[(.int .i64 0), (.bool false)]⟩) hp0)
  (cond (decide ((x0 : Int) > 280000))
    (K (.tuple ⟨[(.int .i64 0), (.bool false)]⟩) hp0)
    (cond (decide ((x1 : Int) < 1))
      (K (.tuple ⟨[(.int .i64 0), (.bool false)]⟩) hp0)
      (cond (decide ((x1 : Int) > (mlen x0 4)))
        (K (.tuple ⟨[(.int .i64 0), (.bool false)]⟩) hp0)
        (cond ((decide (((-280000) : Int) ≤ x0)) && (decide ((x0 : Int) ≤ 280000)))
          (cond (decide (((kw .i64 ((kw .i64 ((kw .i64 ((kw .i64 ((kw .i64 ((january x0) + (mlen x0 1))) + (mlen x0 2))) + (mlen x0 3))) + x1)) - 1)) : Int) < (-100000001)))
            (K (.tuple ⟨[(.int .i64 0), (.bool false)]⟩) hp0)
            (cond (decide (((kw .i64 ((kw .i64 ((kw .i64 ((kw .i64 ((kw .i64 ((january x0) + (mlen x0 1))) + (mlen x0 2))) + (mlen x0 3))) + x1)) - 1)) : Int) > 100000000))
              (K (.tuple ⟨[(.int .i64 0), (.bool false)]⟩) hp0)
              (K (.tuple ⟨[(.int .i64 (kw .i64 ((kw .i64 ((kw .i64 ((kw .i64 ((kw .i64 ((january x0) + (mlen x0 1))) + (mlen x0 2))) + (mlen x0 3))) + x1)) - 1))), (.bool true)]⟩) hp0)))
          (none))))) := by kernel_rfl

theorem t_rdays5 {α : Type} (K : Value → Hp → Option α) (x0 : Int) (x1 : Int) : einv PP tab (orcA oJan oRMonth) 60 (.func 21) [.agg ⟨[.int .i64 x0, .int .i64 5, .int .i64 x1]⟩] hp0 K =
  cond (decide ((x0 : Int) < (-280000)))
  (K (.tuple ⟨[(.int .i64 0), (.bool false)]⟩) hp0)
  (cond (decide ((x0 : Int) > 280000))
    (K (.tuple ⟨[(.int .i64 0), (.bool false)]⟩) hp0)
    (cond (decide ((x1 : Int) < 1))
      (K (.tuple ⟨[(.int .i64 0), (.bool false)]⟩) hp0)
      (cond (decide ((x1 : Int) > (mlen x0 5)))
        (K (.tuple ⟨[(.int .i64 0), (.bool false)]⟩) hp0)
        (cond ((decide (((-280000) : Int) ≤ x0)) && (decide ((x0 : Int) ≤ 280000)))
          (cond (decide (((kw .i64 ((kw .i64 ((kw .i64 ((kw .i64 ((kw .i64 ((kw .i64 ((january x0) + (mlen x0 1))) + (mlen x0 2))) + (mlen x0 3))) + (mlen x0 4))) + x1)) - 1)) : Int) < (-100000001)))
            (K (.tuple ⟨[(.int .i64 0), (.bool false)]⟩) hp0)
            (cond (decide (((kw .i64 ((kw .i64 ((kw .i64 ((kw .i64 ((kw .i64 ((kw .i64 ((january x0) + (mlen x0 1))) + (mlen x0 2))) + (mlen x0 3))) + (mlen x0 4))) + x1)) - 1)) : Int) > 100000000))
              (K (.tuple ⟨[(.int .i64 0), (.bool false)]⟩) hp0)
              (K (.tuple ⟨[(.int .i64 (kw .i64 ((kw .i64 ((kw .i64 ((kw .i64 ((kw .i64 ((kw .i64 ((january x0) + (mlen x0 1))) + (mlen x0 2))) + (mlen x0 3))) + (mlen x0 4))) + x1)) - 1))), (.bool true)]⟩) hp0)))
          (none))))) := by kernel_rfl

theorem t_rdays6 {α : Type} (K : Value → Hp → Option α) (x0 : Int) (x1 : Int) : einv PP tab (orcA oJan oRMonth) 60 (.func 21) [.agg ⟨[.int .i64 x0, .int .i64 6, .int .i64 x1]⟩] hp0 K =
  cond (decide ((x0 : Int) < (-280000)))
  (K (.tuple ⟨[(.int .i64 0), (.bool false)]⟩) hp0)
  (cond (decide ((x0 : Int) > 280000))
    (K (.tuple ⟨[(.int .i64 0), (.bool false)]⟩) hp0)
    (cond (decide ((x1 : Int) < 1))
      (K (.tuple ⟨[(.int .i64 0), (.bool false)]⟩) hp0)
      (cond (decide ((x1 : Int) > (mlen x0 6)))
        (K (.tuple ⟨[(.int .i64 0), (.bool false)]⟩) hp0)
        (cond ((decide (((-280000) : Int) ≤ x0)) && (decide ((x0 : Int) ≤ 280000)))
          (cond (decide (((kw .i64 ((kw .i64 ((kw .i64 ((kw .i64 ((kw .i64 ((kw .i64 ((kw .i64 ((january x0) + (mlen x0 1))) + (mlen x0 2))) + (mlen x0 3))) + (mlen x0 4))) + (mlen x0 5))) + x1)) - 1)) : Int) < (-100000001)))
            (K (.tuple ⟨[(.int .i64 0), (.bool false)]⟩) hp0)
            (cond (decide (((kw .i64 ((kw .i64 ((kw .i64 ((kw .i64 ((kw .i64 ((kw .i64 ((kw .i64 ((january x0) + (mlen x0 1))) + (mlen x0 2))) + (mlen x0 3))) + (mlen x0 4))) + (mlen x0 5))) + x1)) - 1)) : Int) > 100000000))
              (K (.tuple ⟨[(.int .i64 0), (.bool false)]⟩) hp0)
              (K (.tuple ⟨[(.int .i64 (kw .i64 ((kw .i64 ((kw .i64 ((kw .i64 ((kw .i64 ((kw .i64 ((kw .i64 ((january x0) + (mlen x0 1))) + (mlen x0 2))) + (mlen x0 3))) + (mlen x0 4))) + (mlen x0 5))) + x1)) - 1))), (.bool true)]⟩) hp0)))
          (none))))) := by kernel_rfl

theorem t_rdays7 {α : Type} (K : Value → Hp → Option α) (x0 : Int) (x1 : Int) : einv PP tab (orcA oJan oRMonth) 60 (.func 21) [.agg ⟨[.int .i64 x0, .int .i64 7, .int .i64 x1]⟩] hp0 K =
  cond (decide ((x0 : Int) < (-280000)))
  (K (.tuple ⟨[(.int .i64 0), (.bool false)]⟩) hp0)
  (cond (decide ((x0 : Int) > 280000))
    (K (.tuple ⟨[(.int .i64 0), (.bool false)]⟩) hp0)
    (cond (decide ((x1 : Int) < 1))
      (K (.tuple ⟨[(.int .i64 0), (.bool false)]⟩) hp0)
      (cond (decide ((x1 : Int) > (mlen x0 7)))
        (K (.tuple ⟨[(.int .i64 0), (.bool false)]⟩) hp0)
        (cond ((decide (((-280000) : Int) ≤ x0)) && (decide ((x0 : Int) ≤ 280000)))
          (cond (decide (((kw .i64 ((kw .i64 ((kw .i64 ((kw .i64 ((kw .i64 ((kw .i64 ((kw .i64 ((kw .i64 ((january x0) + (mlen x0 1))) + (mlen x0 2))) + (mlen x0 3))) + (mlen x0 4))) + (mlen x0 5))) + (mlen x0 6))) + x1)) - 1)) : Int) < (-100000001)))
            (K (.tuple ⟨[(.int .i64 0), (.bool false)]⟩) hp0)
            (cond (decide (((kw .i64 ((kw .i64 ((kw .i64 ((kw .i64 ((kw .i64 ((kw .i64 ((kw .i64 ((kw .i64 ((january x0) + (mlen x0 1))) + (mlen x0 2))) + (mlen x0 3))) + (mlen x0 4))) + (mlen x0 5))) + (mlen x0 6))) + x1)) - 1)) : Int) > 100000000))
              (K (.tuple ⟨[(.int .i64 0), (.bool false)]⟩) hp0)
              (K (.tuple ⟨[(.int .i64 (kw .i64 ((kw .i64 ((kw .i64 ((kw .i64 ((kw .i64 ((kw .i64 ((kw .i64 ((kw .i64 ((january x0) + (mlen x0 1))) + (mlen x0 2))) + (mlen x0 3))) + (mlen x0 4))) + (mlen x0 5))) + (mlen x0 6))) + x1)) - 1))), (.bool true)]⟩) hp0)))
          (none))))) := by kernel_rfl

theorem t_rdays8 {α : Type} (K : Value → Hp → Option α) (x0 : Int) (x1 : Int) : einv PP tab (orcA oJan oRMonth) 60 (.func 21) [.agg ⟨[.int .i64 x0, .int .i64 8, .int .i64 x1]⟩] hp0 K =
  cond (decide ((x0 : Int) < (-280000)))
  (K (.tuple ⟨[(.int .i64 0), (.bool false)]⟩) hp0)
  (cond (decide ((x0 : Int) > 280000))
    (K (.tuple ⟨[(.int .i64 0), (.bool false)]⟩) hp0)
    (cond (decide ((x1 : Int) < 1))
      (K (.tuple ⟨[(.int .i64 0), (.bool false)]⟩) hp0)
      (cond (decide ((x1 : Int) > (mlen x0 8)))
        (K (.tuple ⟨[(.int .i64 0), (.bool false)]⟩) hp0)
        (cond ((decide (((-280000) : Int) ≤ x0)) && (decide ((x0 : Int) ≤ 280000)))
          (cond (decide (((kw .i64 ((kw .i64 ((kw .i64 ((kw .i64 ((kw .i64 ((kw .i64 ((kw .i64 ((kw .i64 ((kw .i64 ((january x0) + (mlen x0 1))) + (mlen x0 2))) + (mlen x0 3))) + (mlen x0 4))) + (mlen x0 5))) + (mlen x0 6))) + (mlen x0 7))) + x1)) - 1)) : Int) < (-100000001)))
            (K (.tuple ⟨[(.int .i64 0), (.bool false)]⟩) hp0)
            (cond (decide (((kw .i64 ((kw .i64 ((kw .i64 ((kw .i64 ((kw .i64 ((kw .i64 ((kw .i64 ((kw .i64 ((kw .i64 ((january x0) + (mlen x0 1))) + (mlen x0 2))) + (mlen x0 3))) + (mlen x0 4))) + (mlen x0 5))) + (mlen x0 6))) + (mlen x0 7))) + x1)) - 1)) : Int) > 100000000))
              (K (.tuple ⟨[(.int .i64 0), (.bool false)]⟩) hp0)
              (K (.tuple ⟨[(.int .i64 (kw .i64 ((kw .i64 ((kw .i64 ((kw .i64 ((kw .i64 ((kw .i64 ((kw .i64 ((kw .i64 ((kw .i64 ((january x0) + (mlen x0 1))) + (mlen x0 2))) + (mlen x0 3))) + (mlen x0 4))) + (mlen x0 5))) + (mlen x0 6))) + (mlen x0 7))) + x1)) - 1))), (.bool true)]⟩) hp0)))
          (none))))) := by kernel_rfl

theorem t_rdays9 {α : Type} (K : Value → Hp → Option α) (x0 : Int) (x1 : Int) : einv PP tab (orcA oJan oRMonth) 60 (.func 21) [.agg ⟨[.int .i64 x0, .int .i64 9, .int .i64 x1]⟩] hp0 K =
  cond (decide ((x0 : Int) < (-280000)))
  (K (.tuple ⟨[(.int .i64 0), (.bool false)]⟩) hp0)
  (cond (decide ((x0 : Int) > 280000))
    (K (.tuple ⟨[(.int .i64 0), (.bool false)]⟩) hp0)
    (cond (decide ((x1 : Int) < 1))
      (K (.tuple ⟨[(.int .i64 0), (.bool false)]⟩) hp0)
      (cond (decide ((x1 : Int) > (mlen x0 9)))
        (K (.tuple ⟨[(.int .i64 0), (.bool false)]⟩) hp0)
        (cond ((decide (((-280000) : Int) ≤ x0)) && (decide ((x0 : Int) ≤ 280000)))
          (cond (decide (((kw .i64 ((kw .i64 ((kw .i64 ((kw .i64 ((kw .i64 ((kw .i64 ((kw .i64 ((kw .i64 ((kw .i64 ((kw .i64 ((january x0) + (mlen x0 1))) + (mlen x0 2))) + (mlen x0 3))) + (mlen x0 4))) + (mlen x0 5))) + (mlen x0 6))) + (mlen x0 7))) + (mlen x0 8))) + x1)) - 1)) : Int) < (-100000001)))
            (K (.tuple ⟨[(.int .i64 0), (.bool false)]⟩) hp0)
            (cond (decide (((kw .i64 ((kw .i64 ((kw .i64 ((kw .i64 ((kw .i64 ((kw .i64 ((kw .i64 ((kw .i64 ((kw .i64 ((kw .i64 ((january x0) + (mlen x0 1))) + (mlen x0 2))) + (mlen x0 3))) + (mlen x0 4))) + (mlen x0 5))) + (mlen x0 6))) + (mlen x0 7))) + (mlen x0 8))) + x1)) - 1)) : Int) > 100000000))
              (K (.tuple ⟨[(.int .i64 0), (.bool false)]⟩) hp0)
              (K (.tuple ⟨[(.int .i64 (kw .i64 ((kw .i64 ((kw .i64 ((kw .i64 ((kw .i64 ((kw .i64 ((kw .i64 ((kw .i64 ((kw .i64 ((kw .i64 ((january x0) + (mlen x0 1))) + (mlen x0 2))) + (mlen x0 3))) + (mlen x0 4))) + (mlen x0 5))) + (mlen x0 6))) + (mlen x0 7))) + (mlen x0 8))) + x1)) - 1))), (.bool true)]⟩) hp0)))
          (none))))) := by kernel_rfl

theorem t_rdays10 {α : Type} (K : Value → Hp → Option α) (x0 : Int) (x1 : Int) : einv PP tab (orcA oJan oRMonth) 60 (.func 21) [.agg ⟨[.int .i64 x0, .int .i64 10, .int .i64 x1]⟩] hp0 K =
  cond (decide ((x0 : Int) < (-280000)))
  (K (.tuple ⟨[(.int .i64 0), (.bool false)]⟩) hp0)
  (cond (decide ((x0 : Int) > 280000))
    (K (.tuple ⟨[(.int .i64 0), (.bool false)]⟩) hp0)
    (cond (decide ((x1 : Int) < 1))
      (K (.tuple ⟨[(.int .i64 0), (.bool false)]⟩) hp0)
      (cond (decide ((x1 : Int) > (mlen x0 10)))
        (K (.tuple ⟨[(.int .i64 0), (.bool false)]⟩) hp0)
        (cond ((decide (((-280000) : Int) ≤ x0)) && (decide ((x0 : Int) ≤ 280000)))
          (cond (decide (((kw .i64 ((kw .i64 ((kw .i64 ((kw .i64 ((kw .i64 ((kw .i64 ((kw .i64 ((kw .i64 ((kw .i64 ((kw .i64 ((kw .i64 ((january x0) + (mlen x0 1))) + (mlen x0 2))) + (mlen x0 3))) + (mlen x0 4))) + (mlen x0 5))) + (mlen x0 6))) + (mlen x0 7))) + (mlen x0 8))) + (mlen x0 9))) + x1)) - 1)) : Int) < (-100000001)))
            (K (.tuple ⟨[(.int .i64 0), (.bool false)]⟩) hp0)
            (cond (decide (((kw .i64 ((kw .i64 ((kw .i64 ((kw .i64 ((kw .i64 ((kw .i64 ((kw .i64 ((kw .i64 ((kw .i64 ((kw .i64 ((kw .i64 ((january x0) + (mlen x0 1))) + (mlen x0 2))) + (mlen x0 3))) + (mlen x0 4))) + (mlen x0 5))) + (mlen x0 6))) + (mlen x0 7))) + (mlen x0 8))) + (mlen x0 9))) + x1)) - 1)) : Int) > 100000000))
              (K (.tuple ⟨[(.int .i64 0), (.bool false)]⟩) hp0)
              (K (.tuple ⟨[(.int .i64 (kw .i64 ((kw .i64 ((kw .i64 ((kw .i64 ((kw .i64 ((kw .i64 ((kw .i64 ((kw .i64 ((kw .i64 ((kw .i64 ((kw .i64 ((january x0) + (mlen x0 1))) + (mlen x0 2))) + (mlen x0 3))) + (mlen x0 4))) + (mlen x0 5))) + (mlen x0 6))) + (mlen x0 7))) + (mlen x0 8))) + (mlen x0 9))) + x1)) - 1))), (.bool true)]⟩) hp0)))
          (none))))) := by kernel_rfl

theorem t_rdays11 {α : Type} (K : Value → Hp → Option α) (x0 : Int) (x1 : Int) : einv PP tab (orcA oJan oRMonth) 60 (.func 21) [.agg ⟨[.int .i64 x0, .int .i64 11, .int .i64 x1]⟩] hp0 K =
  cond (decide ((x0 : Int) < (-280000)))
  (K (.tuple ⟨[(.int .i64 0), (.bool false)]⟩) hp0)
  (cond (decide ((x0 : Int) > 280000))
    (K (.tuple ⟨[(.int .i64 0), (.bool false)]⟩) hp0)
    (cond (decide ((x1 : Int) < 1))
      (K (.tuple ⟨[(.int .i64 0), (.bool false)]⟩) hp0)
      (cond (decide ((x1 : Int) > (mlen x0 11)))
        (K (.tuple ⟨[(.int .i64 0), (.bool false)]⟩) hp0)
        (cond ((decide (((-280000) : Int) ≤ x0)) && (decide ((x0 : Int) ≤ 280000)))
          (cond (decide (((kw .i64 ((kw .i64 ((kw .i64 ((kw .i64 ((kw .i64 ((kw .i64 ((kw .i64 ((kw .i64 ((kw .i64 ((kw .i64 ((kw .i64 ((kw .i64 ((january x0) + (mlen x0 1))) + (mlen x0 2))) + (mlen x0 3))) + (mlen x0 4))) + (mlen x0 5))) + (mlen x0 6))) + (mlen x0 7))) + (mlen x0 8))) + (mlen x0 9))) + (mlen x0 10))) + x1)) - 1)) : Int) < (-100000001)))
            (K (.tuple ⟨[(.int .i64 0), (.bool false)]⟩) hp0)
            (cond (decide (((kw .i64 ((kw .i64 ((kw .i64 ((kw .i64 ((kw .i64 ((kw .i64 ((kw .i64 ((kw .i64 ((kw .i64 ((kw .i64 ((kw .i64 ((kw .i64 ((january x0) + (mlen x0 1))) + (mlen x0 2))) + (mlen x0 3))) + (mlen x0 4))) + (mlen x0 5))) + (mlen x0 6))) + (mlen x0 7))) + (mlen x0 8))) + (mlen x0 9))) + (mlen x0 10))) + x1)) - 1)) : Int) > 100000000))
              (K (.tuple ⟨[(.int .i64 0), (.bool false)]⟩) hp0)
              (K (.tuple ⟨[(.int .i64 (kw .i64 ((kw .i64 ((kw .i64 ((kw .i64 ((kw .i64 ((kw .i64 ((kw .i64 ((kw .i64 ((kw .i64 ((kw .i64 ((kw .i64 ((kw .i64 ((january x0) + (mlen x0 1))) + (mlen x0 2))) + (mlen x0 3))) + (mlen x0 4))) + (mlen x0 5))) + (mlen x0 6))) + (mlen x0 7))) + (mlen x0 8))) + (mlen x0 9))) + (mlen x0 10))) + x1)) - 1))), (.bool true)]⟩) hp0)))
          (none))))) := by kernel_rfl

theorem t_rdays12 {α : Type} (K : Value → Hp → Option α) (x0 : Int) (x1 : Int) : einv PP tab (orcA oJan oRMonth) 60 (.func 21) [.agg ⟨[.int .i64 x0, .int .i64 12, .int .i64 x1]⟩] hp0 K =
  cond (decide ((x0 : Int) < (-280000)))
  (K (.tuple ⟨[(.int .i64 0), (.bool false)]⟩) hp0)
  (cond (decide ((x0 : Int) > 280000))
    (K (.tuple ⟨[(.int .i64 0), (.bool false)]⟩) hp0)
    (cond (decide ((x1 : Int) < 1))
      (K (.tuple ⟨[(.int .i64 0), (.bool false)]⟩) hp0)
      (cond (decide ((x1 : Int) > (mlen x0 12)))
        (K (.tuple ⟨[(.int .i64 0), (.bool false)]⟩) hp0)
        (cond ((decide (((-280000) : Int) ≤ x0)) && (decide ((x0 : Int) ≤ 280000)))
          (cond (decide (((kw .i64 ((kw .i64 ((kw .i64 ((kw .i64 ((kw .i64 ((kw .i64 ((kw .i64 ((kw .i64 ((kw .i64 ((kw .i64 ((kw .i64 ((kw .i64 ((kw .i64 ((january x0) + (mlen x0 1))) + (mlen x0 2))) + (mlen x0 3))) + (mlen x0 4))) + (mlen x0 5))) + (mlen x0 6))) + (mlen x0 7))) + (mlen x0 8))) + (mlen x0 9))) + (mlen x0 10))) + (mlen x0 11))) + x1)) - 1)) : Int) < (-100000001)))
            (K (.tuple ⟨[(.int .i64 0), (.bool false)]⟩) hp0)
            (cond (decide (((kw .i64 ((kw .i64 ((kw .i64 ((kw .i64 ((kw .i64 ((kw .i64 ((kw .i64 ((kw .i64 ((kw .i64 ((kw .i64 ((kw .i64 ((kw .i64 ((kw .i64 ((january x0) + (mlen x0 1))) + (mlen x0 2))) + (mlen x0 3))) + (mlen x0 4))) + (mlen x0 5))) + (mlen x0 6))) + (mlen x0 7))) + (mlen x0 8))) + (mlen x0 9))) + (mlen x0 10))) + (mlen x0 11))) + x1)) - 1)) : Int) > 100000000))
              (K (.tuple ⟨[(.int .i64 0), (.bool false)]⟩) hp0)
              (K (.tuple ⟨[(.int .i64 (kw .i64 ((kw .i64 ((kw .i64 ((kw .i64 ((kw .i64 ((kw .i64 ((kw .i64 ((kw .i64 ((kw .i64 ((kw .i64 ((kw .i64 ((kw .i64 ((kw .i64 ((january x0) + (mlen x0 1))) + (mlen x0 2))) + (mlen x0 3))) + (mlen x0 4))) + (mlen x0 5))) + (mlen x0 6))) + (mlen x0 7))) + (mlen x0 8))) + (mlen x0 9))) + (mlen x0 10))) + (mlen x0 11))) + x1)) - 1))), (.bool true)]⟩) hp0)))
          (none))))) := by kernel_rfl

theorem t_rdaysC {α : Type} (K : Value → Hp → Option α) (KL : Env → Hp → Option α) (x0 : Int) (x1 : Int) (x2 : Int) : ecodeP PP tab (einv PP tab (orcA oJan oRMonth) 59) 59 ⟨21, none⟩ 3 KL (codeOf PP 21) (enter (max (ntOf PP 21) 1) [.agg ⟨[.int .i64 x0, .int .i64 x1, .int .i64 x2]⟩]) hp0 (retK PP tab (einv PP tab (orcA oJan oRMonth) 59) 21 K) =
  cond (decide ((x0 : Int) < (-280000)))
  (K (.tuple ⟨[(.int .i64 0), (.bool false)]⟩) hp0)
  (cond (decide ((x0 : Int) > 280000))
    (K (.tuple ⟨[(.int .i64 0), (.bool false)]⟩) hp0)
    (cond (decide ((x1 : Int) < 1))
      (K (.tuple ⟨[(.int .i64 0), (.bool false)]⟩) hp0)
      (cond (decide ((x1 : Int) > 12))
        (K (.tuple ⟨[(.int .i64 0), (.bool false)]⟩) hp0)
        (cond (decide ((x2 : Int) < 1))
          (K (.tuple ⟨[(.int .i64 0), (.bool false)]⟩) hp0)
          (cond (decide ((x2 : Int) > (mlen x0 x1)))
            (K (.tuple ⟨[(.int .i64 0), (.bool false)]⟩) hp0)
            (KL ⟨66, (.node (.node (.node (.node (.node (.node (.node .nil (.tuple ⟨[]⟩) .nil) (.int .i64 x2) (.node .nil (.tuple ⟨[]⟩) .nil)) (.pointer (some ⟨1, 1, (some 0)⟩)) (.node (.node .nil (.tuple ⟨[]⟩) .nil) (.tuple ⟨[]⟩) (.node .nil (.tuple ⟨[]⟩) .nil))) (.int .i64 x0) (.node (.node (.node .nil (.tuple ⟨[]⟩) .nil) (.tuple ⟨[]⟩) (.node .nil (.tuple ⟨[]⟩) .nil)) (.bool (decide ((x1 : Int) > 12))) (.node (.node .nil (.tuple ⟨[]⟩) .nil) (.tuple ⟨[]⟩) (.node .nil (.tuple ⟨[]⟩) .nil)))) (.bool false) (.node (.node (.node (.node .nil (.tuple ⟨[]⟩) .nil) (.int .i64 x1) (.node .nil (.tuple ⟨[]⟩) .nil)) (.bool false) (.node (.node .nil (.tuple ⟨[]⟩) .nil) (.tuple ⟨[]⟩) (.node .nil (.tuple ⟨[]⟩) .nil))) (.int .i64 x0) (.node (.node (.node .nil (.tuple ⟨[]⟩) .nil) (.tuple ⟨[]⟩) (.node .nil (.tuple ⟨[]⟩) .nil)) (.bool (decide ((x2 : Int) < 1))) (.node (.node .nil (.tuple ⟨[]⟩) .nil) (.tuple ⟨[]⟩) (.node .nil (.tuple ⟨[]⟩) .nil))))) (.pointer (some ⟨1, 0, (some 0)⟩)) (.node (.node (.node (.node (.node .nil (.tuple ⟨[]⟩) .nil) (.int .i64 x0) (.node .nil (.tuple ⟨[]⟩) .nil)) (.bool (decide ((x1 : Int) < 1))) (.node (.node .nil (.tuple ⟨[]⟩) .nil) (.tuple ⟨[]⟩) (.node .nil (.tuple ⟨[]⟩) .nil))) (.bool false) (.node (.node (.node .nil (.tuple ⟨[]⟩) .nil) (.tuple ⟨[]⟩) (.node .nil (.tuple ⟨[]⟩) .nil)) (.pointer (some ⟨1, 2, (some 0)⟩)) (.node (.node .nil (.tuple ⟨[]⟩) .nil) (.tuple ⟨[]⟩) (.node .nil (.tuple ⟨[]⟩) .nil)))) (.tuple ⟨[]⟩) (.node (.node (.node (.node .nil (.tuple ⟨[]⟩) .nil) (.bool (decide ((x2 : Int) > (mlen x0 x1)))) (.node .nil (.tuple ⟨[]⟩) .nil)) (.int .i64 x1) (.node (.node .nil (.tuple ⟨[]⟩) .nil) (.tuple ⟨[]⟩) (.node .nil (.tuple ⟨[]⟩) .nil))) (.bool (decide ((x0 : Int) > 280000))) (.node (.node (.node .nil (.tuple ⟨[]⟩) .nil) (.tuple ⟨[]⟩) (.node .nil (.tuple ⟨[]⟩) .nil)) (.bool false) (.node (.node .nil (.tuple ⟨[]⟩) .nil) (.tuple ⟨[]⟩) (.node .nil (.tuple ⟨[]⟩) .nil)))))) (.agg ⟨[(.int .i64 x0), (.int .i64 x1), (.int .i64 x2)]⟩) (.node (.node (.node (.node (.node (.node .nil (.tuple ⟨[]⟩) .nil) (.pointer (some ⟨1, 0, (some 0)⟩)) (.node .nil (.tuple ⟨[]⟩) .nil)) (.int .i64 x1) (.node (.node .nil (.tuple ⟨[]⟩) .nil) (.tuple ⟨[]⟩) (.node .nil (.tuple ⟨[]⟩) .nil))) (.bool (decide ((x0 : Int) < (-280000)))) (.node (.node (.node .nil (.tuple ⟨[]⟩) .nil) (.tuple ⟨[]⟩) (.node .nil (.tuple ⟨[]⟩) .nil)) (.bool false) (.node (.node .nil (.tuple ⟨[]⟩) .nil) (.tuple ⟨[]⟩) (.node .nil (.tuple ⟨[]⟩) .nil)))) (.tuple ⟨[]⟩) (.node (.node (.node (.node .nil (.tuple ⟨[]⟩) .nil) (.int .i64 (mlen x0 x1)) (.node .nil (.tuple ⟨[]⟩) .nil)) (.pointer (some ⟨1, 1, (some 0)⟩)) (.node (.node .nil (.tuple ⟨[]⟩) .nil) (.tuple ⟨[]⟩) (.node .nil (.tuple ⟨[]⟩) .nil))) (.bool (decide ((x0 : Int) > 280000))) (.node (.node (.node .nil (.tuple ⟨[]⟩) .nil) (.tuple ⟨[]⟩) (.node .nil (.tuple ⟨[]⟩) .nil)) (.bool (decide ((x2 : Int) < 1))) (.node (.node .nil (.tuple ⟨[]⟩) .nil) (.tuple ⟨[]⟩) (.node .nil (.tuple ⟨[]⟩) .nil))))) (.int .i64 0) (.node (.node (.node (.node (.node .nil (.tuple ⟨[]⟩) .nil) (.pointer (some ⟨1, 1, (some 0)⟩)) (.node .nil (.tuple ⟨[]⟩) .nil)) (.bool (decide ((x1 : Int) < 1))) (.node (.node .nil (.tuple ⟨[]⟩) .nil) (.tuple ⟨[]⟩) (.node .nil (.tuple ⟨[]⟩) .nil))) (.pointer (some ⟨1, 0, (some 0)⟩)) (.node (.node (.node .nil (.tuple ⟨[]⟩) .nil) (.tuple ⟨[]⟩) (.node .nil (.tuple ⟨[]⟩) .nil)) (.int .i64 x2) (.node (.node .nil (.tuple ⟨[]⟩) .nil) (.tuple ⟨[]⟩) (.node .nil (.tuple ⟨[]⟩) .nil)))) (.pointer (some ⟨1, 0, (some 0)⟩)) (.node (.node (.node (.node .nil (.tuple ⟨[]⟩) .nil) (.bool false) (.node .nil (.tuple ⟨[]⟩) .nil)) (.bool (decide ((x1 : Int) > 12))) (.node (.node .nil (.tuple ⟨[]⟩) .nil) (.tuple ⟨[]⟩) (.node .nil (.tuple ⟨[]⟩) .nil))) (.bool false) (.node (.node (.node .nil (.tuple ⟨[]⟩) .nil) (.tuple ⟨[]⟩) (.node .nil (.tuple ⟨[]⟩) .nil)) (.pointer (some ⟨1, 2, (some 0)⟩)) (.node (.node .nil (.tuple ⟨[]⟩) .nil) (.tuple ⟨[]⟩) (.node .nil (.tuple ⟨[]⟩) .nil))))))), (.node (.node (.node (.node (.node (.node (.node .nil none .nil) none (.node .nil none .nil)) none (.node (.node .nil none .nil) none (.node .nil none .nil))) none (.node (.node (.node .nil none .nil) none (.node .nil none .nil)) none (.node (.node .nil none .nil) none (.node .nil none .nil)))) none (.node (.node (.node (.node .nil none .nil) none (.node .nil none .nil)) none (.node (.node .nil none .nil) none (.node .nil none .nil))) none (.node (.node (.node .nil none .nil) none (.node .nil none .nil)) none (.node (.node .nil none .nil) none (.node .nil none .nil))))) (some [(.int .i64 x0), (.int .i64 x1), (.int .i64 x2)]) (.node (.node (.node (.node (.node .nil none .nil) none (.node .nil none .nil)) none (.node (.node .nil none .nil) none (.node .nil none .nil))) none (.node (.node (.node .nil none .nil) none (.node .nil none .nil)) none (.node (.node .nil none .nil) none (.node .nil none .nil)))) none (.node (.node (.node (.node .nil none .nil) none (.node .nil none .nil)) none (.node (.node .nil none .nil) none (.node .nil none .nil))) none (.node (.node (.node .nil none .nil) none (.node .nil none .nil)) none (.node (.node .nil none .nil) none (.node .nil none .nil)))))) none (.node (.node (.node (.node (.node (.node .nil none .nil) none (.node .nil none .nil)) none (.node (.node .nil none .nil) none (.node .nil none .nil))) none (.node (.node (.node .nil none .nil) none (.node .nil none .nil)) none (.node (.node .nil none .nil) none (.node .nil none .nil)))) none (.node (.node (.node (.node .nil none .nil) none (.node .nil none .nil)) none (.node (.node .nil none .nil) none (.node .nil none .nil))) none (.node (.node (.node .nil none .nil) none (.node .nil none .nil)) none (.node (.node .nil none .nil) none (.node .nil none .nil))))) none (.node (.node (.node (.node (.node .nil none .nil) none (.node .nil none .nil)) none (.node (.node .nil none .nil) none (.node .nil none .nil))) none (.node (.node (.node .nil none .nil) none (.node .nil none .nil)) none (.node (.node .nil none .nil) none (.node .nil none .nil)))) none (.node (.node (.node (.node .nil none .nil) none (.node .nil none .nil)) none (.node (.node .nil none .nil) none (.node .nil none .nil))) none (.node (.node (.node .nil none .nil) none (.node .nil none .nil)) none (.node (.node .nil none .nil) none (.node .nil none .nil))))))), []⟩ hp0)))))) := by kernel_rfl

theorem t_count {α : Type} (K : Value → Hp → Option α) (x0 : Int) (x1 : Int) (x2 : Int) : einv PP tab noO 60 (.func 59) [.agg ⟨[.int .i64 x0, .int .i64 x1, .int .i64 x2]⟩] hp0 K =
  cond (decide (((kw .i64 (x1 - 3)) : Int) < 0))
  (cond (decide (((Int.tmod (kw .i64 (x0 - 1)) 400) : Int) < 0))
    (K (.int .i64 (kw .i64 ((kw .i64 ((kw .i64 ((kw .i64 ((kw .i64 ((kw .i64 ((kw .i64 ((kw .i64 ((kw .i64 ((kw .i64 (Int.tdiv (kw .i64 (x0 - 1)) 400)) - 1)) * 146097)) + (kw .i64 ((kw .i64 ((Int.tmod (kw .i64 (x0 - 1)) 400) + 400)) * 365)))) + (kw .i64 (Int.tdiv (kw .i64 ((Int.tmod (kw .i64 (x0 - 1)) 400) + 400)) 4)))) - (kw .i64 (Int.tdiv (kw .i64 ((Int.tmod (kw .i64 (x0 - 1)) 400) + 400)) 100)))) + (kw .i64 (Int.tdiv (kw .i64 ((kw .i64 (153 * (kw .i64 ((kw .i64 (x1 - 3)) + 12)))) + 2)) 5)))) + x2)) - 1)) - 719468))) hp0)
    (K (.int .i64 (kw .i64 ((kw .i64 ((kw .i64 ((kw .i64 ((kw .i64 ((kw .i64 ((kw .i64 ((kw .i64 ((kw .i64 (Int.tdiv (kw .i64 (x0 - 1)) 400)) * 146097)) + (kw .i64 ((Int.tmod (kw .i64 (x0 - 1)) 400) * 365)))) + (kw .i64 (Int.tdiv (Int.tmod (kw .i64 (x0 - 1)) 400) 4)))) - (kw .i64 (Int.tdiv (Int.tmod (kw .i64 (x0 - 1)) 400) 100)))) + (kw .i64 (Int.tdiv (kw .i64 ((kw .i64 (153 * (kw .i64 ((kw .i64 (x1 - 3)) + 12)))) + 2)) 5)))) + x2)) - 1)) - 719468))) hp0))
  (cond (decide (((Int.tmod x0 400) : Int) < 0))
    (K (.int .i64 (kw .i64 ((kw .i64 ((kw .i64 ((kw .i64 ((kw .i64 ((kw .i64 ((kw .i64 ((kw .i64 ((kw .i64 ((kw .i64 (Int.tdiv x0 400)) - 1)) * 146097)) + (kw .i64 ((kw .i64 ((Int.tmod x0 400) + 400)) * 365)))) + (kw .i64 (Int.tdiv (kw .i64 ((Int.tmod x0 400) + 400)) 4)))) - (kw .i64 (Int.tdiv (kw .i64 ((Int.tmod x0 400) + 400)) 100)))) + (kw .i64 (Int.tdiv (kw .i64 ((kw .i64 (153 * (kw .i64 (x1 - 3)))) + 2)) 5)))) + x2)) - 1)) - 719468))) hp0)
    (K (.int .i64 (kw .i64 ((kw .i64 ((kw .i64 ((kw .i64 ((kw .i64 ((kw .i64 ((kw .i64 ((kw .i64 ((kw .i64 (Int.tdiv x0 400)) * 146097)) + (kw .i64 ((Int.tmod x0 400) * 365)))) + (kw .i64 (Int.tdiv (Int.tmod x0 400) 4)))) - (kw .i64 (Int.tdiv (Int.tmod x0 400) 100)))) + (kw .i64 (Int.tdiv (kw .i64 ((kw .i64 (153 * (kw .i64 (x1 - 3)))) + 2)) 5)))) + x2)) - 1)) - 719468))) hp0)) := by kernel_rfl

theorem t_clockR {α : Type} (K : Value → Hp → Option α) (x0 : Int) (x1 : Int) (x2 : Int) (x3 : Int) : einv PP tab noO 60 (.func 17) [.agg ⟨[.int .i64 x0, .int .i64 x1, .int .i64 x2, .int .i64 x3]⟩] hp0 K =
  cond (decide ((x0 : Int) < 0))
  (K (.bool false) hp0)
  (cond (decide ((x0 : Int) > 23))
    (K (.bool false) hp0)
    (cond (decide ((x1 : Int) < 0))
      (K (.bool false) hp0)
      (cond (decide ((x1 : Int) > 59))
        (K (.bool false) hp0)
        (cond (decide ((x2 : Int) < 0))
          (K (.bool false) hp0)
          (cond (decide ((x2 : Int) > 59))
            (K (.bool false) hp0)
            (cond (decide ((x3 : Int) < 0))
              (K (.bool false) hp0)
              (cond (decide ((x3 : Int) > 999999999))
                (K (.bool false) hp0)
                (K (.bool true) hp0)))))))) := by kernel_rfl

theorem t_rclockR {α : Type} (K : Value → Hp → Option α) (x0 : Int) (x1 : Int) (x2 : Int) (x3 : Int) : einv PP tab noO 60 (.func 8) [.agg ⟨[.int .i64 x0, .int .i64 x1, .int .i64 x2, .int .i64 x3]⟩] hp0 K =
  cond (decide ((x0 : Int) ≥ 0))
  (cond (decide ((x0 : Int) < 24))
    (cond (decide ((x1 : Int) ≥ 0))
      (cond (decide ((x1 : Int) < 60))
        (cond (decide ((x2 : Int) ≥ 0))
          (cond (decide ((x2 : Int) < 60))
            (cond (decide ((x3 : Int) ≥ 0))
              (K (.bool (decide ((x3 : Int) < 1000000000))) hp0)
              (K (.bool false) hp0))
            (K (.bool false) hp0))
          (K (.bool false) hp0))
        (K (.bool false) hp0))
      (K (.bool false) hp0))
    (K (.bool false) hp0))
  (K (.bool false) hp0) := by kernel_rfl

end Go.Ev
end
section
set_option linter.unusedSimpArgs false
set_option linter.unusedVariables false
set_option maxHeartbeats 1000000
namespace Go.Ev
open Go
set_option linter.unusedSimpArgs false
theorem rCount (y m d : Int) (h1 : -300000 ≤ y) (h2 : y ≤ 300000) (h3 : 1 ≤ m) (h4 : m ≤ 12) (h5 : 1 ≤ d) (h6 : d ≤ 31) :
    Run1 noO 59 [.agg ⟨[.int .i64 y, .int .i64 m, .int .i64 d]⟩] (.int .i64 (dnum y m d)) := by
  refine ⟨60, ?_⟩
  rw [t_count, kwi (m - 3) (by omega) (by omega), kwi (y - 1) (by omega) (by omega)]
  unfold dnum
  refine Res.split (fun c => ?_) (fun c => ?_)
  · rw [if_pos (by omega)]
    by_cases e : y - 1 < 0
    · rw [tdiv_neg e, tmod_neg e]
      refine Res.split (fun a => ?_) (fun a => ?_)
      all_goals refine Res.done (congrArg (Value.int .i64) ?_) rfl
      all_goals simp (disch := omega) only [kwi, tdiv_pos]
      all_goals omega
    · rw [tdiv_pos (by omega), tmod_pos (by omega)]
      refine Res.cf (by omega) (Res.done (congrArg (Value.int .i64) ?_) rfl)
      simp (disch := omega) only [kwi, tdiv_pos]
      omega
  · rw [if_neg (by omega)]
    by_cases e : y < 0
    · rw [tdiv_neg e, tmod_neg e]
      refine Res.split (fun a => ?_) (fun a => ?_)
      all_goals refine Res.done (congrArg (Value.int .i64) ?_) rfl
      all_goals simp (disch := omega) only [kwi, tdiv_pos]
      all_goals omega
    · rw [tdiv_pos (by omega), tmod_pos (by omega)]
      refine Res.cf (by omega) (Res.done (congrArg (Value.int .i64) ?_) rfl)
      simp (disch := omega) only [kwi, tdiv_pos]
      omega
theorem mlen1 (y : Int) : mlen y 1 = 31 := rfl
theorem mlen3 (y : Int) : mlen y 3 = 31 := rfl
theorem mlen4 (y : Int) : mlen y 4 = 30 := rfl
theorem mlen5 (y : Int) : mlen y 5 = 31 := rfl
theorem mlen6 (y : Int) : mlen y 6 = 30 := rfl
theorem mlen7 (y : Int) : mlen y 7 = 31 := rfl
theorem mlen8 (y : Int) : mlen y 8 = 31 := rfl
theorem mlen9 (y : Int) : mlen y 9 = 30 := rfl
theorem mlen10 (y : Int) : mlen y 10 = 31 := rfl
theorem mlen11 (y : Int) : mlen y 11 = 30 := rfl
theorem mlen12 (y : Int) : mlen y 12 = 31 := rfl
theorem mlen2 (y : Int) : mlen y 2 = 28 + (yearLen y - 365) := by
  show (if _ then (29 : Int) else 28) = _
  unfold yearLen
  split <;> rfl
theorem yearLen_in (y : Int) : 365 ≤ yearLen y ∧ yearLen y ≤ 366 := by unfold yearLen; split <;> omega
/-- What is left of a year, behind its February. -/
theorem year_march (y : Int) : january y + yearLen y = 365 * y + y / 4 - y / 100 + y / 400 - 719162 := by
  rw [← january_next]; unfold january; omega
theorem january_in {y : Int} (h1 : -280000 ≤ y) (h2 : y ≤ 280000) : -300000000 ≤ january y ∧ january y ≤ 300000000 := by unfold january; omega
theorem january_year (y : Int) : january y = 365 * (y - 1) + (y - 1) / 4 - (y - 1) / 100 + (y - 1) / 400 - 719162 := by unfold january; omega
def dateNo (y m d : Int) : Int := if dateOk y m d = true then dnum y m d else 0
theorem dateNo_t {y m d : Int} (h : dateOk y m d = true) : dateNo y m d = dnum y m d := if_pos h
theorem dateNo_f {y m d : Int} (h : ¬ dateOk y m d = true) : dateNo y m d = 0 := if_neg h
def daysV (y m d : Int) : Value := .tuple ⟨[.int .i64 (dateNo y m d), .bool (dateOk y m d)]⟩
theorem daysV_f {y m d : Int} (h : ¬ dateOk y m d = true) : Value.tuple ⟨[.int .i64 0, .bool false]⟩ = daysV y m d := by
  unfold daysV
  rw [dateNo_f h, Bool.eq_false_iff.2 h]
theorem daysV_t {y m d n : Int} (h : dateOk y m d = true) (e : n = dnum y m d) : Value.tuple ⟨[.int .i64 n, .bool true]⟩ = daysV y m d := by
  unfold daysV
  rw [dateNo_t h, h, e]
theorem sum1 {y d n : Int} (h : n = january y + d - 1) : n = dnum y 1 d := by
  rw [h]
  unfold dnum
  have a := year_march y
  have b := january_year y
  try simp only [mlen2, mlen1, mlen3, mlen4, mlen5, mlen6, mlen7, mlen8, mlen9, mlen10, mlen11, mlen12] at *
  rw [if_pos (by omega)]
  omega
theorem sum2 {y d n : Int} (h : n = january y + mlen y 1 + d - 1) : n = dnum y 2 d := by
  rw [h]
  unfold dnum
  have a := year_march y
  have b := january_year y
  try simp only [mlen2, mlen1, mlen3, mlen4, mlen5, mlen6, mlen7, mlen8, mlen9, mlen10, mlen11, mlen12] at *
  rw [if_pos (by omega)]
  omega
theorem sum3 {y d n : Int} (h : n = january y + mlen y 1 + mlen y 2 + d - 1) : n = dnum y 3 d := by
  rw [h]
  unfold dnum
  have a := year_march y
  have b := january_year y
  try simp only [mlen2, mlen1, mlen3, mlen4, mlen5, mlen6, mlen7, mlen8, mlen9, mlen10, mlen11, mlen12] at *
  rw [if_neg (by omega)]
  omega
theorem sum4 {y d n : Int} (h : n = january y + mlen y 1 + mlen y 2 + mlen y 3 + d - 1) : n = dnum y 4 d := by
  rw [h]
  unfold dnum
  have a := year_march y
  have b := january_year y
  try simp only [mlen2, mlen1, mlen3, mlen4, mlen5, mlen6, mlen7, mlen8, mlen9, mlen10, mlen11, mlen12] at *
  rw [if_neg (by omega)]
  omega
theorem sum5 {y d n : Int} (h : n = january y + mlen y 1 + mlen y 2 + mlen y 3 + mlen y 4 + d - 1) : n = dnum y 5 d := by
  rw [h]
  unfold dnum
  have a := year_march y
  have b := january_year y
  try simp only [mlen2, mlen1, mlen3, mlen4, mlen5, mlen6, mlen7, mlen8, mlen9, mlen10, mlen11, mlen12] at *
  rw [if_neg (by omega)]
  omega
theorem sum6 {y d n : Int} (h : n = january y + mlen y 1 + mlen y 2 + mlen y 3 + mlen y 4 + mlen y 5 + d - 1) : n = dnum y 6 d := by
  rw [h]
  unfold dnum
  have a := year_march y
  have b := january_year y
  try simp only [mlen2, mlen1, mlen3, mlen4, mlen5, mlen6, mlen7, mlen8, mlen9, mlen10, mlen11, mlen12] at *
  rw [if_neg (by omega)]
  omega
theorem sum7 {y d n : Int} (h : n = january y + mlen y 1 + mlen y 2 + mlen y 3 + mlen y 4 + mlen y 5 + mlen y 6 + d - 1) : n = dnum y 7 d := by
  rw [h]
  unfold dnum
  have a := year_march y
  have b := january_year y
  try simp only [mlen2, mlen1, mlen3, mlen4, mlen5, mlen6, mlen7, mlen8, mlen9, mlen10, mlen11, mlen12] at *
  rw [if_neg (by omega)]
  omega
theorem sum8 {y d n : Int} (h : n = january y + mlen y 1 + mlen y 2 + mlen y 3 + mlen y 4 + mlen y 5 + mlen y 6 + mlen y 7 + d - 1) : n = dnum y 8 d := by
  rw [h]
  unfold dnum
  have a := year_march y
  have b := january_year y
  try simp only [mlen2, mlen1, mlen3, mlen4, mlen5, mlen6, mlen7, mlen8, mlen9, mlen10, mlen11, mlen12] at *
  rw [if_neg (by omega)]
  omega
theorem sum9 {y d n : Int} (h : n = january y + mlen y 1 + mlen y 2 + mlen y 3 + mlen y 4 + mlen y 5 + mlen y 6 + mlen y 7 + mlen y 8 + d - 1) : n = dnum y 9 d := by
  rw [h]
  unfold dnum
  have a := year_march y
  have b := january_year y
  try simp only [mlen2, mlen1, mlen3, mlen4, mlen5, mlen6, mlen7, mlen8, mlen9, mlen10, mlen11, mlen12] at *
  rw [if_neg (by omega)]
  omega
theorem sum10 {y d n : Int} (h : n = january y + mlen y 1 + mlen y 2 + mlen y 3 + mlen y 4 + mlen y 5 + mlen y 6 + mlen y 7 + mlen y 8 + mlen y 9 + d - 1) : n = dnum y 10 d := by
  rw [h]
  unfold dnum
  have a := year_march y
  have b := january_year y
  try simp only [mlen2, mlen1, mlen3, mlen4, mlen5, mlen6, mlen7, mlen8, mlen9, mlen10, mlen11, mlen12] at *
  rw [if_neg (by omega)]
  omega
theorem sum11 {y d n : Int} (h : n = january y + mlen y 1 + mlen y 2 + mlen y 3 + mlen y 4 + mlen y 5 + mlen y 6 + mlen y 7 + mlen y 8 + mlen y 9 + mlen y 10 + d - 1) : n = dnum y 11 d := by
  rw [h]
  unfold dnum
  have a := year_march y
  have b := january_year y
  try simp only [mlen2, mlen1, mlen3, mlen4, mlen5, mlen6, mlen7, mlen8, mlen9, mlen10, mlen11, mlen12] at *
  rw [if_neg (by omega)]
  omega
theorem sum12 {y d n : Int} (h : n = january y + mlen y 1 + mlen y 2 + mlen y 3 + mlen y 4 + mlen y 5 + mlen y 6 + mlen y 7 + mlen y 8 + mlen y 9 + mlen y 10 + mlen y 11 + d - 1) : n = dnum y 12 d := by
  rw [h]
  unfold dnum
  have a := year_march y
  have b := january_year y
  try simp only [mlen2, mlen1, mlen3, mlen4, mlen5, mlen6, mlen7, mlen8, mlen9, mlen10, mlen11, mlen12] at *
  rw [if_neg (by omega)]
  omega
theorem rRDays (y m d : Int) : Run1 (orcA oJan oRMonth) 21 [.agg ⟨[.int .i64 y, .int .i64 m, .int .i64 d]⟩] (daysV y m d) := by
  refine ⟨60, ?_⟩
  by_cases hm : 1 ≤ m ∧ m ≤ 12
  · by_cases h : dateOk y m d = true
    · have r := dateOk_rng h
      have q := (dateOk_iff y m d).1 h
      have j := january_in r.1 r.2.1
      have l := yearLen_in y
      rcases months hm.1 hm.2 with rfl | rfl | rfl | rfl | rfl | rfl | rfl | rfl | rfl | rfl | rfl | rfl
      · have e := sum1 (y := y) (d := d) rfl
        rw [t_rdays1]
        simp only [mlen1, mlen2, mlen3, mlen4, mlen5, mlen6, mlen7, mlen8, mlen9, mlen10, mlen11, mlen12] at *
        refine Res.cf (by omega) (Res.cf (by omega) (Res.cf (by omega) (Res.cf (by omega) (Res.andt (by omega) ?_))))
        simp (disch := omega) only [kwi]
        exact Res.cf (by omega) (Res.cf (by omega) (Res.done (daysV_t h (by omega)) rfl))
      · have e := sum2 (y := y) (d := d) rfl
        rw [t_rdays2]
        simp only [mlen1, mlen2, mlen3, mlen4, mlen5, mlen6, mlen7, mlen8, mlen9, mlen10, mlen11, mlen12] at *
        refine Res.cf (by omega) (Res.cf (by omega) (Res.cf (by omega) (Res.cf (by omega) (Res.andt (by omega) ?_))))
        simp (disch := omega) only [kwi]
        exact Res.cf (by omega) (Res.cf (by omega) (Res.done (daysV_t h (by omega)) rfl))
      · have e := sum3 (y := y) (d := d) rfl
        rw [t_rdays3]
        simp only [mlen1, mlen2, mlen3, mlen4, mlen5, mlen6, mlen7, mlen8, mlen9, mlen10, mlen11, mlen12] at *
        refine Res.cf (by omega) (Res.cf (by omega) (Res.cf (by omega) (Res.cf (by omega) (Res.andt (by omega) ?_))))
        simp (disch := omega) only [kwi]
        exact Res.cf (by omega) (Res.cf (by omega) (Res.done (daysV_t h (by omega)) rfl))
      · have e := sum4 (y := y) (d := d) rfl
        rw [t_rdays4]
        simp only [mlen1, mlen2, mlen3, mlen4, mlen5, mlen6, mlen7, mlen8, mlen9, mlen10, mlen11, mlen12] at *
        refine Res.cf (by omega) (Res.cf (by omega) (Res.cf (by omega) (Res.cf (by omega) (Res.andt (by omega) ?_))))
        simp (disch := omega) only [kwi]
        exact Res.cf (by omega) (Res.cf (by omega) (Res.done (daysV_t h (by omega)) rfl))
      · have e := sum5 (y := y) (d := d) rfl
        rw [t_rdays5]
        simp only [mlen1, mlen2, mlen3, mlen4, mlen5, mlen6, mlen7, mlen8, mlen9, mlen10, mlen11, mlen12] at *
        refine Res.cf (by omega) (Res.cf (by omega) (Res.cf (by omega) (Res.cf (by omega) (Res.andt (by omega) ?_))))
        simp (disch := omega) only [kwi]
        exact Res.cf (by omega) (Res.cf (by omega) (Res.done (daysV_t h (by omega)) rfl))
      · have e := sum6 (y := y) (d := d) rfl
        rw [t_rdays6]
        simp only [mlen1, mlen2, mlen3, mlen4, mlen5, mlen6, mlen7, mlen8, mlen9, mlen10, mlen11, mlen12] at *
        refine Res.cf (by omega) (Res.cf (by omega) (Res.cf (by omega) (Res.cf (by omega) (Res.andt (by omega) ?_))))
        simp (disch := omega) only [kwi]
        exact Res.cf (by omega) (Res.cf (by omega) (Res.done (daysV_t h (by omega)) rfl))
      · have e := sum7 (y := y) (d := d) rfl
        rw [t_rdays7]
        simp only [mlen1, mlen2, mlen3, mlen4, mlen5, mlen6, mlen7, mlen8, mlen9, mlen10, mlen11, mlen12] at *
        refine Res.cf (by omega) (Res.cf (by omega) (Res.cf (by omega) (Res.cf (by omega) (Res.andt (by omega) ?_))))
        simp (disch := omega) only [kwi]
        exact Res.cf (by omega) (Res.cf (by omega) (Res.done (daysV_t h (by omega)) rfl))
      · have e := sum8 (y := y) (d := d) rfl
        rw [t_rdays8]
        simp only [mlen1, mlen2, mlen3, mlen4, mlen5, mlen6, mlen7, mlen8, mlen9, mlen10, mlen11, mlen12] at *
        refine Res.cf (by omega) (Res.cf (by omega) (Res.cf (by omega) (Res.cf (by omega) (Res.andt (by omega) ?_))))
        simp (disch := omega) only [kwi]
        exact Res.cf (by omega) (Res.cf (by omega) (Res.done (daysV_t h (by omega)) rfl))
      · have e := sum9 (y := y) (d := d) rfl
        rw [t_rdays9]
        simp only [mlen1, mlen2, mlen3, mlen4, mlen5, mlen6, mlen7, mlen8, mlen9, mlen10, mlen11, mlen12] at *
        refine Res.cf (by omega) (Res.cf (by omega) (Res.cf (by omega) (Res.cf (by omega) (Res.andt (by omega) ?_))))
        simp (disch := omega) only [kwi]
        exact Res.cf (by omega) (Res.cf (by omega) (Res.done (daysV_t h (by omega)) rfl))
      · have e := sum10 (y := y) (d := d) rfl
        rw [t_rdays10]
        simp only [mlen1, mlen2, mlen3, mlen4, mlen5, mlen6, mlen7, mlen8, mlen9, mlen10, mlen11, mlen12] at *
        refine Res.cf (by omega) (Res.cf (by omega) (Res.cf (by omega) (Res.cf (by omega) (Res.andt (by omega) ?_))))
        simp (disch := omega) only [kwi]
        exact Res.cf (by omega) (Res.cf (by omega) (Res.done (daysV_t h (by omega)) rfl))
      · have e := sum11 (y := y) (d := d) rfl
        rw [t_rdays11]
        simp only [mlen1, mlen2, mlen3, mlen4, mlen5, mlen6, mlen7, mlen8, mlen9, mlen10, mlen11, mlen12] at *
        refine Res.cf (by omega) (Res.cf (by omega) (Res.cf (by omega) (Res.cf (by omega) (Res.andt (by omega) ?_))))
        simp (disch := omega) only [kwi]
        exact Res.cf (by omega) (Res.cf (by omega) (Res.done (daysV_t h (by omega)) rfl))
      · have e := sum12 (y := y) (d := d) rfl
        rw [t_rdays12]
        simp only [mlen1, mlen2, mlen3, mlen4, mlen5, mlen6, mlen7, mlen8, mlen9, mlen10, mlen11, mlen12] at *
        refine Res.cf (by omega) (Res.cf (by omega) (Res.cf (by omega) (Res.cf (by omega) (Res.andt (by omega) ?_))))
        simp (disch := omega) only [kwi]
        exact Res.cf (by omega) (Res.cf (by omega) (Res.done (daysV_t h (by omega)) rfl))
    · rcases months hm.1 hm.2 with rfl | rfl | rfl | rfl | rfl | rfl | rfl | rfl | rfl | rfl | rfl | rfl
      · have e := sum1 (y := y) (d := d) rfl
        have l := yearLen_in y
        rw [t_rdays1]
        refine Res.split (fun _ => Res.done (daysV_f h) rfl) (fun c1 => Res.split (fun _ => Res.done (daysV_f h) rfl) (fun c2 => Res.split (fun _ => Res.done (daysV_f h) rfl) (fun c3 => Res.split (fun _ => Res.done (daysV_f h) rfl) (fun c4 => Res.andt (by omega) ?_))))
        have j := january_in (y := y) (by omega) (by omega)
        rw [dateOk_iff] at h
        have hd : dnum y 1 d < -100000001 ∨ 100000000 < dnum y 1 d := by
          have u : -280000 ≤ y ∧ y ≤ 280000 := by omega
          by_cases z : dnum y 1 d < -100000001 ∨ 100000000 < dnum y 1 d
          · exact z
          · exfalso
            apply h
            have f := e
            unfold january at f
            have w := mlen_le y 1
            simp only [mlen1, mlen2, mlen3, mlen4, mlen5, mlen6, mlen7, mlen8, mlen9, mlen10, mlen11, mlen12] at *
            refine ⟨by omega, by omega, by omega, by omega, by omega, by omega⟩
        rw [← dateOk_iff] at h
        have w := mlen_le y 1
        simp only [mlen1, mlen2, mlen3, mlen4, mlen5, mlen6, mlen7, mlen8, mlen9, mlen10, mlen11, mlen12] at *
        simp (disch := omega) only [kwi]
        refine Res.split (fun _ => Res.done (daysV_f h) rfl) (fun c1 => Res.ct (by omega) (Res.done (daysV_f h) rfl))
      · have e := sum2 (y := y) (d := d) rfl
        have l := yearLen_in y
        rw [t_rdays2]
        refine Res.split (fun _ => Res.done (daysV_f h) rfl) (fun c1 => Res.split (fun _ => Res.done (daysV_f h) rfl) (fun c2 => Res.split (fun _ => Res.done (daysV_f h) rfl) (fun c3 => Res.split (fun _ => Res.done (daysV_f h) rfl) (fun c4 => Res.andt (by omega) ?_))))
        have j := january_in (y := y) (by omega) (by omega)
        rw [dateOk_iff] at h
        have hd : dnum y 2 d < -100000001 ∨ 100000000 < dnum y 2 d := by
          have u : -280000 ≤ y ∧ y ≤ 280000 := by omega
          by_cases z : dnum y 2 d < -100000001 ∨ 100000000 < dnum y 2 d
          · exact z
          · exfalso
            apply h
            have f := e
            unfold january at f
            have w := mlen_le y 2
            simp only [mlen1, mlen2, mlen3, mlen4, mlen5, mlen6, mlen7, mlen8, mlen9, mlen10, mlen11, mlen12] at *
            refine ⟨by omega, by omega, by omega, by omega, by omega, by omega⟩
        rw [← dateOk_iff] at h
        have w := mlen_le y 2
        simp only [mlen1, mlen2, mlen3, mlen4, mlen5, mlen6, mlen7, mlen8, mlen9, mlen10, mlen11, mlen12] at *
        simp (disch := omega) only [kwi]
        refine Res.split (fun _ => Res.done (daysV_f h) rfl) (fun c1 => Res.ct (by omega) (Res.done (daysV_f h) rfl))
      · have e := sum3 (y := y) (d := d) rfl
        have l := yearLen_in y
        rw [t_rdays3]
        refine Res.split (fun _ => Res.done (daysV_f h) rfl) (fun c1 => Res.split (fun _ => Res.done (daysV_f h) rfl) (fun c2 => Res.split (fun _ => Res.done (daysV_f h) rfl) (fun c3 => Res.split (fun _ => Res.done (daysV_f h) rfl) (fun c4 => Res.andt (by omega) ?_))))
        have j := january_in (y := y) (by omega) (by omega)
        rw [dateOk_iff] at h
        have hd : dnum y 3 d < -100000001 ∨ 100000000 < dnum y 3 d := by
          have u : -280000 ≤ y ∧ y ≤ 280000 := by omega
          by_cases z : dnum y 3 d < -100000001 ∨ 100000000 < dnum y 3 d
          · exact z
          · exfalso
            apply h
            have f := e
            unfold january at f
            have w := mlen_le y 3
            simp only [mlen1, mlen2, mlen3, mlen4, mlen5, mlen6, mlen7, mlen8, mlen9, mlen10, mlen11, mlen12] at *
            refine ⟨by omega, by omega, by omega, by omega, by omega, by omega⟩
        rw [← dateOk_iff] at h
        have w := mlen_le y 3
        simp only [mlen1, mlen2, mlen3, mlen4, mlen5, mlen6, mlen7, mlen8, mlen9, mlen10, mlen11, mlen12] at *
        simp (disch := omega) only [kwi]
        refine Res.split (fun _ => Res.done (daysV_f h) rfl) (fun c1 => Res.ct (by omega) (Res.done (daysV_f h) rfl))
      · have e := sum4 (y := y) (d := d) rfl
        have l := yearLen_in y
        rw [t_rdays4]
        refine Res.split (fun _ => Res.done (daysV_f h) rfl) (fun c1 => Res.split (fun _ => Res.done (daysV_f h) rfl) (fun c2 => Res.split (fun _ => Res.done (daysV_f h) rfl) (fun c3 => Res.split (fun _ => Res.done (daysV_f h) rfl) (fun c4 => Res.andt (by omega) ?_))))
        have j := january_in (y := y) (by omega) (by omega)
        rw [dateOk_iff] at h
        have hd : dnum y 4 d < -100000001 ∨ 100000000 < dnum y 4 d := by
          have u : -280000 ≤ y ∧ y ≤ 280000 := by omega
          by_cases z : dnum y 4 d < -100000001 ∨ 100000000 < dnum y 4 d
          · exact z
          · exfalso
            apply h
            have f := e
            unfold january at f
            have w := mlen_le y 4
            simp only [mlen1, mlen2, mlen3, mlen4, mlen5, mlen6, mlen7, mlen8, mlen9, mlen10, mlen11, mlen12] at *
            refine ⟨by omega, by omega, by omega, by omega, by omega, by omega⟩
        rw [← dateOk_iff] at h
        have w := mlen_le y 4
        simp only [mlen1, mlen2, mlen3, mlen4, mlen5, mlen6, mlen7, mlen8, mlen9, mlen10, mlen11, mlen12] at *
        simp (disch := omega) only [kwi]
        refine Res.split (fun _ => Res.done (daysV_f h) rfl) (fun c1 => Res.ct (by omega) (Res.done (daysV_f h) rfl))
      · have e := sum5 (y := y) (d := d) rfl
        have l := yearLen_in y
        rw [t_rdays5]
        refine Res.split (fun _ => Res.done (daysV_f h) rfl) (fun c1 => Res.split (fun _ => Res.done (daysV_f h) rfl) (fun c2 => Res.split (fun _ => Res.done (daysV_f h) rfl) (fun c3 => Res.split (fun _ => Res.done (daysV_f h) rfl) (fun c4 => Res.andt (by omega) ?_))))
        have j := january_in (y := y) (by omega) (by omega)
        rw [dateOk_iff] at h
        have hd : dnum y 5 d < -100000001 ∨ 100000000 < dnum y 5 d := by
          have u : -280000 ≤ y ∧ y ≤ 280000 := by omega
          by_cases z : dnum y 5 d < -100000001 ∨ 100000000 < dnum y 5 d
          · exact z
          · exfalso
            apply h
            have f := e
            unfold january at f
            have w := mlen_le y 5
            simp only [mlen1, mlen2, mlen3, mlen4, mlen5, mlen6, mlen7, mlen8, mlen9, mlen10, mlen11, mlen12] at *
            refine ⟨by omega, by omega, by omega, by omega, by omega, by omega⟩
        rw [← dateOk_iff] at h
        have w := mlen_le y 5
        simp only [mlen1, mlen2, mlen3, mlen4, mlen5, mlen6, mlen7, mlen8, mlen9, mlen10, mlen11, mlen12] at *
        simp (disch := omega) only [kwi]
        refine Res.split (fun _ => Res.done (daysV_f h) rfl) (fun c1 => Res.ct (by omega) (Res.done (daysV_f h) rfl))
      · have e := sum6 (y := y) (d := d) rfl
        have l := yearLen_in y
        rw [t_rdays6]
        refine Res.split (fun _ => Res.done (daysV_f h) rfl) (fun c1 => Res.split (fun _ => Res.done (daysV_f h) rfl) (fun c2 => Res.split (fun _ => Res.done (daysV_f h) rfl) (fun c3 => Res.split (fun _ => Res.done (daysV_f h) rfl) (fun c4 => Res.andt (by omega) ?_))))
        have j := january_in (y := y) (by omega) (by omega)
        rw [dateOk_iff] at h
        have hd : dnum y 6 d < -100000001 ∨ 100000000 < dnum y 6 d := by
          have u : -280000 ≤ y ∧ y ≤ 280000 := by omega
          by_cases z : dnum y 6 d < -100000001 ∨ 100000000 < dnum y 6 d
          · exact z
          · exfalso
            apply h
            have f := e
            unfold january at f
            have w := mlen_le y 6
            simp only [mlen1, mlen2, mlen3, mlen4, mlen5, mlen6, mlen7, mlen8, mlen9, mlen10, mlen11, mlen12] at *
            refine ⟨by omega, by omega, by omega, by omega, by omega, by omega⟩
        rw [← dateOk_iff] at h
        have w := mlen_le y 6
        simp only [mlen1, mlen2, mlen3, mlen4, mlen5, mlen6, mlen7, mlen8, mlen9, mlen10, mlen11, mlen12] at *
        simp (disch := omega) only [kwi]
        refine Res.split (fun _ => Res.done (daysV_f h) rfl) (fun c1 => Res.ct (by omega) (Res.done (daysV_f h) rfl))
      · have e := sum7 (y := y) (d := d) rfl
        have l := yearLen_in y
        rw [t_rdays7]
        refine Res.split (fun _ => Res.done (daysV_f h) rfl) (fun c1 => Res.split (fun _ => Res.done (daysV_f h) rfl) (fun c2 => Res.split (fun _ => Res.done (daysV_f h) rfl) (fun c3 => Res.split (fun _ => Res.done (daysV_f h) rfl) (fun c4 => Res.andt (by omega) ?_))))
        have j := january_in (y := y) (by omega) (by omega)
        rw [dateOk_iff] at h
        have hd : dnum y 7 d < -100000001 ∨ 100000000 < dnum y 7 d := by
          have u : -280000 ≤ y ∧ y ≤ 280000 := by omega
          by_cases z : dnum y 7 d < -100000001 ∨ 100000000 < dnum y 7 d
          · exact z
          · exfalso
            apply h
            have f := e
            unfold january at f
            have w := mlen_le y 7
            simp only [mlen1, mlen2, mlen3, mlen4, mlen5, mlen6, mlen7, mlen8, mlen9, mlen10, mlen11, mlen12] at *
            refine ⟨by omega, by omega, by omega, by omega, by omega, by omega⟩
        rw [← dateOk_iff] at h
        have w := mlen_le y 7
        simp only [mlen1, mlen2, mlen3, mlen4, mlen5, mlen6, mlen7, mlen8, mlen9, mlen10, mlen11, mlen12] at *
        simp (disch := omega) only [kwi]
        refine Res.split (fun _ => Res.done (daysV_f h) rfl) (fun c1 => Res.ct (by omega) (Res.done (daysV_f h) rfl))
      · have e := sum8 (y := y) (d := d) rfl
        have l := yearLen_in y
        rw [t_rdays8]
        refine Res.split (fun _ => Res.done (daysV_f h) rfl) (fun c1 => Res.split (fun _ => Res.done (daysV_f h) rfl) (fun c2 => Res.split (fun _ => Res.done (daysV_f h) rfl) (fun c3 => Res.split (fun _ => Res.done (daysV_f h) rfl) (fun c4 => Res.andt (by omega) ?_))))
        have j := january_in (y := y) (by omega) (by omega)
        rw [dateOk_iff] at h
        have hd : dnum y 8 d < -100000001 ∨ 100000000 < dnum y 8 d := by
          have u : -280000 ≤ y ∧ y ≤ 280000 := by omega
          by_cases z : dnum y 8 d < -100000001 ∨ 100000000 < dnum y 8 d
          · exact z
          · exfalso
            apply h
            have f := e
            unfold january at f
            have w := mlen_le y 8
            simp only [mlen1, mlen2, mlen3, mlen4, mlen5, mlen6, mlen7, mlen8, mlen9, mlen10, mlen11, mlen12] at *
            refine ⟨by omega, by omega, by omega, by omega, by omega, by omega⟩
        rw [← dateOk_iff] at h
        have w := mlen_le y 8
        simp only [mlen1, mlen2, mlen3, mlen4, mlen5, mlen6, mlen7, mlen8, mlen9, mlen10, mlen11, mlen12] at *
        simp (disch := omega) only [kwi]
        refine Res.split (fun _ => Res.done (daysV_f h) rfl) (fun c1 => Res.ct (by omega) (Res.done (daysV_f h) rfl))
      · have e := sum9 (y := y) (d := d) rfl
        have l := yearLen_in y
        rw [t_rdays9]
        refine Res.split (fun _ => Res.done (daysV_f h) rfl) (fun c1 => Res.split (fun _ => Res.done (daysV_f h) rfl) (fun c2 => Res.split (fun _ => Res.done (daysV_f h) rfl) (fun c3 => Res.split (fun _ => Res.done (daysV_f h) rfl) (fun c4 => Res.andt (by omega) ?_))))
        have j := january_in (y := y) (by omega) (by omega)
        rw [dateOk_iff] at h
        have hd : dnum y 9 d < -100000001 ∨ 100000000 < dnum y 9 d := by
          have u : -280000 ≤ y ∧ y ≤ 280000 := by omega
          by_cases z : dnum y 9 d < -100000001 ∨ 100000000 < dnum y 9 d
          · exact z
          · exfalso
            apply h
            have f := e
            unfold january at f
            have w := mlen_le y 9
            simp only [mlen1, mlen2, mlen3, mlen4, mlen5, mlen6, mlen7, mlen8, mlen9, mlen10, mlen11, mlen12] at *
            refine ⟨by omega, by omega, by omega, by omega, by omega, by omega⟩
        rw [← dateOk_iff] at h
        have w := mlen_le y 9
        simp only [mlen1, mlen2, mlen3, mlen4, mlen5, mlen6, mlen7, mlen8, mlen9, mlen10, mlen11, mlen12] at *
        simp (disch := omega) only [kwi]
        refine Res.split (fun _ => Res.done (daysV_f h) rfl) (fun c1 => Res.ct (by omega) (Res.done (daysV_f h) rfl))
      · have e := sum10 (y := y) (d := d) rfl
        have l := yearLen_in y
        rw [t_rdays10]
        refine Res.split (fun _ => Res.done (daysV_f h) rfl) (fun c1 => Res.split (fun _ => Res.done (daysV_f h) rfl) (fun c2 => Res.split (fun _ => Res.done (daysV_f h) rfl) (fun c3 => Res.split (fun _ => Res.done (daysV_f h) rfl) (fun c4 => Res.andt (by omega) ?_))))
        have j := january_in (y := y) (by omega) (by omega)
        rw [dateOk_iff] at h
        have hd : dnum y 10 d < -100000001 ∨ 100000000 < dnum y 10 d := by
          have u : -280000 ≤ y ∧ y ≤ 280000 := by omega
          by_cases z : dnum y 10 d < -100000001 ∨ 100000000 < dnum y 10 d
          · exact z
          · exfalso
            apply h
            have f := e
            unfold january at f
            have w := mlen_le y 10
            simp only [mlen1, mlen2, mlen3, mlen4, mlen5, mlen6, mlen7, mlen8, mlen9, mlen10, mlen11, mlen12] at *
            refine ⟨by omega, by omega, by omega, by omega, by omega, by omega⟩
        rw [← dateOk_iff] at h
        have w := mlen_le y 10
        simp only [mlen1, mlen2, mlen3, mlen4, mlen5, mlen6, mlen7, mlen8, mlen9, mlen10, mlen11, mlen12] at *
        simp (disch := omega) only [kwi]
        refine Res.split (fun _ => Res.done (daysV_f h) rfl) (fun c1 => Res.ct (by omega) (Res.done (daysV_f h) rfl))
      · have e := sum11 (y := y) (d := d) rfl
        have l := yearLen_in y
        rw [t_rdays11]
        refine Res.split (fun _ => Res.done (daysV_f h) rfl) (fun c1 => Res.split (fun _ => Res.done (daysV_f h) rfl) (fun c2 => Res.split (fun _ => Res.done (daysV_f h) rfl) (fun c3 => Res.split (fun _ => Res.done (daysV_f h) rfl) (fun c4 => Res.andt (by omega) ?_))))
        have j := january_in (y := y) (by omega) (by omega)
        rw [dateOk_iff] at h
        have hd : dnum y 11 d < -100000001 ∨ 100000000 < dnum y 11 d := by
          have u : -280000 ≤ y ∧ y ≤ 280000 := by omega
          by_cases z : dnum y 11 d < -100000001 ∨ 100000000 < dnum y 11 d
          · exact z
          · exfalso
            apply h
            have f := e
            unfold january at f
            have w := mlen_le y 11
            simp only [mlen1, mlen2, mlen3, mlen4, mlen5, mlen6, mlen7, mlen8, mlen9, mlen10, mlen11, mlen12] at *
            refine ⟨by omega, by omega, by omega, by omega, by omega, by omega⟩
        rw [← dateOk_iff] at h
        have w := mlen_le y 11
        simp only [mlen1, mlen2, mlen3, mlen4, mlen5, mlen6, mlen7, mlen8, mlen9, mlen10, mlen11, mlen12] at *
        simp (disch := omega) only [kwi]
        refine Res.split (fun _ => Res.done (daysV_f h) rfl) (fun c1 => Res.ct (by omega) (Res.done (daysV_f h) rfl))
      · have e := sum12 (y := y) (d := d) rfl
        have l := yearLen_in y
        rw [t_rdays12]
        refine Res.split (fun _ => Res.done (daysV_f h) rfl) (fun c1 => Res.split (fun _ => Res.done (daysV_f h) rfl) (fun c2 => Res.split (fun _ => Res.done (daysV_f h) rfl) (fun c3 => Res.split (fun _ => Res.done (daysV_f h) rfl) (fun c4 => Res.andt (by omega) ?_))))
        have j := january_in (y := y) (by omega) (by omega)
        rw [dateOk_iff] at h
        have hd : dnum y 12 d < -100000001 ∨ 100000000 < dnum y 12 d := by
          have u : -280000 ≤ y ∧ y ≤ 280000 := by omega
          by_cases z : dnum y 12 d < -100000001 ∨ 100000000 < dnum y 12 d
          · exact z
          · exfalso
            apply h
            have f := e
            unfold january at f
            have w := mlen_le y 12
            simp only [mlen1, mlen2, mlen3, mlen4, mlen5, mlen6, mlen7, mlen8, mlen9, mlen10, mlen11, mlen12] at *
            refine ⟨by omega, by omega, by omega, by omega, by omega, by omega⟩
        rw [← dateOk_iff] at h
        have w := mlen_le y 12
        simp only [mlen1, mlen2, mlen3, mlen4, mlen5, mlen6, mlen7, mlen8, mlen9, mlen10, mlen11, mlen12] at *
        simp (disch := omega) only [kwi]
        refine Res.split (fun _ => Res.done (daysV_f h) rfl) (fun c1 => Res.ct (by omega) (Res.done (daysV_f h) rfl))
  · have h : ¬ dateOk y m d = true := fun h => hm (by have := dateOk_rng h; omega)
    have e : einv PP tab (orcA oJan oRMonth) 60 (.func 21) [.agg ⟨[.int .i64 y, .int .i64 m, .int .i64 d]⟩] hp0 (fun v H => some (v, H)) = einvC PP tab (orcA oJan oRMonth) 59 21 [.agg ⟨[.int .i64 y, .int .i64 m, .int .i64 d]⟩] hp0 (fun v H => some (v, H)) :=
      einv_C PP tab _ 59 _ _ _ _ (orcA_ne (orcB_ne (by rfl) _ _ _) (orcB_ne (by rfl) _ _ _)) (by kernel_rfl)
    rw [e, einvC, ecode_cut PP tab (einv PP tab (orcA oJan oRMonth) 59) 59 ⟨21, none⟩ 3 _ (by kernel_rfl)]
    rw [show (max (ntOf PP 21) [Value.agg ⟨[.int .i64 y, .int .i64 m, .int .i64 d]⟩].length) = (max (ntOf PP 21) 1) from rfl, t_rdaysC]
    by_cases c : m < 1
    · exact Res.split (fun _ => Res.done (daysV_f h) rfl) (fun _ => Res.split (fun _ => Res.done (daysV_f h) rfl) (fun _ => Res.ct c (Res.done (daysV_f h) rfl)))
    · exact Res.split (fun _ => Res.done (daysV_f h) rfl) (fun _ => Res.split (fun _ => Res.done (daysV_f h) rfl) (fun _ => Res.cf c (Res.ct (by omega) (Res.done (daysV_f h) rfl))))
noncomputable section
def mCount : List Value → Option (Bool × Value)
  | [.agg ⟨[.int .i64 y, .int .i64 m, .int .i64 d]⟩] => some (decide (-300000 ≤ y) && decide (y ≤ 300000) && decide (1 ≤ m) && decide (m ≤ 12) && decide (1 ≤ d) && decide (d ≤ 31), .int .i64 (dnum y m d))
  | _ => none
def oCount : Orc := orcB baseB 59 mCount
def mRDays : List Value → Option (Bool × Value)
  | [.agg ⟨[.int .i64 y, .int .i64 m, .int .i64 d]⟩] => some (decide (True), daysV y m d)
  | _ => none
def oRDays : Orc := orcB baseB 21 mRDays
theorem okCount : OrcOk PP tab oCount := by
  refine okOrc noO_ok fun args v h => ?_
  unfold mCount at h
  split at h
  · simp only [Option.some.injEq, Prod.mk.injEq, Bool.and_eq_true, decide_eq_true_eq] at h
    obtain ⟨⟨⟨⟨⟨⟨h1, h2⟩, h3⟩, h4⟩, h5⟩, h6⟩, rfl⟩ := h
    exact ⟨rfl, rfl, rCount _ _ _ h1 h2 h3 h4 h5 h6⟩
  · cases h
theorem okRDays : OrcOk PP tab oRDays := by
  refine okOrc (orcA_ok okJan okRMonth) fun args v h => ?_
  unfold mRDays at h
  split at h
  · simp only [Option.some.injEq, Prod.mk.injEq, Bool.and_eq_true, decide_eq_true_eq] at h
    obtain ⟨h1, rfl⟩ := h
    exact ⟨rfl, rfl, rRDays _ _ _⟩
  · cases h
end
end Go.Ev
end
section
set_option linter.unusedSimpArgs false
set_option linter.unusedVariables false
set_option maxRecDepth 100000
set_option linter.unusedVariables false
namespace Go.Ev
open Go
theorem t_days {α : Type} (K : Value → Hp → Option α) (x0 : Int) (x1 : Int) (x2 : Int) : einv PP tab (orcA oMLen oCount) 60 (.func 29) [.agg ⟨[.int .i64 x0, .int .i64 x1, .int .i64 x2]⟩] hp0 K =
  cond (decide ((x0 : Int) < (-271821)))
  (K (.tuple ⟨[(.int .i64 0), (.bool false)]⟩) hp0)
  (cond (decide ((x0 : Int) > 275760))
    (K (.tuple ⟨[(.int .i64 0), (.bool false)]⟩) hp0)
    (cond (decide ((x2 : Int) < 1))
      (K (.tuple ⟨[(.int .i64 0), (.bool false)]⟩) hp0)
      (cond (decide ((x2 : Int) > (mlen x0 x1)))
        (K (.tuple ⟨[(.int .i64 0), (.bool false)]⟩) hp0)
        (cond ((((((decide (((-300000) : Int) ≤ x0)) && (decide ((x0 : Int) ≤ 300000))) && (decide ((1 : Int) ≤ x1))) && (decide ((x1 : Int) ≤ 12))) && (decide ((1 : Int) ≤ x2))) && (decide ((x2 : Int) ≤ 31)))
          (cond (decide (((dnum x0 x1 x2) : Int) < (-100000001)))
            (K (.tuple ⟨[(.int .i64 0), (.bool false)]⟩) hp0)
            (cond (decide (((dnum x0 x1 x2) : Int) > 100000000))
              (K (.tuple ⟨[(.int .i64 0), (.bool false)]⟩) hp0)
              (K (.tuple ⟨[(.int .i64 (dnum x0 x1 x2)), (.bool true)]⟩) hp0)))
          (none))))) := by kernel_rfl

theorem t_ref06n {α : Type} (K : Value → Hp → Option α) (x0 : Int) (x1 : Int) (x2 : Int) (x3 : Int) : einv PP tab noO 60 (.func 63) [.agg ⟨[.int .i64 x0, .int .i64 x1, .int .i64 x2, .int .i64 x3]⟩] hp0 K =
  cond (decide ((x0 : Int) < 0))
  (K (.tuple ⟨[(.int .i64 0), (.bool false)]⟩) hp0)
  (cond (decide ((x0 : Int) > 23))
    (K (.tuple ⟨[(.int .i64 0), (.bool false)]⟩) hp0)
    (cond (decide ((x1 : Int) < 0))
      (K (.tuple ⟨[(.int .i64 0), (.bool false)]⟩) hp0)
      (cond (decide ((x1 : Int) > 59))
        (K (.tuple ⟨[(.int .i64 0), (.bool false)]⟩) hp0)
        (cond (decide ((x2 : Int) < 0))
          (K (.tuple ⟨[(.int .i64 0), (.bool false)]⟩) hp0)
          (cond (decide ((x2 : Int) > 59))
            (K (.tuple ⟨[(.int .i64 0), (.bool false)]⟩) hp0)
            (cond (decide ((x3 : Int) < 0))
              (K (.tuple ⟨[(.int .i64 0), (.bool false)]⟩) hp0)
              (cond (decide ((x3 : Int) > 999999999))
                (K (.tuple ⟨[(.int .i64 0), (.bool false)]⟩) hp0)
                (K (.tuple ⟨[(.int .i64 (kw .i64 ((kw .i64 ((kw .i64 ((kw .i64 ((kw .i64 ((kw .i64 (x0 * 60)) + x1)) * 60)) + x2)) * 1000000000)) + x3))), (.bool true)]⟩) hp0)))))))) := by kernel_rfl

end Go.Ev
end
section
set_option linter.unusedSimpArgs false
set_option linter.unusedVariables false
set_option maxHeartbeats 1000000
namespace Go.Ev
open Go
set_option linter.unusedSimpArgs false
theorem rDays (y m d : Int) : Run1 (orcA oMLen oCount) 29 [.agg ⟨[.int .i64 y, .int .i64 m, .int .i64 d]⟩] (daysV y m d) := by
  refine ⟨60, ?_⟩
  rw [t_days]
  have w := mlen_le y m
  by_cases h : dateOk y m d = true
  · have r := dateOk_rng h
    have q := (dateOk_iff y m d).1 h
    exact Res.cf (by omega) (Res.cf (by omega) (Res.cf (by omega) (Res.cf (by omega) (Res.ctb (by simp; omega) (Res.cf (by omega) (Res.cf (by omega) (Res.done (daysV_t h rfl) rfl)))))))
  · refine Res.split (fun _ => Res.done (daysV_f h) rfl) (fun _ => Res.split (fun _ => Res.done (daysV_f h) rfl) (fun _ => Res.split (fun _ => Res.done (daysV_f h) rfl) (fun _ => Res.split (fun _ => Res.done (daysV_f h) rfl) (fun _ => ?_))))
    have mi := mlen_in (y := y) (m := m) (by omega)
    refine Res.ctb (by simp; omega) (Res.split (fun _ => Res.done (daysV_f h) rfl) (fun _ => Res.split (fun _ => Res.done (daysV_f h) rfl) (fun _ => ?_)))
    exact absurd ((dateOk_iff y m d).2 (by omega)) h
/-- May a time be? -/
def timeOk (h m s n : Int) : Bool := decide (0 ≤ h ∧ h < 24 ∧ 0 ≤ m ∧ m < 60 ∧ 0 ≤ s ∧ s < 60 ∧ 0 ≤ n ∧ n < 1000000000)
theorem timeOk_iff (h m s n : Int) : timeOk h m s n = true ↔ (0 ≤ h ∧ h < 24 ∧ 0 ≤ m ∧ m < 60 ∧ 0 ≤ s ∧ s < 60 ∧ 0 ≤ n ∧ n < 1000000000) := by unfold timeOk; rw [decide_eq_true_eq]
def timeNo (h m s n : Int) : Int := if timeOk h m s n = true then ((h * 60 + m) * 60 + s) * 1000000000 + n else 0
theorem timeNo_t {h m s n : Int} (e : timeOk h m s n = true) : timeNo h m s n = ((h * 60 + m) * 60 + s) * 1000000000 + n := if_pos e
theorem timeNo_f {h m s n : Int} (e : ¬ timeOk h m s n = true) : timeNo h m s n = 0 := if_neg e
def nanosV (h m s n : Int) : Value := .tuple ⟨[.int .i64 (timeNo h m s n), .bool (timeOk h m s n)]⟩
theorem bfalse {b : Bool} (h : ¬ b = true) : Value.bool false = .bool b := by rw [Bool.eq_false_iff.2 h]
theorem btrue {b : Bool} (h : b = true) : Value.bool true = .bool b := by rw [h]
theorem nanosV_f {h m s n : Int} (e : ¬ timeOk h m s n = true) : Value.tuple ⟨[.int .i64 0, .bool false]⟩ = nanosV h m s n := by
  unfold nanosV
  rw [timeNo_f e, Bool.eq_false_iff.2 e]
theorem nanosV_t {h m s n x : Int} (e : timeOk h m s n = true) (k : x = ((h * 60 + m) * 60 + s) * 1000000000 + n) : Value.tuple ⟨[.int .i64 x, .bool true]⟩ = nanosV h m s n := by
  unfold nanosV
  rw [timeNo_t e, e, k]
theorem rClockR (h m s n : Int) : Run1 noO 17 [.agg ⟨[.int .i64 h, .int .i64 m, .int .i64 s, .int .i64 n]⟩] (.bool (timeOk h m s n)) := by
  refine ⟨60, ?_⟩
  rw [t_clockR]
  by_cases e : timeOk h m s n = true
  · have q := (timeOk_iff h m s n).1 e
    exact Res.cf (by omega) (Res.cf (by omega) (Res.cf (by omega) (Res.cf (by omega) (Res.cf (by omega) (Res.cf (by omega) (Res.cf (by omega) (Res.cf (by omega) (Res.done (btrue e) rfl))))))))
  · have q := mt (timeOk_iff h m s n).2 e
    iterate 8 refine Res.split (fun _ => Res.done (bfalse e) rfl) (fun _ => ?_)
    exfalso; omega
theorem rRClockR (h m s n : Int) : Run1 noO 8 [.agg ⟨[.int .i64 h, .int .i64 m, .int .i64 s, .int .i64 n]⟩] (.bool (timeOk h m s n)) := by
  refine ⟨60, ?_⟩
  rw [t_rclockR]
  by_cases e : timeOk h m s n = true
  · have q := (timeOk_iff h m s n).1 e
    refine Res.ct (by omega) (Res.ct (by omega) (Res.ct (by omega) (Res.ct (by omega) (Res.ct (by omega) (Res.ct (by omega) (Res.ct (by omega) (Res.done ?_ rfl)))))))
    rw [decide_eq_true (by omega)]
    exact btrue e
  · have q := mt (timeOk_iff h m s n).2 e
    iterate 7 refine Res.split (fun _ => ?_) (fun _ => Res.done (bfalse e) rfl)
    rw [decide_eq_false (by omega)]
    exact Res.done (bfalse e) rfl
theorem rNanos (h m s n : Int) : Run1 noO 63 [.agg ⟨[.int .i64 h, .int .i64 m, .int .i64 s, .int .i64 n]⟩] (nanosV h m s n) := by
  refine ⟨60, ?_⟩
  rw [t_ref06n]
  by_cases e : timeOk h m s n = true
  · have q := (timeOk_iff h m s n).1 e
    refine Res.cf (by omega) (Res.cf (by omega) (Res.cf (by omega) (Res.cf (by omega) (Res.cf (by omega) (Res.cf (by omega) (Res.cf (by omega) (Res.cf (by omega) (Res.done (nanosV_t e ?_) rfl))))))))
    simp (disch := omega) only [kwi]
  · have q := mt (timeOk_iff h m s n).2 e
    iterate 8 refine Res.split (fun _ => Res.done (nanosV_f e) rfl) (fun _ => ?_)
    exfalso; omega
noncomputable section
def mDays : List Value → Option (Bool × Value)
  | [.agg ⟨[.int .i64 y, .int .i64 m, .int .i64 d]⟩] => some (decide (True), daysV y m d)
  | _ => none
def oDays : Orc := orcB baseB 29 mDays
def mClockR : List Value → Option (Bool × Value)
  | [.agg ⟨[.int .i64 h, .int .i64 m, .int .i64 s, .int .i64 n]⟩] => some (decide (True), .bool (timeOk h m s n))
  | _ => none
def oClockR : Orc := orcB baseB 17 mClockR
def mRClockR : List Value → Option (Bool × Value)
  | [.agg ⟨[.int .i64 h, .int .i64 m, .int .i64 s, .int .i64 n]⟩] => some (decide (True), .bool (timeOk h m s n))
  | _ => none
def oRClockR : Orc := orcB baseB 8 mRClockR
def mNanos : List Value → Option (Bool × Value)
  | [.agg ⟨[.int .i64 h, .int .i64 m, .int .i64 s, .int .i64 n]⟩] => some (decide (True), nanosV h m s n)
  | _ => none
def oNanos : Orc := orcB baseB 63 mNanos
theorem okDays : OrcOk PP tab oDays := by
  refine okOrc (orcA_ok okMLen okCount) fun args v h => ?_
  unfold mDays at h
  split at h
  · simp only [Option.some.injEq, Prod.mk.injEq, Bool.and_eq_true, decide_eq_true_eq] at h
    obtain ⟨h1, rfl⟩ := h
    exact ⟨rfl, rfl, rDays _ _ _⟩
  · cases h
theorem okClockR : OrcOk PP tab oClockR := by
  refine okOrc noO_ok fun args v h => ?_
  unfold mClockR at h
  split at h
  · simp only [Option.some.injEq, Prod.mk.injEq, Bool.and_eq_true, decide_eq_true_eq] at h
    obtain ⟨h1, rfl⟩ := h
    exact ⟨rfl, rfl, rClockR _ _ _ _⟩
  · cases h
theorem okRClockR : OrcOk PP tab oRClockR := by
  refine okOrc noO_ok fun args v h => ?_
  unfold mRClockR at h
  split at h
  · simp only [Option.some.injEq, Prod.mk.injEq, Bool.and_eq_true, decide_eq_true_eq] at h
    obtain ⟨h1, rfl⟩ := h
    exact ⟨rfl, rfl, rRClockR _ _ _ _⟩
  · cases h
theorem okNanos : OrcOk PP tab oNanos := by
  refine okOrc noO_ok fun args v h => ?_
  unfold mNanos at h
  split at h
  · simp only [Option.some.injEq, Prod.mk.injEq, Bool.and_eq_true, decide_eq_true_eq] at h
    obtain ⟨h1, rfl⟩ := h
    exact ⟨rfl, rfl, rNanos _ _ _ _⟩
  · cases h
end
end Go.Ev
end
