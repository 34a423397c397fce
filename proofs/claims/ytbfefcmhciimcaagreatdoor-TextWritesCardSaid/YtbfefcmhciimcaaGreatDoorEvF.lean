/- The facts on this program, by the kernel. -/
import Derived.Test.YtbfefcmhciimcaaGreatDoorEvE
section
set_option linter.unusedSimpArgs false
set_option linter.unusedVariables false
namespace Go.Ev
set_option maxRecDepth 100000
open Go.Proofs
theorem ke130 : extB Tryz.prog 130 .add64 := ⟨Tryz.prog.funcs.getD 130 default, add64Entry, by kernel_rfl, by kernel_rfl, by kernel_rfl, by kernel_rfl, rfl⟩
theorem ke161 : extB Tryz.prog 161 (.add .i64) := ⟨Tryz.prog.funcs.getD 161 default, (Extern.Atomic.update (Op.intArith .add) .i64 true), by kernel_rfl, by kernel_rfl, by kernel_rfl, by kernel_rfl, rfl⟩
theorem ke185 : extB Tryz.prog 185 .sub64 := ⟨Tryz.prog.funcs.getD 185 default, sub64E, by kernel_rfl, by kernel_rfl, by kernel_rfl, by kernel_rfl, rfl⟩
theorem ke226 : extB Tryz.prog 226 (.load .u32) := ⟨Tryz.prog.funcs.getD 226 default, (Extern.Atomic.loadT (.int .u32)), by kernel_rfl, by kernel_rfl, by kernel_rfl, by kernel_rfl, rfl⟩
theorem ke256 : extB Tryz.prog 256 .same := ⟨Tryz.prog.funcs.getD 256 default, Extern.AbiNoEscape.same, by kernel_rfl, by kernel_rfl, by kernel_rfl, by kernel_rfl, rfl⟩
theorem ke257 : extB Tryz.prog 257 (.mkNoZero 5) := ⟨Tryz.prog.funcs.getD 257 default, (Extern.BytealgMakeNoZero.makeNoZero #[3] #[81]), by kernel_rfl, by kernel_rfl, by kernel_rfl, by kernel_rfl, ⟨_, _, rfl, by kernel_rfl⟩⟩
theorem ke273 : extB Tryz.prog 273 .idxByte := ⟨Tryz.prog.funcs.getD 273 default, Extern.BytealgIndexByte.indexByte, by kernel_rfl, by kernel_rfl, by kernel_rfl, by kernel_rfl, rfl⟩
theorem ke280 : extB Tryz.prog 280 .store := ⟨Tryz.prog.funcs.getD 280 default, Extern.Atomic.storeT, by kernel_rfl, by kernel_rfl, by kernel_rfl, by kernel_rfl, rfl⟩
theorem ke288 : extB Tryz.prog 288 .count := ⟨Tryz.prog.funcs.getD 288 default, Extern.BytealgCount.count, by kernel_rfl, by kernel_rfl, by kernel_rfl, by kernel_rfl, rfl⟩
theorem ke308 : extB Tryz.prog 308 .nop := ⟨Tryz.prog.funcs.getD 308 default, (fun _ => do mark .disable; pure Extern.Race.none_), by kernel_rfl, by kernel_rfl, by kernel_rfl, by kernel_rfl, ⟨_, rfl⟩⟩
theorem ke309 : extB Tryz.prog 309 (.cas .i32) := ⟨Tryz.prog.funcs.getD 309 default, (Extern.Atomic.casT (.int .i32)), by kernel_rfl, by kernel_rfl, by kernel_rfl, by kernel_rfl, rfl⟩
theorem ke310 : extB Tryz.prog 310 .nop := ⟨Tryz.prog.funcs.getD 310 default, (fun _ => do mark .enable; pure Extern.Race.none_), by kernel_rfl, by kernel_rfl, by kernel_rfl, by kernel_rfl, ⟨_, rfl⟩⟩
theorem ke311 : extB Tryz.prog 311 .addr0 := ⟨Tryz.prog.funcs.getD 311 default, (Extern.Race.marked .acquire), by kernel_rfl, by kernel_rfl, by kernel_rfl, by kernel_rfl, ⟨_, rfl⟩⟩
theorem ke313 : extB Tryz.prog 313 .addr0 := ⟨Tryz.prog.funcs.getD 313 default, (Extern.Race.marked .releaseMerge), by kernel_rfl, by kernel_rfl, by kernel_rfl, by kernel_rfl, ⟨_, rfl⟩⟩
theorem ke314 : extB Tryz.prog 314 (.add .i32) := ⟨Tryz.prog.funcs.getD 314 default, (Extern.Atomic.update (Op.intArith .add) .i32 true), by kernel_rfl, by kernel_rfl, by kernel_rfl, by kernel_rfl, rfl⟩
theorem kf5 : extAll Tryz.prog tab.ext := ⟨ke130, ke161, ke185, ke226, ke256, ke257, ke273, ke280, ke288, ke308, ke309, ke310, ke311, ke313, ke314, trivial⟩
end Go.Ev
end
section
set_option linter.unusedSimpArgs false
set_option linter.unusedVariables false
namespace Go.Ev
set_option maxRecDepth 100000
open Go.Proofs
theorem kf1 : tab.eqs.all (eqsB Tryz.prog) = true := by kernel_rfl
theorem kf2 : Tryz.prog.follows .mixedOrders = true := by kernel_rfl
theorem kf3 : Tryz.prog.funcs.toList.all (fun fn => !(fn.name == "runtime.NumGoroutine")) = true := by kernel_rfl
theorem kf4 : codeB Tryz.prog tab 0 Tryz.prog.funcs.toList = true := by kernel_rfl
end Go.Ev
end
section
set_option linter.unusedSimpArgs false
set_option linter.unusedVariables false
set_option maxHeartbeats 1000000
namespace Go.Ev
noncomputable abbrev PP : Program := Go.Proofs.Tryz.prog
theorem ppF : Facts PP tab := Facts.of kf1
theorem ppF2 : Facts2 PP tab := Facts2.of kf2 kf3 kf4 (extAll_mem kf5)

/-- The table of the powers of ten lies in block 2. -/
noncomputable def baseB (H : Hp) : Bool :=
  match H.get 2 with
  | some (.cells c e fz sg) => veqL c pow10 && Nat.beq e 349 && Nat.beq fz 1000000 && !sg
  | _ => false
theorem hp0_get {b : Nat} {o : AObj} (h : hp0.get b = some o) : b = 2 ∧ o = .cells pow10 349 1000000 false := by
  have hb : b < 11 := Hp.get_lt h
  have : b = 0 ∨ b = 1 ∨ b = 2 ∨ b = 3 ∨ b = 4 ∨ b = 5 ∨ b = 6 ∨ b = 7 ∨ b = 8 ∨ b = 9 ∨ b = 10 := by omega
  rcases this with rfl | rfl | rfl | rfl | rfl | rfl | rfl | rfl | rfl | rfl | rfl
  case inr.inr.inl => exact ⟨rfl, (Option.some.inj h).symm⟩
  all_goals exact absurd h (fun e => by cases e)
theorem beneath : Beneath tab hp0 baseB where
  next := rfl
  ok := by
    intro H hH b o h
    obtain ⟨rfl, rfl⟩ := hp0_get h
    unfold baseB at hH
    split at hH
    · rename_i c e fz sg hg
      simp only [Bool.and_eq_true, Nat.beq_eq, Bool.not_eq_true'] at hH
      obtain ⟨⟨⟨h1, h2⟩, h3⟩, h4⟩ := hH
      rw [hg, veqL_eq h1, h2, h3, h4]
    · cases hH
  clo := by
    intro b o h
    obtain ⟨rfl, rfl⟩ := hp0_get h
    rfl
  ro := by
    intro b o h
    obtain ⟨rfl, rfl⟩ := hp0_get h
    rfl

abbrev Run1 (O : Orc) (f : FuncId) (args : List Value) (v : Value) : Prop := Runs PP tab hp0 baseB O f args v
theorem okOrc {O : Orc} (hO : OrcOk PP tab O) {f : FuncId} {m : List Value → Option (Bool × Value)}
    (h : ∀ args v, m args = some (true, v) → cloL args = true ∧ clo v = true ∧ Run1 O f args v) : OrcOk PP tab (orcB baseB f m) := orcB_ok beneath ppF ppF2 hO h
end Go.Ev
end
section
set_option linter.unusedSimpArgs false
set_option linter.unusedVariables false
set_option maxHeartbeats 1000000
namespace Go.Ev
noncomputable section

def bsLen : ByteArray := ⟨⟨[0, 1, 2, 2, 3, 3, 3, 3, 4, 4, 4, 4, 4, 4, 4, 4, 5, 5, 5, 5, 5, 5, 5, 5, 5, 5, 5, 5, 5, 5, 5, 5, 6, 6, 6, 6, 6, 6, 6, 6, 6, 6, 6, 6, 6, 6, 6, 6, 6, 6, 6, 6, 6, 6, 6, 6, 6, 6, 6, 6, 6, 6, 6, 6, 7, 7, 7, 7, 7, 7, 7, 7, 7, 7, 7, 7, 7, 7, 7, 7, 7, 7, 7, 7, 7, 7, 7, 7, 7, 7, 7, 7, 7, 7, 7, 7, 7, 7, 7, 7, 7, 7, 7, 7, 7, 7, 7, 7, 7, 7, 7, 7, 7, 7, 7, 7, 7, 7, 7, 7, 7, 7, 7, 7, 7, 7, 7, 7, 8, 8, 8, 8, 8, 8, 8, 8, 8, 8, 8, 8, 8, 8, 8, 8, 8, 8, 8, 8, 8, 8, 8, 8, 8, 8, 8, 8, 8, 8, 8, 8, 8, 8, 8, 8, 8, 8, 8, 8, 8, 8, 8, 8, 8, 8, 8, 8, 8, 8, 8, 8, 8, 8, 8, 8, 8, 8, 8, 8, 8, 8, 8, 8, 8, 8, 8, 8, 8, 8, 8, 8, 8, 8, 8, 8, 8, 8, 8, 8, 8, 8, 8, 8, 8, 8, 8, 8, 8, 8, 8, 8, 8, 8, 8, 8, 8, 8, 8, 8, 8, 8, 8, 8, 8, 8, 8, 8, 8, 8, 8, 8, 8, 8, 8, 8, 8, 8, 8, 8, 8, 8, 8, 8, 8, 8, 8, 8]⟩⟩
def bsTwo : ByteArray := ⟨⟨[48, 48, 48, 49, 48, 50, 48, 51, 48, 52, 48, 53, 48, 54, 48, 55, 48, 56, 48, 57, 49, 48, 49, 49, 49, 50, 49, 51, 49, 52, 49, 53, 49, 54, 49, 55, 49, 56, 49, 57, 50, 48, 50, 49, 50, 50, 50, 51, 50, 52, 50, 53, 50, 54, 50, 55, 50, 56, 50, 57, 51, 48, 51, 49, 51, 50, 51, 51, 51, 52, 51, 53, 51, 54, 51, 55, 51, 56, 51, 57, 52, 48, 52, 49, 52, 50, 52, 51, 52, 52, 52, 53, 52, 54, 52, 55, 52, 56, 52, 57, 53, 48, 53, 49, 53, 50, 53, 51, 53, 52, 53, 53, 53, 54, 53, 55, 53, 56, 53, 57, 54, 48, 54, 49, 54, 50, 54, 51, 54, 52, 54, 53, 54, 54, 54, 55, 54, 56, 54, 57, 55, 48, 55, 49, 55, 50, 55, 51, 55, 52, 55, 53, 55, 54, 55, 55, 55, 56, 55, 57, 56, 48, 56, 49, 56, 50, 56, 51, 56, 52, 56, 53, 56, 54, 56, 55, 56, 56, 56, 57, 57, 48, 57, 49, 57, 50, 57, 51, 57, 52, 57, 53, 57, 54, 57, 55, 57, 56, 57, 57]⟩⟩
def bsDig : ByteArray := ⟨⟨[48, 49, 50, 51, 52, 53, 54, 55, 56, 57, 97, 98, 99, 100, 101, 102, 103, 104, 105, 106, 107, 108, 109, 110, 111, 112, 113, 114, 115, 116, 117, 118, 119, 120, 121, 122]⟩⟩

def bsZero : ByteArray := ⟨⟨[48, 48, 48, 48, 48, 48, 48, 48, 48, 48, 48, 48, 48, 48, 48, 48, 48, 48, 48, 48, 48, 48, 48, 48, 48, 48, 48, 48, 48, 48, 48, 48, 48, 48, 48, 48, 48, 48, 48, 48, 48, 48, 48, 48, 48, 48, 48, 48, 48, 48, 48, 48, 48, 48, 48, 48, 48, 48, 48, 48, 48, 48, 48, 48]⟩⟩

def lenB (i : Nat) : Nat := if i < 1 then 0 else if i < 2 then 1 else if i < 4 then 2 else if i < 8 then 3 else if i < 16 then 4 else if i < 32 then 5 else if i < 64 then 6 else if i < 128 then 7 else 8
theorem lget_len : ∀ i, i < 256 → lget (ByteArray.data bsLen).toList i = some (UInt8.ofNat (lenB i)) := by decide +kernel
theorem lget_two : ∀ i, i < 200 → lget (ByteArray.data bsTwo).toList i = some (UInt8.ofNat (48 + if i % 2 = 0 then i / 20 else i / 2 % 10)) := by decide +kernel
theorem bsub_dig : ∀ i, i < 10 → bSub bsDig i (i + 1) = ⟨⟨[UInt8.ofNat (48 + i)]⟩⟩ := by decide +kernel
theorem bsub_two : ∀ i, i < 100 → bSub bsTwo (2 * i) (2 * i + 2) = ⟨⟨[UInt8.ofNat (48 + i / 10), UInt8.ofNat (48 + i % 10)]⟩⟩ := by decide +kernel

theorem size_len : bsLen.size = 256 := by decide +kernel
theorem size_two : bsTwo.size = 200 := by decide +kernel
theorem size_dig : bsDig.size = 36 := by decide +kernel

/-! #### What is known of calls -/
def mLen (L : Nat) : List Value → Option (Bool × Value)
  | [.int .u64 u] => some (decide ((2 : Int) ^ L ≤ 2 * u) && decide (u < (2 : Int) ^ L), .int .i64 (L : Nat))
  | _ => none
def oLen (L : Nat) : Orc := orcB baseB 249 (mLen L)
def mND (k : Nat) : List Value → Option (Bool × Value)
  | [.int .u64 u] => some (decide ((10 : Int) ^ (k - 1) ≤ u) && decide (u < (10 : Int) ^ k), .int .i64 (k : Nat))
  | _ => none
def oND (k : Nat) : Orc := orcB baseB 188 (mND k)
end
end Go.Ev
end
