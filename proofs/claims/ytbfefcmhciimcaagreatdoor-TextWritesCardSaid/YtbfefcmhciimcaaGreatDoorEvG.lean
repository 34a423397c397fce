/- Runs, laid out: numbers of digits. -/
import Derived.KernelRfl
import Derived.Test.YtbfefcmhciimcaaGreatDoorEvF
section
set_option linter.unusedSimpArgs false
set_option linter.unusedVariables false
set_option maxRecDepth 100000
set_option linter.unusedVariables false
namespace Go.Ev
open Go
theorem t_len {α : Type} (K : Value → Hp → Option α) (x0 : Int) : einv PP tab noO 60 (.func 249) [.int .u64 x0] hp0 K =
  cond (decide ((x0 : Int) ≥ 4294967296))
  (cond (decide (((Int.fdiv x0 4294967296) : Int) ≥ 65536))
    (cond (decide (((Int.fdiv (Int.fdiv x0 4294967296) 65536) : Int) ≥ 256))
      (if (((0 : Int) ≤ (kw .u8 (Int.fdiv (Int.fdiv (Int.fdiv x0 4294967296) 65536) 256))) ∧ (((kw .u8 (Int.fdiv (Int.fdiv (Int.fdiv x0 4294967296) 65536) 256)) : Int) < (((ByteArray.size bsLen) : Nat) : Int))) then (Option.elim (lget (ByteArray.data bsLen).toList (Int.toNat (kw .u8 (Int.fdiv (Int.fdiv (Int.fdiv x0 4294967296) 65536) 256)))) (none)
          (fun u396 => K (.int .i64 (kw .i64 (56 + (kw .i64 (((UInt8.toNat u396) : Nat) : Int))))) hp0))
        else (none))
      (if (((0 : Int) ≤ (kw .u8 (Int.fdiv (Int.fdiv x0 4294967296) 65536))) ∧ (((kw .u8 (Int.fdiv (Int.fdiv x0 4294967296) 65536)) : Int) < (((ByteArray.size bsLen) : Nat) : Int))) then (Option.elim (lget (ByteArray.data bsLen).toList (Int.toNat (kw .u8 (Int.fdiv (Int.fdiv x0 4294967296) 65536)))) (none)
          (fun u396 => K (.int .i64 (kw .i64 (48 + (kw .i64 (((UInt8.toNat u396) : Nat) : Int))))) hp0))
        else (none)))
    (cond (decide (((Int.fdiv x0 4294967296) : Int) ≥ 256))
      (if (((0 : Int) ≤ (kw .u8 (Int.fdiv (Int.fdiv x0 4294967296) 256))) ∧ (((kw .u8 (Int.fdiv (Int.fdiv x0 4294967296) 256)) : Int) < (((ByteArray.size bsLen) : Nat) : Int))) then (Option.elim (lget (ByteArray.data bsLen).toList (Int.toNat (kw .u8 (Int.fdiv (Int.fdiv x0 4294967296) 256)))) (none)
          (fun u396 => K (.int .i64 (kw .i64 (40 + (kw .i64 (((UInt8.toNat u396) : Nat) : Int))))) hp0))
        else (none))
      (if (((0 : Int) ≤ (kw .u8 (Int.fdiv x0 4294967296))) ∧ (((kw .u8 (Int.fdiv x0 4294967296)) : Int) < (((ByteArray.size bsLen) : Nat) : Int))) then (Option.elim (lget (ByteArray.data bsLen).toList (Int.toNat (kw .u8 (Int.fdiv x0 4294967296)))) (none)
          (fun u396 => K (.int .i64 (kw .i64 (32 + (kw .i64 (((UInt8.toNat u396) : Nat) : Int))))) hp0))
        else (none))))
  (cond (decide ((x0 : Int) ≥ 65536))
    (cond (decide (((Int.fdiv x0 65536) : Int) ≥ 256))
      (if (((0 : Int) ≤ (kw .u8 (Int.fdiv (Int.fdiv x0 65536) 256))) ∧ (((kw .u8 (Int.fdiv (Int.fdiv x0 65536) 256)) : Int) < (((ByteArray.size bsLen) : Nat) : Int))) then (Option.elim (lget (ByteArray.data bsLen).toList (Int.toNat (kw .u8 (Int.fdiv (Int.fdiv x0 65536) 256)))) (none)
          (fun u396 => K (.int .i64 (kw .i64 (24 + (kw .i64 (((UInt8.toNat u396) : Nat) : Int))))) hp0))
        else (none))
      (if (((0 : Int) ≤ (kw .u8 (Int.fdiv x0 65536))) ∧ (((kw .u8 (Int.fdiv x0 65536)) : Int) < (((ByteArray.size bsLen) : Nat) : Int))) then (Option.elim (lget (ByteArray.data bsLen).toList (Int.toNat (kw .u8 (Int.fdiv x0 65536)))) (none)
          (fun u396 => K (.int .i64 (kw .i64 (16 + (kw .i64 (((UInt8.toNat u396) : Nat) : Int))))) hp0))
        else (none)))
    (cond (decide ((x0 : Int) ≥ 256))
      (if (((0 : Int) ≤ (kw .u8 (Int.fdiv x0 256))) ∧ (((kw .u8 (Int.fdiv x0 256)) : Int) < (((ByteArray.size bsLen) : Nat) : Int))) then (Option.elim (lget (ByteArray.data bsLen).toList (Int.toNat (kw .u8 (Int.fdiv x0 256)))) (none)
          (fun u396 => K (.int .i64 (kw .i64 (8 + (kw .i64 (((UInt8.toNat u396) : Nat) : Int))))) hp0))
        else (none))
      (if (((0 : Int) ≤ (kw .u8 x0)) ∧ (((kw .u8 x0) : Int) < (((ByteArray.size bsLen) : Nat) : Int))) then (Option.elim (lget (ByteArray.data bsLen).toList (Int.toNat (kw .u8 x0))) (none)
          (fun u396 => K (.int .i64 (kw .i64 (0 + (kw .i64 (((UInt8.toNat u396) : Nat) : Int))))) hp0))
        else (none)))) := by kernel_rfl

theorem t_nd1 {α : Type} (K : Value → Hp → Option α) (x0 : Int) : einv PP tab (oLen 1) 60 (.func 188) [.int .u64 x0] hp0 K =
  cond ((decide ((2 : Int) ≤ (2 * x0))) && (decide ((x0 : Int) < 2)))
  (cond (decide ((x0 : Int) ≥ 1))
    (K (.int .i64 1) hp0)
    (K (.int .i64 0) hp0))
  (none) := by kernel_rfl

theorem t_nd2 {α : Type} (K : Value → Hp → Option α) (x0 : Int) : einv PP tab (oLen 2) 60 (.func 188) [.int .u64 x0] hp0 K =
  cond ((decide ((4 : Int) ≤ (2 * x0))) && (decide ((x0 : Int) < 4)))
  (cond (decide ((x0 : Int) ≥ 1))
    (K (.int .i64 1) hp0)
    (K (.int .i64 0) hp0))
  (none) := by kernel_rfl

theorem t_nd3 {α : Type} (K : Value → Hp → Option α) (x0 : Int) : einv PP tab (oLen 3) 60 (.func 188) [.int .u64 x0] hp0 K =
  cond ((decide ((8 : Int) ≤ (2 * x0))) && (decide ((x0 : Int) < 8)))
  (cond (decide ((x0 : Int) ≥ 1))
    (K (.int .i64 1) hp0)
    (K (.int .i64 0) hp0))
  (none) := by kernel_rfl

theorem t_nd4 {α : Type} (K : Value → Hp → Option α) (x0 : Int) : einv PP tab (oLen 4) 60 (.func 188) [.int .u64 x0] hp0 K =
  cond ((decide ((16 : Int) ≤ (2 * x0))) && (decide ((x0 : Int) < 16)))
  (cond (decide ((x0 : Int) ≥ 10))
    (K (.int .i64 2) hp0)
    (K (.int .i64 1) hp0))
  (none) := by kernel_rfl

theorem t_nd5 {α : Type} (K : Value → Hp → Option α) (x0 : Int) : einv PP tab (oLen 5) 60 (.func 188) [.int .u64 x0] hp0 K =
  cond ((decide ((32 : Int) ≤ (2 * x0))) && (decide ((x0 : Int) < 32)))
  (cond (decide ((x0 : Int) ≥ 10))
    (K (.int .i64 2) hp0)
    (K (.int .i64 1) hp0))
  (none) := by kernel_rfl

theorem t_nd6 {α : Type} (K : Value → Hp → Option α) (x0 : Int) : einv PP tab (oLen 6) 60 (.func 188) [.int .u64 x0] hp0 K =
  cond ((decide ((64 : Int) ≤ (2 * x0))) && (decide ((x0 : Int) < 64)))
  (cond (decide ((x0 : Int) ≥ 10))
    (K (.int .i64 2) hp0)
    (K (.int .i64 1) hp0))
  (none) := by kernel_rfl

theorem t_nd7 {α : Type} (K : Value → Hp → Option α) (x0 : Int) : einv PP tab (oLen 7) 60 (.func 188) [.int .u64 x0] hp0 K =
  cond ((decide ((128 : Int) ≤ (2 * x0))) && (decide ((x0 : Int) < 128)))
  (cond (decide ((x0 : Int) ≥ 100))
    (K (.int .i64 3) hp0)
    (K (.int .i64 2) hp0))
  (none) := by kernel_rfl

theorem t_nd8 {α : Type} (K : Value → Hp → Option α) (x0 : Int) : einv PP tab (oLen 8) 60 (.func 188) [.int .u64 x0] hp0 K =
  cond ((decide ((256 : Int) ≤ (2 * x0))) && (decide ((x0 : Int) < 256)))
  (cond (decide ((x0 : Int) ≥ 100))
    (K (.int .i64 3) hp0)
    (K (.int .i64 2) hp0))
  (none) := by kernel_rfl

theorem t_nd9 {α : Type} (K : Value → Hp → Option α) (x0 : Int) : einv PP tab (oLen 9) 60 (.func 188) [.int .u64 x0] hp0 K =
  cond ((decide ((512 : Int) ≤ (2 * x0))) && (decide ((x0 : Int) < 512)))
  (cond (decide ((x0 : Int) ≥ 100))
    (K (.int .i64 3) hp0)
    (K (.int .i64 2) hp0))
  (none) := by kernel_rfl

theorem t_nd10 {α : Type} (K : Value → Hp → Option α) (x0 : Int) : einv PP tab (oLen 10) 60 (.func 188) [.int .u64 x0] hp0 K =
  cond ((decide ((1024 : Int) ≤ (2 * x0))) && (decide ((x0 : Int) < 1024)))
  (cond (decide ((x0 : Int) ≥ 1000))
    (K (.int .i64 4) hp0)
    (K (.int .i64 3) hp0))
  (none) := by kernel_rfl

theorem t_nd11 {α : Type} (K : Value → Hp → Option α) (x0 : Int) : einv PP tab (oLen 11) 60 (.func 188) [.int .u64 x0] hp0 K =
  cond ((decide ((2048 : Int) ≤ (2 * x0))) && (decide ((x0 : Int) < 2048)))
  (cond (decide ((x0 : Int) ≥ 1000))
    (K (.int .i64 4) hp0)
    (K (.int .i64 3) hp0))
  (none) := by kernel_rfl

theorem t_nd12 {α : Type} (K : Value → Hp → Option α) (x0 : Int) : einv PP tab (oLen 12) 60 (.func 188) [.int .u64 x0] hp0 K =
  cond ((decide ((4096 : Int) ≤ (2 * x0))) && (decide ((x0 : Int) < 4096)))
  (cond (decide ((x0 : Int) ≥ 1000))
    (K (.int .i64 4) hp0)
    (K (.int .i64 3) hp0))
  (none) := by kernel_rfl

theorem t_nd13 {α : Type} (K : Value → Hp → Option α) (x0 : Int) : einv PP tab (oLen 13) 60 (.func 188) [.int .u64 x0] hp0 K =
  cond ((decide ((8192 : Int) ≤ (2 * x0))) && (decide ((x0 : Int) < 8192)))
  (cond (decide ((x0 : Int) ≥ 1000))
    (K (.int .i64 4) hp0)
    (K (.int .i64 3) hp0))
  (none) := by kernel_rfl

theorem t_nd14 {α : Type} (K : Value → Hp → Option α) (x0 : Int) : einv PP tab (oLen 14) 60 (.func 188) [.int .u64 x0] hp0 K =
  cond ((decide ((16384 : Int) ≤ (2 * x0))) && (decide ((x0 : Int) < 16384)))
  (cond (decide ((x0 : Int) ≥ 10000))
    (K (.int .i64 5) hp0)
    (K (.int .i64 4) hp0))
  (none) := by kernel_rfl

theorem t_nd15 {α : Type} (K : Value → Hp → Option α) (x0 : Int) : einv PP tab (oLen 15) 60 (.func 188) [.int .u64 x0] hp0 K =
  cond ((decide ((32768 : Int) ≤ (2 * x0))) && (decide ((x0 : Int) < 32768)))
  (cond (decide ((x0 : Int) ≥ 10000))
    (K (.int .i64 5) hp0)
    (K (.int .i64 4) hp0))
  (none) := by kernel_rfl

theorem t_nd16 {α : Type} (K : Value → Hp → Option α) (x0 : Int) : einv PP tab (oLen 16) 60 (.func 188) [.int .u64 x0] hp0 K =
  cond ((decide ((65536 : Int) ≤ (2 * x0))) && (decide ((x0 : Int) < 65536)))
  (cond (decide ((x0 : Int) ≥ 10000))
    (K (.int .i64 5) hp0)
    (K (.int .i64 4) hp0))
  (none) := by kernel_rfl

theorem t_nd17 {α : Type} (K : Value → Hp → Option α) (x0 : Int) : einv PP tab (oLen 17) 60 (.func 188) [.int .u64 x0] hp0 K =
  cond ((decide ((131072 : Int) ≤ (2 * x0))) && (decide ((x0 : Int) < 131072)))
  (cond (decide ((x0 : Int) ≥ 100000))
    (K (.int .i64 6) hp0)
    (K (.int .i64 5) hp0))
  (none) := by kernel_rfl

theorem t_nd18 {α : Type} (K : Value → Hp → Option α) (x0 : Int) : einv PP tab (oLen 18) 60 (.func 188) [.int .u64 x0] hp0 K =
  cond ((decide ((262144 : Int) ≤ (2 * x0))) && (decide ((x0 : Int) < 262144)))
  (cond (decide ((x0 : Int) ≥ 100000))
    (K (.int .i64 6) hp0)
    (K (.int .i64 5) hp0))
  (none) := by kernel_rfl

theorem t_nd19 {α : Type} (K : Value → Hp → Option α) (x0 : Int) : einv PP tab (oLen 19) 60 (.func 188) [.int .u64 x0] hp0 K =
  cond ((decide ((524288 : Int) ≤ (2 * x0))) && (decide ((x0 : Int) < 524288)))
  (cond (decide ((x0 : Int) ≥ 100000))
    (K (.int .i64 6) hp0)
    (K (.int .i64 5) hp0))
  (none) := by kernel_rfl

theorem t_nd20 {α : Type} (K : Value → Hp → Option α) (x0 : Int) : einv PP tab (oLen 20) 60 (.func 188) [.int .u64 x0] hp0 K =
  cond ((decide ((1048576 : Int) ≤ (2 * x0))) && (decide ((x0 : Int) < 1048576)))
  (cond (decide ((x0 : Int) ≥ 1000000))
    (K (.int .i64 7) hp0)
    (K (.int .i64 6) hp0))
  (none) := by kernel_rfl

theorem t_nd21 {α : Type} (K : Value → Hp → Option α) (x0 : Int) : einv PP tab (oLen 21) 60 (.func 188) [.int .u64 x0] hp0 K =
  cond ((decide ((2097152 : Int) ≤ (2 * x0))) && (decide ((x0 : Int) < 2097152)))
  (cond (decide ((x0 : Int) ≥ 1000000))
    (K (.int .i64 7) hp0)
    (K (.int .i64 6) hp0))
  (none) := by kernel_rfl

theorem t_nd22 {α : Type} (K : Value → Hp → Option α) (x0 : Int) : einv PP tab (oLen 22) 60 (.func 188) [.int .u64 x0] hp0 K =
  cond ((decide ((4194304 : Int) ≤ (2 * x0))) && (decide ((x0 : Int) < 4194304)))
  (cond (decide ((x0 : Int) ≥ 1000000))
    (K (.int .i64 7) hp0)
    (K (.int .i64 6) hp0))
  (none) := by kernel_rfl

theorem t_nd23 {α : Type} (K : Value → Hp → Option α) (x0 : Int) : einv PP tab (oLen 23) 60 (.func 188) [.int .u64 x0] hp0 K =
  cond ((decide ((8388608 : Int) ≤ (2 * x0))) && (decide ((x0 : Int) < 8388608)))
  (cond (decide ((x0 : Int) ≥ 1000000))
    (K (.int .i64 7) hp0)
    (K (.int .i64 6) hp0))
  (none) := by kernel_rfl

theorem t_nd24 {α : Type} (K : Value → Hp → Option α) (x0 : Int) : einv PP tab (oLen 24) 60 (.func 188) [.int .u64 x0] hp0 K =
  cond ((decide ((16777216 : Int) ≤ (2 * x0))) && (decide ((x0 : Int) < 16777216)))
  (cond (decide ((x0 : Int) ≥ 10000000))
    (K (.int .i64 8) hp0)
    (K (.int .i64 7) hp0))
  (none) := by kernel_rfl

theorem t_nd25 {α : Type} (K : Value → Hp → Option α) (x0 : Int) : einv PP tab (oLen 25) 60 (.func 188) [.int .u64 x0] hp0 K =
  cond ((decide ((33554432 : Int) ≤ (2 * x0))) && (decide ((x0 : Int) < 33554432)))
  (cond (decide ((x0 : Int) ≥ 10000000))
    (K (.int .i64 8) hp0)
    (K (.int .i64 7) hp0))
  (none) := by kernel_rfl

theorem t_nd26 {α : Type} (K : Value → Hp → Option α) (x0 : Int) : einv PP tab (oLen 26) 60 (.func 188) [.int .u64 x0] hp0 K =
  cond ((decide ((67108864 : Int) ≤ (2 * x0))) && (decide ((x0 : Int) < 67108864)))
  (cond (decide ((x0 : Int) ≥ 10000000))
    (K (.int .i64 8) hp0)
    (K (.int .i64 7) hp0))
  (none) := by kernel_rfl

theorem t_nd27 {α : Type} (K : Value → Hp → Option α) (x0 : Int) : einv PP tab (oLen 27) 60 (.func 188) [.int .u64 x0] hp0 K =
  cond ((decide ((134217728 : Int) ≤ (2 * x0))) && (decide ((x0 : Int) < 134217728)))
  (cond (decide ((x0 : Int) ≥ 100000000))
    (K (.int .i64 9) hp0)
    (K (.int .i64 8) hp0))
  (none) := by kernel_rfl

theorem t_nd28 {α : Type} (K : Value → Hp → Option α) (x0 : Int) : einv PP tab (oLen 28) 60 (.func 188) [.int .u64 x0] hp0 K =
  cond ((decide ((268435456 : Int) ≤ (2 * x0))) && (decide ((x0 : Int) < 268435456)))
  (cond (decide ((x0 : Int) ≥ 100000000))
    (K (.int .i64 9) hp0)
    (K (.int .i64 8) hp0))
  (none) := by kernel_rfl

theorem t_nd29 {α : Type} (K : Value → Hp → Option α) (x0 : Int) : einv PP tab (oLen 29) 60 (.func 188) [.int .u64 x0] hp0 K =
  cond ((decide ((536870912 : Int) ≤ (2 * x0))) && (decide ((x0 : Int) < 536870912)))
  (cond (decide ((x0 : Int) ≥ 100000000))
    (K (.int .i64 9) hp0)
    (K (.int .i64 8) hp0))
  (none) := by kernel_rfl

theorem t_nd30 {α : Type} (K : Value → Hp → Option α) (x0 : Int) : einv PP tab (oLen 30) 60 (.func 188) [.int .u64 x0] hp0 K =
  cond ((decide ((1073741824 : Int) ≤ (2 * x0))) && (decide ((x0 : Int) < 1073741824)))
  (cond (decide ((x0 : Int) ≥ 1000000000))
    (K (.int .i64 10) hp0)
    (K (.int .i64 9) hp0))
  (none) := by kernel_rfl

theorem t_nd31 {α : Type} (K : Value → Hp → Option α) (x0 : Int) : einv PP tab (oLen 31) 60 (.func 188) [.int .u64 x0] hp0 K =
  cond ((decide ((2147483648 : Int) ≤ (2 * x0))) && (decide ((x0 : Int) < 2147483648)))
  (cond (decide ((x0 : Int) ≥ 1000000000))
    (K (.int .i64 10) hp0)
    (K (.int .i64 9) hp0))
  (none) := by kernel_rfl

theorem t_nd32 {α : Type} (K : Value → Hp → Option α) (x0 : Int) : einv PP tab (oLen 32) 60 (.func 188) [.int .u64 x0] hp0 K =
  cond ((decide ((4294967296 : Int) ≤ (2 * x0))) && (decide ((x0 : Int) < 4294967296)))
  (cond (decide ((x0 : Int) ≥ 1000000000))
    (K (.int .i64 10) hp0)
    (K (.int .i64 9) hp0))
  (none) := by kernel_rfl

theorem t_nd33 {α : Type} (K : Value → Hp → Option α) (x0 : Int) : einv PP tab (oLen 33) 60 (.func 188) [.int .u64 x0] hp0 K =
  cond ((decide ((8589934592 : Int) ≤ (2 * x0))) && (decide ((x0 : Int) < 8589934592)))
  (cond (decide ((x0 : Int) ≥ 1000000000))
    (K (.int .i64 10) hp0)
    (K (.int .i64 9) hp0))
  (none) := by kernel_rfl

theorem t_nd34 {α : Type} (K : Value → Hp → Option α) (x0 : Int) : einv PP tab (oLen 34) 60 (.func 188) [.int .u64 x0] hp0 K =
  cond ((decide ((17179869184 : Int) ≤ (2 * x0))) && (decide ((x0 : Int) < 17179869184)))
  (cond (decide ((x0 : Int) ≥ 10000000000))
    (K (.int .i64 11) hp0)
    (K (.int .i64 10) hp0))
  (none) := by kernel_rfl

theorem t_nd35 {α : Type} (K : Value → Hp → Option α) (x0 : Int) : einv PP tab (oLen 35) 60 (.func 188) [.int .u64 x0] hp0 K =
  cond ((decide ((34359738368 : Int) ≤ (2 * x0))) && (decide ((x0 : Int) < 34359738368)))
  (cond (decide ((x0 : Int) ≥ 10000000000))
    (K (.int .i64 11) hp0)
    (K (.int .i64 10) hp0))
  (none) := by kernel_rfl

theorem t_nd36 {α : Type} (K : Value → Hp → Option α) (x0 : Int) : einv PP tab (oLen 36) 60 (.func 188) [.int .u64 x0] hp0 K =
  cond ((decide ((68719476736 : Int) ≤ (2 * x0))) && (decide ((x0 : Int) < 68719476736)))
  (cond (decide ((x0 : Int) ≥ 10000000000))
    (K (.int .i64 11) hp0)
    (K (.int .i64 10) hp0))
  (none) := by kernel_rfl

theorem t_nd37 {α : Type} (K : Value → Hp → Option α) (x0 : Int) : einv PP tab (oLen 37) 60 (.func 188) [.int .u64 x0] hp0 K =
  cond ((decide ((137438953472 : Int) ≤ (2 * x0))) && (decide ((x0 : Int) < 137438953472)))
  (cond (decide ((x0 : Int) ≥ 100000000000))
    (K (.int .i64 12) hp0)
    (K (.int .i64 11) hp0))
  (none) := by kernel_rfl

theorem t_nd38 {α : Type} (K : Value → Hp → Option α) (x0 : Int) : einv PP tab (oLen 38) 60 (.func 188) [.int .u64 x0] hp0 K =
  cond ((decide ((274877906944 : Int) ≤ (2 * x0))) && (decide ((x0 : Int) < 274877906944)))
  (cond (decide ((x0 : Int) ≥ 100000000000))
    (K (.int .i64 12) hp0)
    (K (.int .i64 11) hp0))
  (none) := by kernel_rfl

theorem t_nd39 {α : Type} (K : Value → Hp → Option α) (x0 : Int) : einv PP tab (oLen 39) 60 (.func 188) [.int .u64 x0] hp0 K =
  cond ((decide ((549755813888 : Int) ≤ (2 * x0))) && (decide ((x0 : Int) < 549755813888)))
  (cond (decide ((x0 : Int) ≥ 100000000000))
    (K (.int .i64 12) hp0)
    (K (.int .i64 11) hp0))
  (none) := by kernel_rfl

theorem t_nd40 {α : Type} (K : Value → Hp → Option α) (x0 : Int) : einv PP tab (oLen 40) 60 (.func 188) [.int .u64 x0] hp0 K =
  cond ((decide ((1099511627776 : Int) ≤ (2 * x0))) && (decide ((x0 : Int) < 1099511627776)))
  (cond (decide ((x0 : Int) ≥ 1000000000000))
    (K (.int .i64 13) hp0)
    (K (.int .i64 12) hp0))
  (none) := by kernel_rfl

theorem t_nd41 {α : Type} (K : Value → Hp → Option α) (x0 : Int) : einv PP tab (oLen 41) 60 (.func 188) [.int .u64 x0] hp0 K =
  cond ((decide ((2199023255552 : Int) ≤ (2 * x0))) && (decide ((x0 : Int) < 2199023255552)))
  (cond (decide ((x0 : Int) ≥ 1000000000000))
    (K (.int .i64 13) hp0)
    (K (.int .i64 12) hp0))
  (none) := by kernel_rfl

theorem t_nd42 {α : Type} (K : Value → Hp → Option α) (x0 : Int) : einv PP tab (oLen 42) 60 (.func 188) [.int .u64 x0] hp0 K =
  cond ((decide ((4398046511104 : Int) ≤ (2 * x0))) && (decide ((x0 : Int) < 4398046511104)))
  (cond (decide ((x0 : Int) ≥ 1000000000000))
    (K (.int .i64 13) hp0)
    (K (.int .i64 12) hp0))
  (none) := by kernel_rfl

theorem t_nd43 {α : Type} (K : Value → Hp → Option α) (x0 : Int) : einv PP tab (oLen 43) 60 (.func 188) [.int .u64 x0] hp0 K =
  cond ((decide ((8796093022208 : Int) ≤ (2 * x0))) && (decide ((x0 : Int) < 8796093022208)))
  (cond (decide ((x0 : Int) ≥ 1000000000000))
    (K (.int .i64 13) hp0)
    (K (.int .i64 12) hp0))
  (none) := by kernel_rfl

theorem t_nd44 {α : Type} (K : Value → Hp → Option α) (x0 : Int) : einv PP tab (oLen 44) 60 (.func 188) [.int .u64 x0] hp0 K =
  cond ((decide ((17592186044416 : Int) ≤ (2 * x0))) && (decide ((x0 : Int) < 17592186044416)))
  (cond (decide ((x0 : Int) ≥ 10000000000000))
    (K (.int .i64 14) hp0)
    (K (.int .i64 13) hp0))
  (none) := by kernel_rfl

theorem t_nd45 {α : Type} (K : Value → Hp → Option α) (x0 : Int) : einv PP tab (oLen 45) 60 (.func 188) [.int .u64 x0] hp0 K =
  cond ((decide ((35184372088832 : Int) ≤ (2 * x0))) && (decide ((x0 : Int) < 35184372088832)))
  (cond (decide ((x0 : Int) ≥ 10000000000000))
    (K (.int .i64 14) hp0)
    (K (.int .i64 13) hp0))
  (none) := by kernel_rfl

theorem t_nd46 {α : Type} (K : Value → Hp → Option α) (x0 : Int) : einv PP tab (oLen 46) 60 (.func 188) [.int .u64 x0] hp0 K =
  cond ((decide ((70368744177664 : Int) ≤ (2 * x0))) && (decide ((x0 : Int) < 70368744177664)))
  (cond (decide ((x0 : Int) ≥ 10000000000000))
    (K (.int .i64 14) hp0)
    (K (.int .i64 13) hp0))
  (none) := by kernel_rfl

theorem t_nd47 {α : Type} (K : Value → Hp → Option α) (x0 : Int) : einv PP tab (oLen 47) 60 (.func 188) [.int .u64 x0] hp0 K =
  cond ((decide ((140737488355328 : Int) ≤ (2 * x0))) && (decide ((x0 : Int) < 140737488355328)))
  (cond (decide ((x0 : Int) ≥ 100000000000000))
    (K (.int .i64 15) hp0)
    (K (.int .i64 14) hp0))
  (none) := by kernel_rfl

theorem t_nd48 {α : Type} (K : Value → Hp → Option α) (x0 : Int) : einv PP tab (oLen 48) 60 (.func 188) [.int .u64 x0] hp0 K =
  cond ((decide ((281474976710656 : Int) ≤ (2 * x0))) && (decide ((x0 : Int) < 281474976710656)))
  (cond (decide ((x0 : Int) ≥ 100000000000000))
    (K (.int .i64 15) hp0)
    (K (.int .i64 14) hp0))
  (none) := by kernel_rfl

theorem t_nd49 {α : Type} (K : Value → Hp → Option α) (x0 : Int) : einv PP tab (oLen 49) 60 (.func 188) [.int .u64 x0] hp0 K =
  cond ((decide ((562949953421312 : Int) ≤ (2 * x0))) && (decide ((x0 : Int) < 562949953421312)))
  (cond (decide ((x0 : Int) ≥ 100000000000000))
    (K (.int .i64 15) hp0)
    (K (.int .i64 14) hp0))
  (none) := by kernel_rfl

theorem t_nd50 {α : Type} (K : Value → Hp → Option α) (x0 : Int) : einv PP tab (oLen 50) 60 (.func 188) [.int .u64 x0] hp0 K =
  cond ((decide ((1125899906842624 : Int) ≤ (2 * x0))) && (decide ((x0 : Int) < 1125899906842624)))
  (cond (decide ((x0 : Int) ≥ 1000000000000000))
    (K (.int .i64 16) hp0)
    (K (.int .i64 15) hp0))
  (none) := by kernel_rfl

theorem t_nd51 {α : Type} (K : Value → Hp → Option α) (x0 : Int) : einv PP tab (oLen 51) 60 (.func 188) [.int .u64 x0] hp0 K =
  cond ((decide ((2251799813685248 : Int) ≤ (2 * x0))) && (decide ((x0 : Int) < 2251799813685248)))
  (cond (decide ((x0 : Int) ≥ 1000000000000000))
    (K (.int .i64 16) hp0)
    (K (.int .i64 15) hp0))
  (none) := by kernel_rfl

theorem t_nd52 {α : Type} (K : Value → Hp → Option α) (x0 : Int) : einv PP tab (oLen 52) 60 (.func 188) [.int .u64 x0] hp0 K =
  cond ((decide ((4503599627370496 : Int) ≤ (2 * x0))) && (decide ((x0 : Int) < 4503599627370496)))
  (cond (decide ((x0 : Int) ≥ 1000000000000000))
    (K (.int .i64 16) hp0)
    (K (.int .i64 15) hp0))
  (none) := by kernel_rfl

theorem t_nd53 {α : Type} (K : Value → Hp → Option α) (x0 : Int) : einv PP tab (oLen 53) 60 (.func 188) [.int .u64 x0] hp0 K =
  cond ((decide ((9007199254740992 : Int) ≤ (2 * x0))) && (decide ((x0 : Int) < 9007199254740992)))
  (cond (decide ((x0 : Int) ≥ 1000000000000000))
    (K (.int .i64 16) hp0)
    (K (.int .i64 15) hp0))
  (none) := by kernel_rfl

theorem t_nd54 {α : Type} (K : Value → Hp → Option α) (x0 : Int) : einv PP tab (oLen 54) 60 (.func 188) [.int .u64 x0] hp0 K =
  cond ((decide ((18014398509481984 : Int) ≤ (2 * x0))) && (decide ((x0 : Int) < 18014398509481984)))
  (cond (decide ((x0 : Int) ≥ 10000000000000000))
    (K (.int .i64 17) hp0)
    (K (.int .i64 16) hp0))
  (none) := by kernel_rfl

theorem t_nd55 {α : Type} (K : Value → Hp → Option α) (x0 : Int) : einv PP tab (oLen 55) 60 (.func 188) [.int .u64 x0] hp0 K =
  cond ((decide ((36028797018963968 : Int) ≤ (2 * x0))) && (decide ((x0 : Int) < 36028797018963968)))
  (cond (decide ((x0 : Int) ≥ 10000000000000000))
    (K (.int .i64 17) hp0)
    (K (.int .i64 16) hp0))
  (none) := by kernel_rfl

theorem t_nd56 {α : Type} (K : Value → Hp → Option α) (x0 : Int) : einv PP tab (oLen 56) 60 (.func 188) [.int .u64 x0] hp0 K =
  cond ((decide ((72057594037927936 : Int) ≤ (2 * x0))) && (decide ((x0 : Int) < 72057594037927936)))
  (cond (decide ((x0 : Int) ≥ 10000000000000000))
    (K (.int .i64 17) hp0)
    (K (.int .i64 16) hp0))
  (none) := by kernel_rfl

theorem t_nd57 {α : Type} (K : Value → Hp → Option α) (x0 : Int) : einv PP tab (oLen 57) 60 (.func 188) [.int .u64 x0] hp0 K =
  cond ((decide ((144115188075855872 : Int) ≤ (2 * x0))) && (decide ((x0 : Int) < 144115188075855872)))
  (cond (decide ((x0 : Int) ≥ 100000000000000000))
    (K (.int .i64 18) hp0)
    (K (.int .i64 17) hp0))
  (none) := by kernel_rfl

theorem t_nd58 {α : Type} (K : Value → Hp → Option α) (x0 : Int) : einv PP tab (oLen 58) 60 (.func 188) [.int .u64 x0] hp0 K =
  cond ((decide ((288230376151711744 : Int) ≤ (2 * x0))) && (decide ((x0 : Int) < 288230376151711744)))
  (cond (decide ((x0 : Int) ≥ 100000000000000000))
    (K (.int .i64 18) hp0)
    (K (.int .i64 17) hp0))
  (none) := by kernel_rfl

theorem t_nd59 {α : Type} (K : Value → Hp → Option α) (x0 : Int) : einv PP tab (oLen 59) 60 (.func 188) [.int .u64 x0] hp0 K =
  cond ((decide ((576460752303423488 : Int) ≤ (2 * x0))) && (decide ((x0 : Int) < 576460752303423488)))
  (cond (decide ((x0 : Int) ≥ 100000000000000000))
    (K (.int .i64 18) hp0)
    (K (.int .i64 17) hp0))
  (none) := by kernel_rfl

theorem t_nd60 {α : Type} (K : Value → Hp → Option α) (x0 : Int) : einv PP tab (oLen 60) 60 (.func 188) [.int .u64 x0] hp0 K =
  cond ((decide ((1152921504606846976 : Int) ≤ (2 * x0))) && (decide ((x0 : Int) < 1152921504606846976)))
  (cond (decide ((x0 : Int) ≥ 1000000000000000000))
    (K (.int .i64 19) hp0)
    (K (.int .i64 18) hp0))
  (none) := by kernel_rfl

theorem t_nd61 {α : Type} (K : Value → Hp → Option α) (x0 : Int) : einv PP tab (oLen 61) 60 (.func 188) [.int .u64 x0] hp0 K =
  cond ((decide ((2305843009213693952 : Int) ≤ (2 * x0))) && (decide ((x0 : Int) < 2305843009213693952)))
  (cond (decide ((x0 : Int) ≥ 1000000000000000000))
    (K (.int .i64 19) hp0)
    (K (.int .i64 18) hp0))
  (none) := by kernel_rfl

theorem t_nd62 {α : Type} (K : Value → Hp → Option α) (x0 : Int) : einv PP tab (oLen 62) 60 (.func 188) [.int .u64 x0] hp0 K =
  cond ((decide ((4611686018427387904 : Int) ≤ (2 * x0))) && (decide ((x0 : Int) < 4611686018427387904)))
  (cond (decide ((x0 : Int) ≥ 1000000000000000000))
    (K (.int .i64 19) hp0)
    (K (.int .i64 18) hp0))
  (none) := by kernel_rfl

theorem t_nd63 {α : Type} (K : Value → Hp → Option α) (x0 : Int) : einv PP tab (oLen 63) 60 (.func 188) [.int .u64 x0] hp0 K =
  cond ((decide ((9223372036854775808 : Int) ≤ (2 * x0))) && (decide ((x0 : Int) < 9223372036854775808)))
  (cond (decide ((x0 : Int) ≥ 1000000000000000000))
    (K (.int .i64 19) hp0)
    (K (.int .i64 18) hp0))
  (none) := by kernel_rfl

theorem t_nd64 {α : Type} (K : Value → Hp → Option α) (x0 : Int) : einv PP tab (oLen 64) 60 (.func 188) [.int .u64 x0] hp0 K =
  cond ((decide ((18446744073709551616 : Int) ≤ (2 * x0))) && (decide ((x0 : Int) < 18446744073709551616)))
  (cond (decide ((x0 : Int) ≥ 10000000000000000000))
    (K (.int .i64 20) hp0)
    (K (.int .i64 19) hp0))
  (none) := by kernel_rfl

end Go.Ev
end
