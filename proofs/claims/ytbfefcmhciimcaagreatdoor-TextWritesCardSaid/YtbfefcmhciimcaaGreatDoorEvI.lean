/- Digits, fractions, texts of dates and times. -/
import Derived.KernelRfl
import Derived.Test.YtbfefcmhciimcaaGreatDoorEvH
section
set_option linter.unusedSimpArgs false
set_option linter.unusedVariables false
set_option maxHeartbeats 1000000
namespace Go.Ev
open Go
theorem lenB_eq (i l : Nat) (hl : l ≤ 8) (h : 2 ^ l ≤ 2 * i) (k : i < 2 ^ l) : lenB i = l := by
  unfold lenB
  have : l = 0 ∨ l = 1 ∨ l = 2 ∨ l = 3 ∨ l = 4 ∨ l = 5 ∨ l = 6 ∨ l = 7 ∨ l = 8 := by omega
  rcases this with rfl | rfl | rfl | rfl | rfl | rfl | rfl | rfl | rfl <;> simp at h k <;> (repeat' split) <;> omega
theorem rLen1 (u : Int) (h1 : 1 ≤ u) (h2 : u < 2) : Run1 noO 249 [.int .u64 u] (.int .i64 1) := by
  refine ⟨60, ?_⟩
  rw [t_len]
  simp only [Int.fdiv_eq_ediv_of_nonneg _ (show (0 : Int) ≤ 4294967296 by decide), Int.fdiv_eq_ediv_of_nonneg _ (show (0 : Int) ≤ 65536 by decide), Int.fdiv_eq_ediv_of_nonneg _ (show (0 : Int) ≤ 256 by decide), kw_u8]
  iterate 3 (first | refine Res.ct (by omega) ?_ | refine Res.cf (by omega) ?_)
  refine Res.it ⟨by omega, by rw [size_len]; omega⟩ ?_
  refine Res.el (lget_len _ (by omega)) ?_
  refine Res.done ?_ rfl
  rw [lenB_eq _ 1 (by omega) (by omega) (by omega)]; rfl
theorem rLen2 (u : Int) (h1 : 2 ≤ u) (h2 : u < 4) : Run1 noO 249 [.int .u64 u] (.int .i64 2) := by
  refine ⟨60, ?_⟩
  rw [t_len]
  simp only [Int.fdiv_eq_ediv_of_nonneg _ (show (0 : Int) ≤ 4294967296 by decide), Int.fdiv_eq_ediv_of_nonneg _ (show (0 : Int) ≤ 65536 by decide), Int.fdiv_eq_ediv_of_nonneg _ (show (0 : Int) ≤ 256 by decide), kw_u8]
  iterate 3 (first | refine Res.ct (by omega) ?_ | refine Res.cf (by omega) ?_)
  refine Res.it ⟨by omega, by rw [size_len]; omega⟩ ?_
  refine Res.el (lget_len _ (by omega)) ?_
  refine Res.done ?_ rfl
  rw [lenB_eq _ 2 (by omega) (by omega) (by omega)]; rfl
theorem rLen3 (u : Int) (h1 : 4 ≤ u) (h2 : u < 8) : Run1 noO 249 [.int .u64 u] (.int .i64 3) := by
  refine ⟨60, ?_⟩
  rw [t_len]
  simp only [Int.fdiv_eq_ediv_of_nonneg _ (show (0 : Int) ≤ 4294967296 by decide), Int.fdiv_eq_ediv_of_nonneg _ (show (0 : Int) ≤ 65536 by decide), Int.fdiv_eq_ediv_of_nonneg _ (show (0 : Int) ≤ 256 by decide), kw_u8]
  iterate 3 (first | refine Res.ct (by omega) ?_ | refine Res.cf (by omega) ?_)
  refine Res.it ⟨by omega, by rw [size_len]; omega⟩ ?_
  refine Res.el (lget_len _ (by omega)) ?_
  refine Res.done ?_ rfl
  rw [lenB_eq _ 3 (by omega) (by omega) (by omega)]; rfl
theorem rLen4 (u : Int) (h1 : 8 ≤ u) (h2 : u < 16) : Run1 noO 249 [.int .u64 u] (.int .i64 4) := by
  refine ⟨60, ?_⟩
  rw [t_len]
  simp only [Int.fdiv_eq_ediv_of_nonneg _ (show (0 : Int) ≤ 4294967296 by decide), Int.fdiv_eq_ediv_of_nonneg _ (show (0 : Int) ≤ 65536 by decide), Int.fdiv_eq_ediv_of_nonneg _ (show (0 : Int) ≤ 256 by decide), kw_u8]
  iterate 3 (first | refine Res.ct (by omega) ?_ | refine Res.cf (by omega) ?_)
  refine Res.it ⟨by omega, by rw [size_len]; omega⟩ ?_
  refine Res.el (lget_len _ (by omega)) ?_
  refine Res.done ?_ rfl
  rw [lenB_eq _ 4 (by omega) (by omega) (by omega)]; rfl
theorem rLen5 (u : Int) (h1 : 16 ≤ u) (h2 : u < 32) : Run1 noO 249 [.int .u64 u] (.int .i64 5) := by
  refine ⟨60, ?_⟩
  rw [t_len]
  simp only [Int.fdiv_eq_ediv_of_nonneg _ (show (0 : Int) ≤ 4294967296 by decide), Int.fdiv_eq_ediv_of_nonneg _ (show (0 : Int) ≤ 65536 by decide), Int.fdiv_eq_ediv_of_nonneg _ (show (0 : Int) ≤ 256 by decide), kw_u8]
  iterate 3 (first | refine Res.ct (by omega) ?_ | refine Res.cf (by omega) ?_)
  refine Res.it ⟨by omega, by rw [size_len]; omega⟩ ?_
  refine Res.el (lget_len _ (by omega)) ?_
  refine Res.done ?_ rfl
  rw [lenB_eq _ 5 (by omega) (by omega) (by omega)]; rfl
theorem rLen6 (u : Int) (h1 : 32 ≤ u) (h2 : u < 64) : Run1 noO 249 [.int .u64 u] (.int .i64 6) := by
  refine ⟨60, ?_⟩
  rw [t_len]
  simp only [Int.fdiv_eq_ediv_of_nonneg _ (show (0 : Int) ≤ 4294967296 by decide), Int.fdiv_eq_ediv_of_nonneg _ (show (0 : Int) ≤ 65536 by decide), Int.fdiv_eq_ediv_of_nonneg _ (show (0 : Int) ≤ 256 by decide), kw_u8]
  iterate 3 (first | refine Res.ct (by omega) ?_ | refine Res.cf (by omega) ?_)
  refine Res.it ⟨by omega, by rw [size_len]; omega⟩ ?_
  refine Res.el (lget_len _ (by omega)) ?_
  refine Res.done ?_ rfl
  rw [lenB_eq _ 6 (by omega) (by omega) (by omega)]; rfl
theorem rLen7 (u : Int) (h1 : 64 ≤ u) (h2 : u < 128) : Run1 noO 249 [.int .u64 u] (.int .i64 7) := by
  refine ⟨60, ?_⟩
  rw [t_len]
  simp only [Int.fdiv_eq_ediv_of_nonneg _ (show (0 : Int) ≤ 4294967296 by decide), Int.fdiv_eq_ediv_of_nonneg _ (show (0 : Int) ≤ 65536 by decide), Int.fdiv_eq_ediv_of_nonneg _ (show (0 : Int) ≤ 256 by decide), kw_u8]
  iterate 3 (first | refine Res.ct (by omega) ?_ | refine Res.cf (by omega) ?_)
  refine Res.it ⟨by omega, by rw [size_len]; omega⟩ ?_
  refine Res.el (lget_len _ (by omega)) ?_
  refine Res.done ?_ rfl
  rw [lenB_eq _ 7 (by omega) (by omega) (by omega)]; rfl
theorem rLen8 (u : Int) (h1 : 128 ≤ u) (h2 : u < 256) : Run1 noO 249 [.int .u64 u] (.int .i64 8) := by
  refine ⟨60, ?_⟩
  rw [t_len]
  simp only [Int.fdiv_eq_ediv_of_nonneg _ (show (0 : Int) ≤ 4294967296 by decide), Int.fdiv_eq_ediv_of_nonneg _ (show (0 : Int) ≤ 65536 by decide), Int.fdiv_eq_ediv_of_nonneg _ (show (0 : Int) ≤ 256 by decide), kw_u8]
  iterate 3 (first | refine Res.ct (by omega) ?_ | refine Res.cf (by omega) ?_)
  refine Res.it ⟨by omega, by rw [size_len]; omega⟩ ?_
  refine Res.el (lget_len _ (by omega)) ?_
  refine Res.done ?_ rfl
  rw [lenB_eq _ 8 (by omega) (by omega) (by omega)]; rfl
theorem rLen9 (u : Int) (h1 : 256 ≤ u) (h2 : u < 512) : Run1 noO 249 [.int .u64 u] (.int .i64 9) := by
  refine ⟨60, ?_⟩
  rw [t_len]
  simp only [Int.fdiv_eq_ediv_of_nonneg _ (show (0 : Int) ≤ 4294967296 by decide), Int.fdiv_eq_ediv_of_nonneg _ (show (0 : Int) ≤ 65536 by decide), Int.fdiv_eq_ediv_of_nonneg _ (show (0 : Int) ≤ 256 by decide), kw_u8]
  iterate 3 (first | refine Res.ct (by omega) ?_ | refine Res.cf (by omega) ?_)
  refine Res.it ⟨by omega, by rw [size_len]; omega⟩ ?_
  refine Res.el (lget_len _ (by omega)) ?_
  refine Res.done ?_ rfl
  rw [lenB_eq _ 1 (by omega) (by omega) (by omega)]; rfl
theorem rLen10 (u : Int) (h1 : 512 ≤ u) (h2 : u < 1024) : Run1 noO 249 [.int .u64 u] (.int .i64 10) := by
  refine ⟨60, ?_⟩
  rw [t_len]
  simp only [Int.fdiv_eq_ediv_of_nonneg _ (show (0 : Int) ≤ 4294967296 by decide), Int.fdiv_eq_ediv_of_nonneg _ (show (0 : Int) ≤ 65536 by decide), Int.fdiv_eq_ediv_of_nonneg _ (show (0 : Int) ≤ 256 by decide), kw_u8]
  iterate 3 (first | refine Res.ct (by omega) ?_ | refine Res.cf (by omega) ?_)
  refine Res.it ⟨by omega, by rw [size_len]; omega⟩ ?_
  refine Res.el (lget_len _ (by omega)) ?_
  refine Res.done ?_ rfl
  rw [lenB_eq _ 2 (by omega) (by omega) (by omega)]; rfl
theorem rLen11 (u : Int) (h1 : 1024 ≤ u) (h2 : u < 2048) : Run1 noO 249 [.int .u64 u] (.int .i64 11) := by
  refine ⟨60, ?_⟩
  rw [t_len]
  simp only [Int.fdiv_eq_ediv_of_nonneg _ (show (0 : Int) ≤ 4294967296 by decide), Int.fdiv_eq_ediv_of_nonneg _ (show (0 : Int) ≤ 65536 by decide), Int.fdiv_eq_ediv_of_nonneg _ (show (0 : Int) ≤ 256 by decide), kw_u8]
  iterate 3 (first | refine Res.ct (by omega) ?_ | refine Res.cf (by omega) ?_)
  refine Res.it ⟨by omega, by rw [size_len]; omega⟩ ?_
  refine Res.el (lget_len _ (by omega)) ?_
  refine Res.done ?_ rfl
  rw [lenB_eq _ 3 (by omega) (by omega) (by omega)]; rfl
theorem rLen12 (u : Int) (h1 : 2048 ≤ u) (h2 : u < 4096) : Run1 noO 249 [.int .u64 u] (.int .i64 12) := by
  refine ⟨60, ?_⟩
  rw [t_len]
  simp only [Int.fdiv_eq_ediv_of_nonneg _ (show (0 : Int) ≤ 4294967296 by decide), Int.fdiv_eq_ediv_of_nonneg _ (show (0 : Int) ≤ 65536 by decide), Int.fdiv_eq_ediv_of_nonneg _ (show (0 : Int) ≤ 256 by decide), kw_u8]
  iterate 3 (first | refine Res.ct (by omega) ?_ | refine Res.cf (by omega) ?_)
  refine Res.it ⟨by omega, by rw [size_len]; omega⟩ ?_
  refine Res.el (lget_len _ (by omega)) ?_
  refine Res.done ?_ rfl
  rw [lenB_eq _ 4 (by omega) (by omega) (by omega)]; rfl
theorem rLen13 (u : Int) (h1 : 4096 ≤ u) (h2 : u < 8192) : Run1 noO 249 [.int .u64 u] (.int .i64 13) := by
  refine ⟨60, ?_⟩
  rw [t_len]
  simp only [Int.fdiv_eq_ediv_of_nonneg _ (show (0 : Int) ≤ 4294967296 by decide), Int.fdiv_eq_ediv_of_nonneg _ (show (0 : Int) ≤ 65536 by decide), Int.fdiv_eq_ediv_of_nonneg _ (show (0 : Int) ≤ 256 by decide), kw_u8]
  iterate 3 (first | refine Res.ct (by omega) ?_ | refine Res.cf (by omega) ?_)
  refine Res.it ⟨by omega, by rw [size_len]; omega⟩ ?_
  refine Res.el (lget_len _ (by omega)) ?_
  refine Res.done ?_ rfl
  rw [lenB_eq _ 5 (by omega) (by omega) (by omega)]; rfl
theorem rLen14 (u : Int) (h1 : 8192 ≤ u) (h2 : u < 16384) : Run1 noO 249 [.int .u64 u] (.int .i64 14) := by
  refine ⟨60, ?_⟩
  rw [t_len]
  simp only [Int.fdiv_eq_ediv_of_nonneg _ (show (0 : Int) ≤ 4294967296 by decide), Int.fdiv_eq_ediv_of_nonneg _ (show (0 : Int) ≤ 65536 by decide), Int.fdiv_eq_ediv_of_nonneg _ (show (0 : Int) ≤ 256 by decide), kw_u8]
  iterate 3 (first | refine Res.ct (by omega) ?_ | refine Res.cf (by omega) ?_)
  refine Res.it ⟨by omega, by rw [size_len]; omega⟩ ?_
  refine Res.el (lget_len _ (by omega)) ?_
  refine Res.done ?_ rfl
  rw [lenB_eq _ 6 (by omega) (by omega) (by omega)]; rfl
theorem rLen15 (u : Int) (h1 : 16384 ≤ u) (h2 : u < 32768) : Run1 noO 249 [.int .u64 u] (.int .i64 15) := by
  refine ⟨60, ?_⟩
  rw [t_len]
  simp only [Int.fdiv_eq_ediv_of_nonneg _ (show (0 : Int) ≤ 4294967296 by decide), Int.fdiv_eq_ediv_of_nonneg _ (show (0 : Int) ≤ 65536 by decide), Int.fdiv_eq_ediv_of_nonneg _ (show (0 : Int) ≤ 256 by decide), kw_u8]
  iterate 3 (first | refine Res.ct (by omega) ?_ | refine Res.cf (by omega) ?_)
  refine Res.it ⟨by omega, by rw [size_len]; omega⟩ ?_
  refine Res.el (lget_len _ (by omega)) ?_
  refine Res.done ?_ rfl
  rw [lenB_eq _ 7 (by omega) (by omega) (by omega)]; rfl
theorem rLen16 (u : Int) (h1 : 32768 ≤ u) (h2 : u < 65536) : Run1 noO 249 [.int .u64 u] (.int .i64 16) := by
  refine ⟨60, ?_⟩
  rw [t_len]
  simp only [Int.fdiv_eq_ediv_of_nonneg _ (show (0 : Int) ≤ 4294967296 by decide), Int.fdiv_eq_ediv_of_nonneg _ (show (0 : Int) ≤ 65536 by decide), Int.fdiv_eq_ediv_of_nonneg _ (show (0 : Int) ≤ 256 by decide), kw_u8]
  iterate 3 (first | refine Res.ct (by omega) ?_ | refine Res.cf (by omega) ?_)
  refine Res.it ⟨by omega, by rw [size_len]; omega⟩ ?_
  refine Res.el (lget_len _ (by omega)) ?_
  refine Res.done ?_ rfl
  rw [lenB_eq _ 8 (by omega) (by omega) (by omega)]; rfl
theorem rLen17 (u : Int) (h1 : 65536 ≤ u) (h2 : u < 131072) : Run1 noO 249 [.int .u64 u] (.int .i64 17) := by
  refine ⟨60, ?_⟩
  rw [t_len]
  simp only [Int.fdiv_eq_ediv_of_nonneg _ (show (0 : Int) ≤ 4294967296 by decide), Int.fdiv_eq_ediv_of_nonneg _ (show (0 : Int) ≤ 65536 by decide), Int.fdiv_eq_ediv_of_nonneg _ (show (0 : Int) ≤ 256 by decide), kw_u8]
  iterate 3 (first | refine Res.ct (by omega) ?_ | refine Res.cf (by omega) ?_)
  refine Res.it ⟨by omega, by rw [size_len]; omega⟩ ?_
  refine Res.el (lget_len _ (by omega)) ?_
  refine Res.done ?_ rfl
  rw [lenB_eq _ 1 (by omega) (by omega) (by omega)]; rfl
theorem rLen18 (u : Int) (h1 : 131072 ≤ u) (h2 : u < 262144) : Run1 noO 249 [.int .u64 u] (.int .i64 18) := by
  refine ⟨60, ?_⟩
  rw [t_len]
  simp only [Int.fdiv_eq_ediv_of_nonneg _ (show (0 : Int) ≤ 4294967296 by decide), Int.fdiv_eq_ediv_of_nonneg _ (show (0 : Int) ≤ 65536 by decide), Int.fdiv_eq_ediv_of_nonneg _ (show (0 : Int) ≤ 256 by decide), kw_u8]
  iterate 3 (first | refine Res.ct (by omega) ?_ | refine Res.cf (by omega) ?_)
  refine Res.it ⟨by omega, by rw [size_len]; omega⟩ ?_
  refine Res.el (lget_len _ (by omega)) ?_
  refine Res.done ?_ rfl
  rw [lenB_eq _ 2 (by omega) (by omega) (by omega)]; rfl
theorem rLen19 (u : Int) (h1 : 262144 ≤ u) (h2 : u < 524288) : Run1 noO 249 [.int .u64 u] (.int .i64 19) := by
  refine ⟨60, ?_⟩
  rw [t_len]
  simp only [Int.fdiv_eq_ediv_of_nonneg _ (show (0 : Int) ≤ 4294967296 by decide), Int.fdiv_eq_ediv_of_nonneg _ (show (0 : Int) ≤ 65536 by decide), Int.fdiv_eq_ediv_of_nonneg _ (show (0 : Int) ≤ 256 by decide), kw_u8]
  iterate 3 (first | refine Res.ct (by omega) ?_ | refine Res.cf (by omega) ?_)
  refine Res.it ⟨by omega, by rw [size_len]; omega⟩ ?_
  refine Res.el (lget_len _ (by omega)) ?_
  refine Res.done ?_ rfl
  rw [lenB_eq _ 3 (by omega) (by omega) (by omega)]; rfl
theorem rLen20 (u : Int) (h1 : 524288 ≤ u) (h2 : u < 1048576) : Run1 noO 249 [.int .u64 u] (.int .i64 20) := by
  refine ⟨60, ?_⟩
  rw [t_len]
  simp only [Int.fdiv_eq_ediv_of_nonneg _ (show (0 : Int) ≤ 4294967296 by decide), Int.fdiv_eq_ediv_of_nonneg _ (show (0 : Int) ≤ 65536 by decide), Int.fdiv_eq_ediv_of_nonneg _ (show (0 : Int) ≤ 256 by decide), kw_u8]
  iterate 3 (first | refine Res.ct (by omega) ?_ | refine Res.cf (by omega) ?_)
  refine Res.it ⟨by omega, by rw [size_len]; omega⟩ ?_
  refine Res.el (lget_len _ (by omega)) ?_
  refine Res.done ?_ rfl
  rw [lenB_eq _ 4 (by omega) (by omega) (by omega)]; rfl
theorem rLen21 (u : Int) (h1 : 1048576 ≤ u) (h2 : u < 2097152) : Run1 noO 249 [.int .u64 u] (.int .i64 21) := by
  refine ⟨60, ?_⟩
  rw [t_len]
  simp only [Int.fdiv_eq_ediv_of_nonneg _ (show (0 : Int) ≤ 4294967296 by decide), Int.fdiv_eq_ediv_of_nonneg _ (show (0 : Int) ≤ 65536 by decide), Int.fdiv_eq_ediv_of_nonneg _ (show (0 : Int) ≤ 256 by decide), kw_u8]
  iterate 3 (first | refine Res.ct (by omega) ?_ | refine Res.cf (by omega) ?_)
  refine Res.it ⟨by omega, by rw [size_len]; omega⟩ ?_
  refine Res.el (lget_len _ (by omega)) ?_
  refine Res.done ?_ rfl
  rw [lenB_eq _ 5 (by omega) (by omega) (by omega)]; rfl
theorem rLen22 (u : Int) (h1 : 2097152 ≤ u) (h2 : u < 4194304) : Run1 noO 249 [.int .u64 u] (.int .i64 22) := by
  refine ⟨60, ?_⟩
  rw [t_len]
  simp only [Int.fdiv_eq_ediv_of_nonneg _ (show (0 : Int) ≤ 4294967296 by decide), Int.fdiv_eq_ediv_of_nonneg _ (show (0 : Int) ≤ 65536 by decide), Int.fdiv_eq_ediv_of_nonneg _ (show (0 : Int) ≤ 256 by decide), kw_u8]
  iterate 3 (first | refine Res.ct (by omega) ?_ | refine Res.cf (by omega) ?_)
  refine Res.it ⟨by omega, by rw [size_len]; omega⟩ ?_
  refine Res.el (lget_len _ (by omega)) ?_
  refine Res.done ?_ rfl
  rw [lenB_eq _ 6 (by omega) (by omega) (by omega)]; rfl
theorem rLen23 (u : Int) (h1 : 4194304 ≤ u) (h2 : u < 8388608) : Run1 noO 249 [.int .u64 u] (.int .i64 23) := by
  refine ⟨60, ?_⟩
  rw [t_len]
  simp only [Int.fdiv_eq_ediv_of_nonneg _ (show (0 : Int) ≤ 4294967296 by decide), Int.fdiv_eq_ediv_of_nonneg _ (show (0 : Int) ≤ 65536 by decide), Int.fdiv_eq_ediv_of_nonneg _ (show (0 : Int) ≤ 256 by decide), kw_u8]
  iterate 3 (first | refine Res.ct (by omega) ?_ | refine Res.cf (by omega) ?_)
  refine Res.it ⟨by omega, by rw [size_len]; omega⟩ ?_
  refine Res.el (lget_len _ (by omega)) ?_
  refine Res.done ?_ rfl
  rw [lenB_eq _ 7 (by omega) (by omega) (by omega)]; rfl
theorem rLen24 (u : Int) (h1 : 8388608 ≤ u) (h2 : u < 16777216) : Run1 noO 249 [.int .u64 u] (.int .i64 24) := by
  refine ⟨60, ?_⟩
  rw [t_len]
  simp only [Int.fdiv_eq_ediv_of_nonneg _ (show (0 : Int) ≤ 4294967296 by decide), Int.fdiv_eq_ediv_of_nonneg _ (show (0 : Int) ≤ 65536 by decide), Int.fdiv_eq_ediv_of_nonneg _ (show (0 : Int) ≤ 256 by decide), kw_u8]
  iterate 3 (first | refine Res.ct (by omega) ?_ | refine Res.cf (by omega) ?_)
  refine Res.it ⟨by omega, by rw [size_len]; omega⟩ ?_
  refine Res.el (lget_len _ (by omega)) ?_
  refine Res.done ?_ rfl
  rw [lenB_eq _ 8 (by omega) (by omega) (by omega)]; rfl
theorem rLen25 (u : Int) (h1 : 16777216 ≤ u) (h2 : u < 33554432) : Run1 noO 249 [.int .u64 u] (.int .i64 25) := by
  refine ⟨60, ?_⟩
  rw [t_len]
  simp only [Int.fdiv_eq_ediv_of_nonneg _ (show (0 : Int) ≤ 4294967296 by decide), Int.fdiv_eq_ediv_of_nonneg _ (show (0 : Int) ≤ 65536 by decide), Int.fdiv_eq_ediv_of_nonneg _ (show (0 : Int) ≤ 256 by decide), kw_u8]
  iterate 3 (first | refine Res.ct (by omega) ?_ | refine Res.cf (by omega) ?_)
  refine Res.it ⟨by omega, by rw [size_len]; omega⟩ ?_
  refine Res.el (lget_len _ (by omega)) ?_
  refine Res.done ?_ rfl
  rw [lenB_eq _ 1 (by omega) (by omega) (by omega)]; rfl
theorem rLen26 (u : Int) (h1 : 33554432 ≤ u) (h2 : u < 67108864) : Run1 noO 249 [.int .u64 u] (.int .i64 26) := by
  refine ⟨60, ?_⟩
  rw [t_len]
  simp only [Int.fdiv_eq_ediv_of_nonneg _ (show (0 : Int) ≤ 4294967296 by decide), Int.fdiv_eq_ediv_of_nonneg _ (show (0 : Int) ≤ 65536 by decide), Int.fdiv_eq_ediv_of_nonneg _ (show (0 : Int) ≤ 256 by decide), kw_u8]
  iterate 3 (first | refine Res.ct (by omega) ?_ | refine Res.cf (by omega) ?_)
  refine Res.it ⟨by omega, by rw [size_len]; omega⟩ ?_
  refine Res.el (lget_len _ (by omega)) ?_
  refine Res.done ?_ rfl
  rw [lenB_eq _ 2 (by omega) (by omega) (by omega)]; rfl
theorem rLen27 (u : Int) (h1 : 67108864 ≤ u) (h2 : u < 134217728) : Run1 noO 249 [.int .u64 u] (.int .i64 27) := by
  refine ⟨60, ?_⟩
  rw [t_len]
  simp only [Int.fdiv_eq_ediv_of_nonneg _ (show (0 : Int) ≤ 4294967296 by decide), Int.fdiv_eq_ediv_of_nonneg _ (show (0 : Int) ≤ 65536 by decide), Int.fdiv_eq_ediv_of_nonneg _ (show (0 : Int) ≤ 256 by decide), kw_u8]
  iterate 3 (first | refine Res.ct (by omega) ?_ | refine Res.cf (by omega) ?_)
  refine Res.it ⟨by omega, by rw [size_len]; omega⟩ ?_
  refine Res.el (lget_len _ (by omega)) ?_
  refine Res.done ?_ rfl
  rw [lenB_eq _ 3 (by omega) (by omega) (by omega)]; rfl
theorem rLen28 (u : Int) (h1 : 134217728 ≤ u) (h2 : u < 268435456) : Run1 noO 249 [.int .u64 u] (.int .i64 28) := by
  refine ⟨60, ?_⟩
  rw [t_len]
  simp only [Int.fdiv_eq_ediv_of_nonneg _ (show (0 : Int) ≤ 4294967296 by decide), Int.fdiv_eq_ediv_of_nonneg _ (show (0 : Int) ≤ 65536 by decide), Int.fdiv_eq_ediv_of_nonneg _ (show (0 : Int) ≤ 256 by decide), kw_u8]
  iterate 3 (first | refine Res.ct (by omega) ?_ | refine Res.cf (by omega) ?_)
  refine Res.it ⟨by omega, by rw [size_len]; omega⟩ ?_
  refine Res.el (lget_len _ (by omega)) ?_
  refine Res.done ?_ rfl
  rw [lenB_eq _ 4 (by omega) (by omega) (by omega)]; rfl
theorem rLen29 (u : Int) (h1 : 268435456 ≤ u) (h2 : u < 536870912) : Run1 noO 249 [.int .u64 u] (.int .i64 29) := by
  refine ⟨60, ?_⟩
  rw [t_len]
  simp only [Int.fdiv_eq_ediv_of_nonneg _ (show (0 : Int) ≤ 4294967296 by decide), Int.fdiv_eq_ediv_of_nonneg _ (show (0 : Int) ≤ 65536 by decide), Int.fdiv_eq_ediv_of_nonneg _ (show (0 : Int) ≤ 256 by decide), kw_u8]
  iterate 3 (first | refine Res.ct (by omega) ?_ | refine Res.cf (by omega) ?_)
  refine Res.it ⟨by omega, by rw [size_len]; omega⟩ ?_
  refine Res.el (lget_len _ (by omega)) ?_
  refine Res.done ?_ rfl
  rw [lenB_eq _ 5 (by omega) (by omega) (by omega)]; rfl
theorem rLen30 (u : Int) (h1 : 536870912 ≤ u) (h2 : u < 1073741824) : Run1 noO 249 [.int .u64 u] (.int .i64 30) := by
  refine ⟨60, ?_⟩
  rw [t_len]
  simp only [Int.fdiv_eq_ediv_of_nonneg _ (show (0 : Int) ≤ 4294967296 by decide), Int.fdiv_eq_ediv_of_nonneg _ (show (0 : Int) ≤ 65536 by decide), Int.fdiv_eq_ediv_of_nonneg _ (show (0 : Int) ≤ 256 by decide), kw_u8]
  iterate 3 (first | refine Res.ct (by omega) ?_ | refine Res.cf (by omega) ?_)
  refine Res.it ⟨by omega, by rw [size_len]; omega⟩ ?_
  refine Res.el (lget_len _ (by omega)) ?_
  refine Res.done ?_ rfl
  rw [lenB_eq _ 6 (by omega) (by omega) (by omega)]; rfl
theorem rLen31 (u : Int) (h1 : 1073741824 ≤ u) (h2 : u < 2147483648) : Run1 noO 249 [.int .u64 u] (.int .i64 31) := by
  refine ⟨60, ?_⟩
  rw [t_len]
  simp only [Int.fdiv_eq_ediv_of_nonneg _ (show (0 : Int) ≤ 4294967296 by decide), Int.fdiv_eq_ediv_of_nonneg _ (show (0 : Int) ≤ 65536 by decide), Int.fdiv_eq_ediv_of_nonneg _ (show (0 : Int) ≤ 256 by decide), kw_u8]
  iterate 3 (first | refine Res.ct (by omega) ?_ | refine Res.cf (by omega) ?_)
  refine Res.it ⟨by omega, by rw [size_len]; omega⟩ ?_
  refine Res.el (lget_len _ (by omega)) ?_
  refine Res.done ?_ rfl
  rw [lenB_eq _ 7 (by omega) (by omega) (by omega)]; rfl
theorem rLen32 (u : Int) (h1 : 2147483648 ≤ u) (h2 : u < 4294967296) : Run1 noO 249 [.int .u64 u] (.int .i64 32) := by
  refine ⟨60, ?_⟩
  rw [t_len]
  simp only [Int.fdiv_eq_ediv_of_nonneg _ (show (0 : Int) ≤ 4294967296 by decide), Int.fdiv_eq_ediv_of_nonneg _ (show (0 : Int) ≤ 65536 by decide), Int.fdiv_eq_ediv_of_nonneg _ (show (0 : Int) ≤ 256 by decide), kw_u8]
  iterate 3 (first | refine Res.ct (by omega) ?_ | refine Res.cf (by omega) ?_)
  refine Res.it ⟨by omega, by rw [size_len]; omega⟩ ?_
  refine Res.el (lget_len _ (by omega)) ?_
  refine Res.done ?_ rfl
  rw [lenB_eq _ 8 (by omega) (by omega) (by omega)]; rfl
theorem rLen33 (u : Int) (h1 : 4294967296 ≤ u) (h2 : u < 8589934592) : Run1 noO 249 [.int .u64 u] (.int .i64 33) := by
  refine ⟨60, ?_⟩
  rw [t_len]
  simp only [Int.fdiv_eq_ediv_of_nonneg _ (show (0 : Int) ≤ 4294967296 by decide), Int.fdiv_eq_ediv_of_nonneg _ (show (0 : Int) ≤ 65536 by decide), Int.fdiv_eq_ediv_of_nonneg _ (show (0 : Int) ≤ 256 by decide), kw_u8]
  iterate 3 (first | refine Res.ct (by omega) ?_ | refine Res.cf (by omega) ?_)
  refine Res.it ⟨by omega, by rw [size_len]; omega⟩ ?_
  refine Res.el (lget_len _ (by omega)) ?_
  refine Res.done ?_ rfl
  rw [lenB_eq _ 1 (by omega) (by omega) (by omega)]; rfl
theorem rLen34 (u : Int) (h1 : 8589934592 ≤ u) (h2 : u < 17179869184) : Run1 noO 249 [.int .u64 u] (.int .i64 34) := by
  refine ⟨60, ?_⟩
  rw [t_len]
  simp only [Int.fdiv_eq_ediv_of_nonneg _ (show (0 : Int) ≤ 4294967296 by decide), Int.fdiv_eq_ediv_of_nonneg _ (show (0 : Int) ≤ 65536 by decide), Int.fdiv_eq_ediv_of_nonneg _ (show (0 : Int) ≤ 256 by decide), kw_u8]
  iterate 3 (first | refine Res.ct (by omega) ?_ | refine Res.cf (by omega) ?_)
  refine Res.it ⟨by omega, by rw [size_len]; omega⟩ ?_
  refine Res.el (lget_len _ (by omega)) ?_
  refine Res.done ?_ rfl
  rw [lenB_eq _ 2 (by omega) (by omega) (by omega)]; rfl
theorem rLen35 (u : Int) (h1 : 17179869184 ≤ u) (h2 : u < 34359738368) : Run1 noO 249 [.int .u64 u] (.int .i64 35) := by
  refine ⟨60, ?_⟩
  rw [t_len]
  simp only [Int.fdiv_eq_ediv_of_nonneg _ (show (0 : Int) ≤ 4294967296 by decide), Int.fdiv_eq_ediv_of_nonneg _ (show (0 : Int) ≤ 65536 by decide), Int.fdiv_eq_ediv_of_nonneg _ (show (0 : Int) ≤ 256 by decide), kw_u8]
  iterate 3 (first | refine Res.ct (by omega) ?_ | refine Res.cf (by omega) ?_)
  refine Res.it ⟨by omega, by rw [size_len]; omega⟩ ?_
  refine Res.el (lget_len _ (by omega)) ?_
  refine Res.done ?_ rfl
  rw [lenB_eq _ 3 (by omega) (by omega) (by omega)]; rfl
theorem rLen36 (u : Int) (h1 : 34359738368 ≤ u) (h2 : u < 68719476736) : Run1 noO 249 [.int .u64 u] (.int .i64 36) := by
  refine ⟨60, ?_⟩
  rw [t_len]
  simp only [Int.fdiv_eq_ediv_of_nonneg _ (show (0 : Int) ≤ 4294967296 by decide), Int.fdiv_eq_ediv_of_nonneg _ (show (0 : Int) ≤ 65536 by decide), Int.fdiv_eq_ediv_of_nonneg _ (show (0 : Int) ≤ 256 by decide), kw_u8]
  iterate 3 (first | refine Res.ct (by omega) ?_ | refine Res.cf (by omega) ?_)
  refine Res.it ⟨by omega, by rw [size_len]; omega⟩ ?_
  refine Res.el (lget_len _ (by omega)) ?_
  refine Res.done ?_ rfl
  rw [lenB_eq _ 4 (by omega) (by omega) (by omega)]; rfl
theorem rLen37 (u : Int) (h1 : 68719476736 ≤ u) (h2 : u < 137438953472) : Run1 noO 249 [.int .u64 u] (.int .i64 37) := by
  refine ⟨60, ?_⟩
  rw [t_len]
  simp only [Int.fdiv_eq_ediv_of_nonneg _ (show (0 : Int) ≤ 4294967296 by decide), Int.fdiv_eq_ediv_of_nonneg _ (show (0 : Int) ≤ 65536 by decide), Int.fdiv_eq_ediv_of_nonneg _ (show (0 : Int) ≤ 256 by decide), kw_u8]
  iterate 3 (first | refine Res.ct (by omega) ?_ | refine Res.cf (by omega) ?_)
  refine Res.it ⟨by omega, by rw [size_len]; omega⟩ ?_
  refine Res.el (lget_len _ (by omega)) ?_
  refine Res.done ?_ rfl
  rw [lenB_eq _ 5 (by omega) (by omega) (by omega)]; rfl
theorem rLen38 (u : Int) (h1 : 137438953472 ≤ u) (h2 : u < 274877906944) : Run1 noO 249 [.int .u64 u] (.int .i64 38) := by
  refine ⟨60, ?_⟩
  rw [t_len]
  simp only [Int.fdiv_eq_ediv_of_nonneg _ (show (0 : Int) ≤ 4294967296 by decide), Int.fdiv_eq_ediv_of_nonneg _ (show (0 : Int) ≤ 65536 by decide), Int.fdiv_eq_ediv_of_nonneg _ (show (0 : Int) ≤ 256 by decide), kw_u8]
  iterate 3 (first | refine Res.ct (by omega) ?_ | refine Res.cf (by omega) ?_)
  refine Res.it ⟨by omega, by rw [size_len]; omega⟩ ?_
  refine Res.el (lget_len _ (by omega)) ?_
  refine Res.done ?_ rfl
  rw [lenB_eq _ 6 (by omega) (by omega) (by omega)]; rfl
theorem rLen39 (u : Int) (h1 : 274877906944 ≤ u) (h2 : u < 549755813888) : Run1 noO 249 [.int .u64 u] (.int .i64 39) := by
  refine ⟨60, ?_⟩
  rw [t_len]
  simp only [Int.fdiv_eq_ediv_of_nonneg _ (show (0 : Int) ≤ 4294967296 by decide), Int.fdiv_eq_ediv_of_nonneg _ (show (0 : Int) ≤ 65536 by decide), Int.fdiv_eq_ediv_of_nonneg _ (show (0 : Int) ≤ 256 by decide), kw_u8]
  iterate 3 (first | refine Res.ct (by omega) ?_ | refine Res.cf (by omega) ?_)
  refine Res.it ⟨by omega, by rw [size_len]; omega⟩ ?_
  refine Res.el (lget_len _ (by omega)) ?_
  refine Res.done ?_ rfl
  rw [lenB_eq _ 7 (by omega) (by omega) (by omega)]; rfl
theorem rLen40 (u : Int) (h1 : 549755813888 ≤ u) (h2 : u < 1099511627776) : Run1 noO 249 [.int .u64 u] (.int .i64 40) := by
  refine ⟨60, ?_⟩
  rw [t_len]
  simp only [Int.fdiv_eq_ediv_of_nonneg _ (show (0 : Int) ≤ 4294967296 by decide), Int.fdiv_eq_ediv_of_nonneg _ (show (0 : Int) ≤ 65536 by decide), Int.fdiv_eq_ediv_of_nonneg _ (show (0 : Int) ≤ 256 by decide), kw_u8]
  iterate 3 (first | refine Res.ct (by omega) ?_ | refine Res.cf (by omega) ?_)
  refine Res.it ⟨by omega, by rw [size_len]; omega⟩ ?_
  refine Res.el (lget_len _ (by omega)) ?_
  refine Res.done ?_ rfl
  rw [lenB_eq _ 8 (by omega) (by omega) (by omega)]; rfl
theorem rLen41 (u : Int) (h1 : 1099511627776 ≤ u) (h2 : u < 2199023255552) : Run1 noO 249 [.int .u64 u] (.int .i64 41) := by
  refine ⟨60, ?_⟩
  rw [t_len]
  simp only [Int.fdiv_eq_ediv_of_nonneg _ (show (0 : Int) ≤ 4294967296 by decide), Int.fdiv_eq_ediv_of_nonneg _ (show (0 : Int) ≤ 65536 by decide), Int.fdiv_eq_ediv_of_nonneg _ (show (0 : Int) ≤ 256 by decide), kw_u8]
  iterate 3 (first | refine Res.ct (by omega) ?_ | refine Res.cf (by omega) ?_)
  refine Res.it ⟨by omega, by rw [size_len]; omega⟩ ?_
  refine Res.el (lget_len _ (by omega)) ?_
  refine Res.done ?_ rfl
  rw [lenB_eq _ 1 (by omega) (by omega) (by omega)]; rfl
theorem rLen42 (u : Int) (h1 : 2199023255552 ≤ u) (h2 : u < 4398046511104) : Run1 noO 249 [.int .u64 u] (.int .i64 42) := by
  refine ⟨60, ?_⟩
  rw [t_len]
  simp only [Int.fdiv_eq_ediv_of_nonneg _ (show (0 : Int) ≤ 4294967296 by decide), Int.fdiv_eq_ediv_of_nonneg _ (show (0 : Int) ≤ 65536 by decide), Int.fdiv_eq_ediv_of_nonneg _ (show (0 : Int) ≤ 256 by decide), kw_u8]
  iterate 3 (first | refine Res.ct (by omega) ?_ | refine Res.cf (by omega) ?_)
  refine Res.it ⟨by omega, by rw [size_len]; omega⟩ ?_
  refine Res.el (lget_len _ (by omega)) ?_
  refine Res.done ?_ rfl
  rw [lenB_eq _ 2 (by omega) (by omega) (by omega)]; rfl
theorem rLen43 (u : Int) (h1 : 4398046511104 ≤ u) (h2 : u < 8796093022208) : Run1 noO 249 [.int .u64 u] (.int .i64 43) := by
  refine ⟨60, ?_⟩
  rw [t_len]
  simp only [Int.fdiv_eq_ediv_of_nonneg _ (show (0 : Int) ≤ 4294967296 by decide), Int.fdiv_eq_ediv_of_nonneg _ (show (0 : Int) ≤ 65536 by decide), Int.fdiv_eq_ediv_of_nonneg _ (show (0 : Int) ≤ 256 by decide), kw_u8]
  iterate 3 (first | refine Res.ct (by omega) ?_ | refine Res.cf (by omega) ?_)
  refine Res.it ⟨by omega, by rw [size_len]; omega⟩ ?_
  refine Res.el (lget_len _ (by omega)) ?_
  refine Res.done ?_ rfl
  rw [lenB_eq _ 3 (by omega) (by omega) (by omega)]; rfl
theorem rLen44 (u : Int) (h1 : 8796093022208 ≤ u) (h2 : u < 17592186044416) : Run1 noO 249 [.int .u64 u] (.int .i64 44) := by
  refine ⟨60, ?_⟩
  rw [t_len]
  simp only [Int.fdiv_eq_ediv_of_nonneg _ (show (0 : Int) ≤ 4294967296 by decide), Int.fdiv_eq_ediv_of_nonneg _ (show (0 : Int) ≤ 65536 by decide), Int.fdiv_eq_ediv_of_nonneg _ (show (0 : Int) ≤ 256 by decide), kw_u8]
  iterate 3 (first | refine Res.ct (by omega) ?_ | refine Res.cf (by omega) ?_)
  refine Res.it ⟨by omega, by rw [size_len]; omega⟩ ?_
  refine Res.el (lget_len _ (by omega)) ?_
  refine Res.done ?_ rfl
  rw [lenB_eq _ 4 (by omega) (by omega) (by omega)]; rfl
theorem rLen45 (u : Int) (h1 : 17592186044416 ≤ u) (h2 : u < 35184372088832) : Run1 noO 249 [.int .u64 u] (.int .i64 45) := by
  refine ⟨60, ?_⟩
  rw [t_len]
  simp only [Int.fdiv_eq_ediv_of_nonneg _ (show (0 : Int) ≤ 4294967296 by decide), Int.fdiv_eq_ediv_of_nonneg _ (show (0 : Int) ≤ 65536 by decide), Int.fdiv_eq_ediv_of_nonneg _ (show (0 : Int) ≤ 256 by decide), kw_u8]
  iterate 3 (first | refine Res.ct (by omega) ?_ | refine Res.cf (by omega) ?_)
  refine Res.it ⟨by omega, by rw [size_len]; omega⟩ ?_
  refine Res.el (lget_len _ (by omega)) ?_
  refine Res.done ?_ rfl
  rw [lenB_eq _ 5 (by omega) (by omega) (by omega)]; rfl
theorem rLen46 (u : Int) (h1 : 35184372088832 ≤ u) (h2 : u < 70368744177664) : Run1 noO 249 [.int .u64 u] (.int .i64 46) := by
  refine ⟨60, ?_⟩
  rw [t_len]
  simp only [Int.fdiv_eq_ediv_of_nonneg _ (show (0 : Int) ≤ 4294967296 by decide), Int.fdiv_eq_ediv_of_nonneg _ (show (0 : Int) ≤ 65536 by decide), Int.fdiv_eq_ediv_of_nonneg _ (show (0 : Int) ≤ 256 by decide), kw_u8]
  iterate 3 (first | refine Res.ct (by omega) ?_ | refine Res.cf (by omega) ?_)
  refine Res.it ⟨by omega, by rw [size_len]; omega⟩ ?_
  refine Res.el (lget_len _ (by omega)) ?_
  refine Res.done ?_ rfl
  rw [lenB_eq _ 6 (by omega) (by omega) (by omega)]; rfl
theorem rLen47 (u : Int) (h1 : 70368744177664 ≤ u) (h2 : u < 140737488355328) : Run1 noO 249 [.int .u64 u] (.int .i64 47) := by
  refine ⟨60, ?_⟩
  rw [t_len]
  simp only [Int.fdiv_eq_ediv_of_nonneg _ (show (0 : Int) ≤ 4294967296 by decide), Int.fdiv_eq_ediv_of_nonneg _ (show (0 : Int) ≤ 65536 by decide), Int.fdiv_eq_ediv_of_nonneg _ (show (0 : Int) ≤ 256 by decide), kw_u8]
  iterate 3 (first | refine Res.ct (by omega) ?_ | refine Res.cf (by omega) ?_)
  refine Res.it ⟨by omega, by rw [size_len]; omega⟩ ?_
  refine Res.el (lget_len _ (by omega)) ?_
  refine Res.done ?_ rfl
  rw [lenB_eq _ 7 (by omega) (by omega) (by omega)]; rfl
theorem rLen48 (u : Int) (h1 : 140737488355328 ≤ u) (h2 : u < 281474976710656) : Run1 noO 249 [.int .u64 u] (.int .i64 48) := by
  refine ⟨60, ?_⟩
  rw [t_len]
  simp only [Int.fdiv_eq_ediv_of_nonneg _ (show (0 : Int) ≤ 4294967296 by decide), Int.fdiv_eq_ediv_of_nonneg _ (show (0 : Int) ≤ 65536 by decide), Int.fdiv_eq_ediv_of_nonneg _ (show (0 : Int) ≤ 256 by decide), kw_u8]
  iterate 3 (first | refine Res.ct (by omega) ?_ | refine Res.cf (by omega) ?_)
  refine Res.it ⟨by omega, by rw [size_len]; omega⟩ ?_
  refine Res.el (lget_len _ (by omega)) ?_
  refine Res.done ?_ rfl
  rw [lenB_eq _ 8 (by omega) (by omega) (by omega)]; rfl
theorem rLen49 (u : Int) (h1 : 281474976710656 ≤ u) (h2 : u < 562949953421312) : Run1 noO 249 [.int .u64 u] (.int .i64 49) := by
  refine ⟨60, ?_⟩
  rw [t_len]
  simp only [Int.fdiv_eq_ediv_of_nonneg _ (show (0 : Int) ≤ 4294967296 by decide), Int.fdiv_eq_ediv_of_nonneg _ (show (0 : Int) ≤ 65536 by decide), Int.fdiv_eq_ediv_of_nonneg _ (show (0 : Int) ≤ 256 by decide), kw_u8]
  iterate 3 (first | refine Res.ct (by omega) ?_ | refine Res.cf (by omega) ?_)
  refine Res.it ⟨by omega, by rw [size_len]; omega⟩ ?_
  refine Res.el (lget_len _ (by omega)) ?_
  refine Res.done ?_ rfl
  rw [lenB_eq _ 1 (by omega) (by omega) (by omega)]; rfl
theorem rLen50 (u : Int) (h1 : 562949953421312 ≤ u) (h2 : u < 1125899906842624) : Run1 noO 249 [.int .u64 u] (.int .i64 50) := by
  refine ⟨60, ?_⟩
  rw [t_len]
  simp only [Int.fdiv_eq_ediv_of_nonneg _ (show (0 : Int) ≤ 4294967296 by decide), Int.fdiv_eq_ediv_of_nonneg _ (show (0 : Int) ≤ 65536 by decide), Int.fdiv_eq_ediv_of_nonneg _ (show (0 : Int) ≤ 256 by decide), kw_u8]
  iterate 3 (first | refine Res.ct (by omega) ?_ | refine Res.cf (by omega) ?_)
  refine Res.it ⟨by omega, by rw [size_len]; omega⟩ ?_
  refine Res.el (lget_len _ (by omega)) ?_
  refine Res.done ?_ rfl
  rw [lenB_eq _ 2 (by omega) (by omega) (by omega)]; rfl
theorem rLen51 (u : Int) (h1 : 1125899906842624 ≤ u) (h2 : u < 2251799813685248) : Run1 noO 249 [.int .u64 u] (.int .i64 51) := by
  refine ⟨60, ?_⟩
  rw [t_len]
  simp only [Int.fdiv_eq_ediv_of_nonneg _ (show (0 : Int) ≤ 4294967296 by decide), Int.fdiv_eq_ediv_of_nonneg _ (show (0 : Int) ≤ 65536 by decide), Int.fdiv_eq_ediv_of_nonneg _ (show (0 : Int) ≤ 256 by decide), kw_u8]
  iterate 3 (first | refine Res.ct (by omega) ?_ | refine Res.cf (by omega) ?_)
  refine Res.it ⟨by omega, by rw [size_len]; omega⟩ ?_
  refine Res.el (lget_len _ (by omega)) ?_
  refine Res.done ?_ rfl
  rw [lenB_eq _ 3 (by omega) (by omega) (by omega)]; rfl
theorem rLen52 (u : Int) (h1 : 2251799813685248 ≤ u) (h2 : u < 4503599627370496) : Run1 noO 249 [.int .u64 u] (.int .i64 52) := by
  refine ⟨60, ?_⟩
  rw [t_len]
  simp only [Int.fdiv_eq_ediv_of_nonneg _ (show (0 : Int) ≤ 4294967296 by decide), Int.fdiv_eq_ediv_of_nonneg _ (show (0 : Int) ≤ 65536 by decide), Int.fdiv_eq_ediv_of_nonneg _ (show (0 : Int) ≤ 256 by decide), kw_u8]
  iterate 3 (first | refine Res.ct (by omega) ?_ | refine Res.cf (by omega) ?_)
  refine Res.it ⟨by omega, by rw [size_len]; omega⟩ ?_
  refine Res.el (lget_len _ (by omega)) ?_
  refine Res.done ?_ rfl
  rw [lenB_eq _ 4 (by omega) (by omega) (by omega)]; rfl
theorem rLen53 (u : Int) (h1 : 4503599627370496 ≤ u) (h2 : u < 9007199254740992) : Run1 noO 249 [.int .u64 u] (.int .i64 53) := by
  refine ⟨60, ?_⟩
  rw [t_len]
  simp only [Int.fdiv_eq_ediv_of_nonneg _ (show (0 : Int) ≤ 4294967296 by decide), Int.fdiv_eq_ediv_of_nonneg _ (show (0 : Int) ≤ 65536 by decide), Int.fdiv_eq_ediv_of_nonneg _ (show (0 : Int) ≤ 256 by decide), kw_u8]
  iterate 3 (first | refine Res.ct (by omega) ?_ | refine Res.cf (by omega) ?_)
  refine Res.it ⟨by omega, by rw [size_len]; omega⟩ ?_
  refine Res.el (lget_len _ (by omega)) ?_
  refine Res.done ?_ rfl
  rw [lenB_eq _ 5 (by omega) (by omega) (by omega)]; rfl
theorem rLen54 (u : Int) (h1 : 9007199254740992 ≤ u) (h2 : u < 18014398509481984) : Run1 noO 249 [.int .u64 u] (.int .i64 54) := by
  refine ⟨60, ?_⟩
  rw [t_len]
  simp only [Int.fdiv_eq_ediv_of_nonneg _ (show (0 : Int) ≤ 4294967296 by decide), Int.fdiv_eq_ediv_of_nonneg _ (show (0 : Int) ≤ 65536 by decide), Int.fdiv_eq_ediv_of_nonneg _ (show (0 : Int) ≤ 256 by decide), kw_u8]
  iterate 3 (first | refine Res.ct (by omega) ?_ | refine Res.cf (by omega) ?_)
  refine Res.it ⟨by omega, by rw [size_len]; omega⟩ ?_
  refine Res.el (lget_len _ (by omega)) ?_
  refine Res.done ?_ rfl
  rw [lenB_eq _ 6 (by omega) (by omega) (by omega)]; rfl
theorem rLen55 (u : Int) (h1 : 18014398509481984 ≤ u) (h2 : u < 36028797018963968) : Run1 noO 249 [.int .u64 u] (.int .i64 55) := by
  refine ⟨60, ?_⟩
  rw [t_len]
  simp only [Int.fdiv_eq_ediv_of_nonneg _ (show (0 : Int) ≤ 4294967296 by decide), Int.fdiv_eq_ediv_of_nonneg _ (show (0 : Int) ≤ 65536 by decide), Int.fdiv_eq_ediv_of_nonneg _ (show (0 : Int) ≤ 256 by decide), kw_u8]
  iterate 3 (first | refine Res.ct (by omega) ?_ | refine Res.cf (by omega) ?_)
  refine Res.it ⟨by omega, by rw [size_len]; omega⟩ ?_
  refine Res.el (lget_len _ (by omega)) ?_
  refine Res.done ?_ rfl
  rw [lenB_eq _ 7 (by omega) (by omega) (by omega)]; rfl
theorem rLen56 (u : Int) (h1 : 36028797018963968 ≤ u) (h2 : u < 72057594037927936) : Run1 noO 249 [.int .u64 u] (.int .i64 56) := by
  refine ⟨60, ?_⟩
  rw [t_len]
  simp only [Int.fdiv_eq_ediv_of_nonneg _ (show (0 : Int) ≤ 4294967296 by decide), Int.fdiv_eq_ediv_of_nonneg _ (show (0 : Int) ≤ 65536 by decide), Int.fdiv_eq_ediv_of_nonneg _ (show (0 : Int) ≤ 256 by decide), kw_u8]
  iterate 3 (first | refine Res.ct (by omega) ?_ | refine Res.cf (by omega) ?_)
  refine Res.it ⟨by omega, by rw [size_len]; omega⟩ ?_
  refine Res.el (lget_len _ (by omega)) ?_
  refine Res.done ?_ rfl
  rw [lenB_eq _ 8 (by omega) (by omega) (by omega)]; rfl
theorem rLen57 (u : Int) (h1 : 72057594037927936 ≤ u) (h2 : u < 144115188075855872) : Run1 noO 249 [.int .u64 u] (.int .i64 57) := by
  refine ⟨60, ?_⟩
  rw [t_len]
  simp only [Int.fdiv_eq_ediv_of_nonneg _ (show (0 : Int) ≤ 4294967296 by decide), Int.fdiv_eq_ediv_of_nonneg _ (show (0 : Int) ≤ 65536 by decide), Int.fdiv_eq_ediv_of_nonneg _ (show (0 : Int) ≤ 256 by decide), kw_u8]
  iterate 3 (first | refine Res.ct (by omega) ?_ | refine Res.cf (by omega) ?_)
  refine Res.it ⟨by omega, by rw [size_len]; omega⟩ ?_
  refine Res.el (lget_len _ (by omega)) ?_
  refine Res.done ?_ rfl
  rw [lenB_eq _ 1 (by omega) (by omega) (by omega)]; rfl
theorem rLen58 (u : Int) (h1 : 144115188075855872 ≤ u) (h2 : u < 288230376151711744) : Run1 noO 249 [.int .u64 u] (.int .i64 58) := by
  refine ⟨60, ?_⟩
  rw [t_len]
  simp only [Int.fdiv_eq_ediv_of_nonneg _ (show (0 : Int) ≤ 4294967296 by decide), Int.fdiv_eq_ediv_of_nonneg _ (show (0 : Int) ≤ 65536 by decide), Int.fdiv_eq_ediv_of_nonneg _ (show (0 : Int) ≤ 256 by decide), kw_u8]
  iterate 3 (first | refine Res.ct (by omega) ?_ | refine Res.cf (by omega) ?_)
  refine Res.it ⟨by omega, by rw [size_len]; omega⟩ ?_
  refine Res.el (lget_len _ (by omega)) ?_
  refine Res.done ?_ rfl
  rw [lenB_eq _ 2 (by omega) (by omega) (by omega)]; rfl
theorem rLen59 (u : Int) (h1 : 288230376151711744 ≤ u) (h2 : u < 576460752303423488) : Run1 noO 249 [.int .u64 u] (.int .i64 59) := by
  refine ⟨60, ?_⟩
  rw [t_len]
  simp only [Int.fdiv_eq_ediv_of_nonneg _ (show (0 : Int) ≤ 4294967296 by decide), Int.fdiv_eq_ediv_of_nonneg _ (show (0 : Int) ≤ 65536 by decide), Int.fdiv_eq_ediv_of_nonneg _ (show (0 : Int) ≤ 256 by decide), kw_u8]
  iterate 3 (first | refine Res.ct (by omega) ?_ | refine Res.cf (by omega) ?_)
  refine Res.it ⟨by omega, by rw [size_len]; omega⟩ ?_
  refine Res.el (lget_len _ (by omega)) ?_
  refine Res.done ?_ rfl
  rw [lenB_eq _ 3 (by omega) (by omega) (by omega)]; rfl
theorem rLen60 (u : Int) (h1 : 576460752303423488 ≤ u) (h2 : u < 1152921504606846976) : Run1 noO 249 [.int .u64 u] (.int .i64 60) := by
  refine ⟨60, ?_⟩
  rw [t_len]
  simp only [Int.fdiv_eq_ediv_of_nonneg _ (show (0 : Int) ≤ 4294967296 by decide), Int.fdiv_eq_ediv_of_nonneg _ (show (0 : Int) ≤ 65536 by decide), Int.fdiv_eq_ediv_of_nonneg _ (show (0 : Int) ≤ 256 by decide), kw_u8]
  iterate 3 (first | refine Res.ct (by omega) ?_ | refine Res.cf (by omega) ?_)
  refine Res.it ⟨by omega, by rw [size_len]; omega⟩ ?_
  refine Res.el (lget_len _ (by omega)) ?_
  refine Res.done ?_ rfl
  rw [lenB_eq _ 4 (by omega) (by omega) (by omega)]; rfl
theorem rLen61 (u : Int) (h1 : 1152921504606846976 ≤ u) (h2 : u < 2305843009213693952) : Run1 noO 249 [.int .u64 u] (.int .i64 61) := by
  refine ⟨60, ?_⟩
  rw [t_len]
  simp only [Int.fdiv_eq_ediv_of_nonneg _ (show (0 : Int) ≤ 4294967296 by decide), Int.fdiv_eq_ediv_of_nonneg _ (show (0 : Int) ≤ 65536 by decide), Int.fdiv_eq_ediv_of_nonneg _ (show (0 : Int) ≤ 256 by decide), kw_u8]
  iterate 3 (first | refine Res.ct (by omega) ?_ | refine Res.cf (by omega) ?_)
  refine Res.it ⟨by omega, by rw [size_len]; omega⟩ ?_
  refine Res.el (lget_len _ (by omega)) ?_
  refine Res.done ?_ rfl
  rw [lenB_eq _ 5 (by omega) (by omega) (by omega)]; rfl
theorem rLen62 (u : Int) (h1 : 2305843009213693952 ≤ u) (h2 : u < 4611686018427387904) : Run1 noO 249 [.int .u64 u] (.int .i64 62) := by
  refine ⟨60, ?_⟩
  rw [t_len]
  simp only [Int.fdiv_eq_ediv_of_nonneg _ (show (0 : Int) ≤ 4294967296 by decide), Int.fdiv_eq_ediv_of_nonneg _ (show (0 : Int) ≤ 65536 by decide), Int.fdiv_eq_ediv_of_nonneg _ (show (0 : Int) ≤ 256 by decide), kw_u8]
  iterate 3 (first | refine Res.ct (by omega) ?_ | refine Res.cf (by omega) ?_)
  refine Res.it ⟨by omega, by rw [size_len]; omega⟩ ?_
  refine Res.el (lget_len _ (by omega)) ?_
  refine Res.done ?_ rfl
  rw [lenB_eq _ 6 (by omega) (by omega) (by omega)]; rfl
theorem rLen63 (u : Int) (h1 : 4611686018427387904 ≤ u) (h2 : u < 9223372036854775808) : Run1 noO 249 [.int .u64 u] (.int .i64 63) := by
  refine ⟨60, ?_⟩
  rw [t_len]
  simp only [Int.fdiv_eq_ediv_of_nonneg _ (show (0 : Int) ≤ 4294967296 by decide), Int.fdiv_eq_ediv_of_nonneg _ (show (0 : Int) ≤ 65536 by decide), Int.fdiv_eq_ediv_of_nonneg _ (show (0 : Int) ≤ 256 by decide), kw_u8]
  iterate 3 (first | refine Res.ct (by omega) ?_ | refine Res.cf (by omega) ?_)
  refine Res.it ⟨by omega, by rw [size_len]; omega⟩ ?_
  refine Res.el (lget_len _ (by omega)) ?_
  refine Res.done ?_ rfl
  rw [lenB_eq _ 7 (by omega) (by omega) (by omega)]; rfl
theorem rLen64 (u : Int) (h1 : 9223372036854775808 ≤ u) (h2 : u < 18446744073709551616) : Run1 noO 249 [.int .u64 u] (.int .i64 64) := by
  refine ⟨60, ?_⟩
  rw [t_len]
  simp only [Int.fdiv_eq_ediv_of_nonneg _ (show (0 : Int) ≤ 4294967296 by decide), Int.fdiv_eq_ediv_of_nonneg _ (show (0 : Int) ≤ 65536 by decide), Int.fdiv_eq_ediv_of_nonneg _ (show (0 : Int) ≤ 256 by decide), kw_u8]
  iterate 3 (first | refine Res.ct (by omega) ?_ | refine Res.cf (by omega) ?_)
  refine Res.it ⟨by omega, by rw [size_len]; omega⟩ ?_
  refine Res.el (lget_len _ (by omega)) ?_
  refine Res.done ?_ rfl
  rw [lenB_eq _ 8 (by omega) (by omega) (by omega)]; rfl
theorem okLen_of (L : Nat) (hr : ∀ u : Int, (2 : Int) ^ L ≤ 2 * u → u < (2 : Int) ^ L → Run1 noO 249 [.int .u64 u] (.int .i64 (L : Nat))) : OrcOk PP tab (oLen L) := by
  refine okOrc noO_ok fun args v h => ?_
  unfold mLen at h
  split at h
  · rename_i u
    simp only [Option.some.injEq, Prod.mk.injEq, Bool.and_eq_true, decide_eq_true_eq] at h
    obtain ⟨⟨h1, h2⟩, rfl⟩ := h
    exact ⟨rfl, rfl, hr u h1 h2⟩
  · cases h
theorem okLen1 : OrcOk PP tab (oLen 1) := okLen_of 1 fun u h1 h2 => rLen1 u (by omega) (by omega)
theorem okLen2 : OrcOk PP tab (oLen 2) := okLen_of 2 fun u h1 h2 => rLen2 u (by omega) (by omega)
theorem okLen3 : OrcOk PP tab (oLen 3) := okLen_of 3 fun u h1 h2 => rLen3 u (by omega) (by omega)
theorem okLen4 : OrcOk PP tab (oLen 4) := okLen_of 4 fun u h1 h2 => rLen4 u (by omega) (by omega)
theorem okLen5 : OrcOk PP tab (oLen 5) := okLen_of 5 fun u h1 h2 => rLen5 u (by omega) (by omega)
theorem okLen6 : OrcOk PP tab (oLen 6) := okLen_of 6 fun u h1 h2 => rLen6 u (by omega) (by omega)
theorem okLen7 : OrcOk PP tab (oLen 7) := okLen_of 7 fun u h1 h2 => rLen7 u (by omega) (by omega)
theorem okLen8 : OrcOk PP tab (oLen 8) := okLen_of 8 fun u h1 h2 => rLen8 u (by omega) (by omega)
theorem okLen9 : OrcOk PP tab (oLen 9) := okLen_of 9 fun u h1 h2 => rLen9 u (by omega) (by omega)
theorem okLen10 : OrcOk PP tab (oLen 10) := okLen_of 10 fun u h1 h2 => rLen10 u (by omega) (by omega)
theorem okLen11 : OrcOk PP tab (oLen 11) := okLen_of 11 fun u h1 h2 => rLen11 u (by omega) (by omega)
theorem okLen12 : OrcOk PP tab (oLen 12) := okLen_of 12 fun u h1 h2 => rLen12 u (by omega) (by omega)
theorem okLen13 : OrcOk PP tab (oLen 13) := okLen_of 13 fun u h1 h2 => rLen13 u (by omega) (by omega)
theorem okLen14 : OrcOk PP tab (oLen 14) := okLen_of 14 fun u h1 h2 => rLen14 u (by omega) (by omega)
theorem okLen15 : OrcOk PP tab (oLen 15) := okLen_of 15 fun u h1 h2 => rLen15 u (by omega) (by omega)
theorem okLen16 : OrcOk PP tab (oLen 16) := okLen_of 16 fun u h1 h2 => rLen16 u (by omega) (by omega)
theorem okLen17 : OrcOk PP tab (oLen 17) := okLen_of 17 fun u h1 h2 => rLen17 u (by omega) (by omega)
theorem okLen18 : OrcOk PP tab (oLen 18) := okLen_of 18 fun u h1 h2 => rLen18 u (by omega) (by omega)
theorem okLen19 : OrcOk PP tab (oLen 19) := okLen_of 19 fun u h1 h2 => rLen19 u (by omega) (by omega)
theorem okLen20 : OrcOk PP tab (oLen 20) := okLen_of 20 fun u h1 h2 => rLen20 u (by omega) (by omega)
theorem okLen21 : OrcOk PP tab (oLen 21) := okLen_of 21 fun u h1 h2 => rLen21 u (by omega) (by omega)
theorem okLen22 : OrcOk PP tab (oLen 22) := okLen_of 22 fun u h1 h2 => rLen22 u (by omega) (by omega)
theorem okLen23 : OrcOk PP tab (oLen 23) := okLen_of 23 fun u h1 h2 => rLen23 u (by omega) (by omega)
theorem okLen24 : OrcOk PP tab (oLen 24) := okLen_of 24 fun u h1 h2 => rLen24 u (by omega) (by omega)
theorem okLen25 : OrcOk PP tab (oLen 25) := okLen_of 25 fun u h1 h2 => rLen25 u (by omega) (by omega)
theorem okLen26 : OrcOk PP tab (oLen 26) := okLen_of 26 fun u h1 h2 => rLen26 u (by omega) (by omega)
theorem okLen27 : OrcOk PP tab (oLen 27) := okLen_of 27 fun u h1 h2 => rLen27 u (by omega) (by omega)
theorem okLen28 : OrcOk PP tab (oLen 28) := okLen_of 28 fun u h1 h2 => rLen28 u (by omega) (by omega)
theorem okLen29 : OrcOk PP tab (oLen 29) := okLen_of 29 fun u h1 h2 => rLen29 u (by omega) (by omega)
theorem okLen30 : OrcOk PP tab (oLen 30) := okLen_of 30 fun u h1 h2 => rLen30 u (by omega) (by omega)
theorem okLen31 : OrcOk PP tab (oLen 31) := okLen_of 31 fun u h1 h2 => rLen31 u (by omega) (by omega)
theorem okLen32 : OrcOk PP tab (oLen 32) := okLen_of 32 fun u h1 h2 => rLen32 u (by omega) (by omega)
theorem okLen33 : OrcOk PP tab (oLen 33) := okLen_of 33 fun u h1 h2 => rLen33 u (by omega) (by omega)
theorem okLen34 : OrcOk PP tab (oLen 34) := okLen_of 34 fun u h1 h2 => rLen34 u (by omega) (by omega)
theorem okLen35 : OrcOk PP tab (oLen 35) := okLen_of 35 fun u h1 h2 => rLen35 u (by omega) (by omega)
theorem okLen36 : OrcOk PP tab (oLen 36) := okLen_of 36 fun u h1 h2 => rLen36 u (by omega) (by omega)
theorem okLen37 : OrcOk PP tab (oLen 37) := okLen_of 37 fun u h1 h2 => rLen37 u (by omega) (by omega)
theorem okLen38 : OrcOk PP tab (oLen 38) := okLen_of 38 fun u h1 h2 => rLen38 u (by omega) (by omega)
theorem okLen39 : OrcOk PP tab (oLen 39) := okLen_of 39 fun u h1 h2 => rLen39 u (by omega) (by omega)
theorem okLen40 : OrcOk PP tab (oLen 40) := okLen_of 40 fun u h1 h2 => rLen40 u (by omega) (by omega)
theorem okLen41 : OrcOk PP tab (oLen 41) := okLen_of 41 fun u h1 h2 => rLen41 u (by omega) (by omega)
theorem okLen42 : OrcOk PP tab (oLen 42) := okLen_of 42 fun u h1 h2 => rLen42 u (by omega) (by omega)
theorem okLen43 : OrcOk PP tab (oLen 43) := okLen_of 43 fun u h1 h2 => rLen43 u (by omega) (by omega)
theorem okLen44 : OrcOk PP tab (oLen 44) := okLen_of 44 fun u h1 h2 => rLen44 u (by omega) (by omega)
theorem okLen45 : OrcOk PP tab (oLen 45) := okLen_of 45 fun u h1 h2 => rLen45 u (by omega) (by omega)
theorem okLen46 : OrcOk PP tab (oLen 46) := okLen_of 46 fun u h1 h2 => rLen46 u (by omega) (by omega)
theorem okLen47 : OrcOk PP tab (oLen 47) := okLen_of 47 fun u h1 h2 => rLen47 u (by omega) (by omega)
theorem okLen48 : OrcOk PP tab (oLen 48) := okLen_of 48 fun u h1 h2 => rLen48 u (by omega) (by omega)
theorem okLen49 : OrcOk PP tab (oLen 49) := okLen_of 49 fun u h1 h2 => rLen49 u (by omega) (by omega)
theorem okLen50 : OrcOk PP tab (oLen 50) := okLen_of 50 fun u h1 h2 => rLen50 u (by omega) (by omega)
theorem okLen51 : OrcOk PP tab (oLen 51) := okLen_of 51 fun u h1 h2 => rLen51 u (by omega) (by omega)
theorem okLen52 : OrcOk PP tab (oLen 52) := okLen_of 52 fun u h1 h2 => rLen52 u (by omega) (by omega)
theorem okLen53 : OrcOk PP tab (oLen 53) := okLen_of 53 fun u h1 h2 => rLen53 u (by omega) (by omega)
theorem okLen54 : OrcOk PP tab (oLen 54) := okLen_of 54 fun u h1 h2 => rLen54 u (by omega) (by omega)
theorem okLen55 : OrcOk PP tab (oLen 55) := okLen_of 55 fun u h1 h2 => rLen55 u (by omega) (by omega)
theorem okLen56 : OrcOk PP tab (oLen 56) := okLen_of 56 fun u h1 h2 => rLen56 u (by omega) (by omega)
theorem okLen57 : OrcOk PP tab (oLen 57) := okLen_of 57 fun u h1 h2 => rLen57 u (by omega) (by omega)
theorem okLen58 : OrcOk PP tab (oLen 58) := okLen_of 58 fun u h1 h2 => rLen58 u (by omega) (by omega)
theorem okLen59 : OrcOk PP tab (oLen 59) := okLen_of 59 fun u h1 h2 => rLen59 u (by omega) (by omega)
theorem okLen60 : OrcOk PP tab (oLen 60) := okLen_of 60 fun u h1 h2 => rLen60 u (by omega) (by omega)
theorem okLen61 : OrcOk PP tab (oLen 61) := okLen_of 61 fun u h1 h2 => rLen61 u (by omega) (by omega)
theorem okLen62 : OrcOk PP tab (oLen 62) := okLen_of 62 fun u h1 h2 => rLen62 u (by omega) (by omega)
theorem okLen63 : OrcOk PP tab (oLen 63) := okLen_of 63 fun u h1 h2 => rLen63 u (by omega) (by omega)
theorem okLen64 : OrcOk PP tab (oLen 64) := okLen_of 64 fun u h1 h2 => rLen64 u (by omega) (by omega)
theorem rND1 (u : Int) (h1 : 1 ≤ u) (h2 : u < 10) : ∃ O, OrcOk PP tab O ∧ Run1 O 188 [.int .u64 u] (.int .i64 1) := by
  by_cases c1 : u < 2
  · refine ⟨oLen 1, okLen1, 60, ?_⟩
    rw [t_nd1]
    refine Res.andt ⟨by omega, by omega⟩ ?_
    first | exact Res.ct (by omega) (Res.done rfl rfl) | exact Res.cf (by omega) (Res.done rfl rfl)
  by_cases c2 : u < 4
  · refine ⟨oLen 2, okLen2, 60, ?_⟩
    rw [t_nd2]
    refine Res.andt ⟨by omega, by omega⟩ ?_
    first | exact Res.ct (by omega) (Res.done rfl rfl) | exact Res.cf (by omega) (Res.done rfl rfl)
  by_cases c3 : u < 8
  · refine ⟨oLen 3, okLen3, 60, ?_⟩
    rw [t_nd3]
    refine Res.andt ⟨by omega, by omega⟩ ?_
    first | exact Res.ct (by omega) (Res.done rfl rfl) | exact Res.cf (by omega) (Res.done rfl rfl)
  refine ⟨oLen 4, okLen4, 60, ?_⟩
  rw [t_nd4]
  refine Res.andt ⟨by omega, by omega⟩ ?_
  first | exact Res.ct (by omega) (Res.done rfl rfl) | exact Res.cf (by omega) (Res.done rfl rfl)
theorem rND2 (u : Int) (h1 : 10 ≤ u) (h2 : u < 100) : ∃ O, OrcOk PP tab O ∧ Run1 O 188 [.int .u64 u] (.int .i64 2) := by
  by_cases c4 : u < 16
  · refine ⟨oLen 4, okLen4, 60, ?_⟩
    rw [t_nd4]
    refine Res.andt ⟨by omega, by omega⟩ ?_
    first | exact Res.ct (by omega) (Res.done rfl rfl) | exact Res.cf (by omega) (Res.done rfl rfl)
  by_cases c5 : u < 32
  · refine ⟨oLen 5, okLen5, 60, ?_⟩
    rw [t_nd5]
    refine Res.andt ⟨by omega, by omega⟩ ?_
    first | exact Res.ct (by omega) (Res.done rfl rfl) | exact Res.cf (by omega) (Res.done rfl rfl)
  by_cases c6 : u < 64
  · refine ⟨oLen 6, okLen6, 60, ?_⟩
    rw [t_nd6]
    refine Res.andt ⟨by omega, by omega⟩ ?_
    first | exact Res.ct (by omega) (Res.done rfl rfl) | exact Res.cf (by omega) (Res.done rfl rfl)
  refine ⟨oLen 7, okLen7, 60, ?_⟩
  rw [t_nd7]
  refine Res.andt ⟨by omega, by omega⟩ ?_
  first | exact Res.ct (by omega) (Res.done rfl rfl) | exact Res.cf (by omega) (Res.done rfl rfl)
theorem rND3 (u : Int) (h1 : 100 ≤ u) (h2 : u < 1000) : ∃ O, OrcOk PP tab O ∧ Run1 O 188 [.int .u64 u] (.int .i64 3) := by
  by_cases c7 : u < 128
  · refine ⟨oLen 7, okLen7, 60, ?_⟩
    rw [t_nd7]
    refine Res.andt ⟨by omega, by omega⟩ ?_
    first | exact Res.ct (by omega) (Res.done rfl rfl) | exact Res.cf (by omega) (Res.done rfl rfl)
  by_cases c8 : u < 256
  · refine ⟨oLen 8, okLen8, 60, ?_⟩
    rw [t_nd8]
    refine Res.andt ⟨by omega, by omega⟩ ?_
    first | exact Res.ct (by omega) (Res.done rfl rfl) | exact Res.cf (by omega) (Res.done rfl rfl)
  by_cases c9 : u < 512
  · refine ⟨oLen 9, okLen9, 60, ?_⟩
    rw [t_nd9]
    refine Res.andt ⟨by omega, by omega⟩ ?_
    first | exact Res.ct (by omega) (Res.done rfl rfl) | exact Res.cf (by omega) (Res.done rfl rfl)
  refine ⟨oLen 10, okLen10, 60, ?_⟩
  rw [t_nd10]
  refine Res.andt ⟨by omega, by omega⟩ ?_
  first | exact Res.ct (by omega) (Res.done rfl rfl) | exact Res.cf (by omega) (Res.done rfl rfl)
theorem rND4 (u : Int) (h1 : 1000 ≤ u) (h2 : u < 10000) : ∃ O, OrcOk PP tab O ∧ Run1 O 188 [.int .u64 u] (.int .i64 4) := by
  by_cases c10 : u < 1024
  · refine ⟨oLen 10, okLen10, 60, ?_⟩
    rw [t_nd10]
    refine Res.andt ⟨by omega, by omega⟩ ?_
    first | exact Res.ct (by omega) (Res.done rfl rfl) | exact Res.cf (by omega) (Res.done rfl rfl)
  by_cases c11 : u < 2048
  · refine ⟨oLen 11, okLen11, 60, ?_⟩
    rw [t_nd11]
    refine Res.andt ⟨by omega, by omega⟩ ?_
    first | exact Res.ct (by omega) (Res.done rfl rfl) | exact Res.cf (by omega) (Res.done rfl rfl)
  by_cases c12 : u < 4096
  · refine ⟨oLen 12, okLen12, 60, ?_⟩
    rw [t_nd12]
    refine Res.andt ⟨by omega, by omega⟩ ?_
    first | exact Res.ct (by omega) (Res.done rfl rfl) | exact Res.cf (by omega) (Res.done rfl rfl)
  by_cases c13 : u < 8192
  · refine ⟨oLen 13, okLen13, 60, ?_⟩
    rw [t_nd13]
    refine Res.andt ⟨by omega, by omega⟩ ?_
    first | exact Res.ct (by omega) (Res.done rfl rfl) | exact Res.cf (by omega) (Res.done rfl rfl)
  refine ⟨oLen 14, okLen14, 60, ?_⟩
  rw [t_nd14]
  refine Res.andt ⟨by omega, by omega⟩ ?_
  first | exact Res.ct (by omega) (Res.done rfl rfl) | exact Res.cf (by omega) (Res.done rfl rfl)
theorem rND5 (u : Int) (h1 : 10000 ≤ u) (h2 : u < 100000) : ∃ O, OrcOk PP tab O ∧ Run1 O 188 [.int .u64 u] (.int .i64 5) := by
  by_cases c14 : u < 16384
  · refine ⟨oLen 14, okLen14, 60, ?_⟩
    rw [t_nd14]
    refine Res.andt ⟨by omega, by omega⟩ ?_
    first | exact Res.ct (by omega) (Res.done rfl rfl) | exact Res.cf (by omega) (Res.done rfl rfl)
  by_cases c15 : u < 32768
  · refine ⟨oLen 15, okLen15, 60, ?_⟩
    rw [t_nd15]
    refine Res.andt ⟨by omega, by omega⟩ ?_
    first | exact Res.ct (by omega) (Res.done rfl rfl) | exact Res.cf (by omega) (Res.done rfl rfl)
  by_cases c16 : u < 65536
  · refine ⟨oLen 16, okLen16, 60, ?_⟩
    rw [t_nd16]
    refine Res.andt ⟨by omega, by omega⟩ ?_
    first | exact Res.ct (by omega) (Res.done rfl rfl) | exact Res.cf (by omega) (Res.done rfl rfl)
  refine ⟨oLen 17, okLen17, 60, ?_⟩
  rw [t_nd17]
  refine Res.andt ⟨by omega, by omega⟩ ?_
  first | exact Res.ct (by omega) (Res.done rfl rfl) | exact Res.cf (by omega) (Res.done rfl rfl)
theorem rND6 (u : Int) (h1 : 100000 ≤ u) (h2 : u < 1000000) : ∃ O, OrcOk PP tab O ∧ Run1 O 188 [.int .u64 u] (.int .i64 6) := by
  by_cases c17 : u < 131072
  · refine ⟨oLen 17, okLen17, 60, ?_⟩
    rw [t_nd17]
    refine Res.andt ⟨by omega, by omega⟩ ?_
    first | exact Res.ct (by omega) (Res.done rfl rfl) | exact Res.cf (by omega) (Res.done rfl rfl)
  by_cases c18 : u < 262144
  · refine ⟨oLen 18, okLen18, 60, ?_⟩
    rw [t_nd18]
    refine Res.andt ⟨by omega, by omega⟩ ?_
    first | exact Res.ct (by omega) (Res.done rfl rfl) | exact Res.cf (by omega) (Res.done rfl rfl)
  by_cases c19 : u < 524288
  · refine ⟨oLen 19, okLen19, 60, ?_⟩
    rw [t_nd19]
    refine Res.andt ⟨by omega, by omega⟩ ?_
    first | exact Res.ct (by omega) (Res.done rfl rfl) | exact Res.cf (by omega) (Res.done rfl rfl)
  refine ⟨oLen 20, okLen20, 60, ?_⟩
  rw [t_nd20]
  refine Res.andt ⟨by omega, by omega⟩ ?_
  first | exact Res.ct (by omega) (Res.done rfl rfl) | exact Res.cf (by omega) (Res.done rfl rfl)
theorem rND7 (u : Int) (h1 : 1000000 ≤ u) (h2 : u < 10000000) : ∃ O, OrcOk PP tab O ∧ Run1 O 188 [.int .u64 u] (.int .i64 7) := by
  by_cases c20 : u < 1048576
  · refine ⟨oLen 20, okLen20, 60, ?_⟩
    rw [t_nd20]
    refine Res.andt ⟨by omega, by omega⟩ ?_
    first | exact Res.ct (by omega) (Res.done rfl rfl) | exact Res.cf (by omega) (Res.done rfl rfl)
  by_cases c21 : u < 2097152
  · refine ⟨oLen 21, okLen21, 60, ?_⟩
    rw [t_nd21]
    refine Res.andt ⟨by omega, by omega⟩ ?_
    first | exact Res.ct (by omega) (Res.done rfl rfl) | exact Res.cf (by omega) (Res.done rfl rfl)
  by_cases c22 : u < 4194304
  · refine ⟨oLen 22, okLen22, 60, ?_⟩
    rw [t_nd22]
    refine Res.andt ⟨by omega, by omega⟩ ?_
    first | exact Res.ct (by omega) (Res.done rfl rfl) | exact Res.cf (by omega) (Res.done rfl rfl)
  by_cases c23 : u < 8388608
  · refine ⟨oLen 23, okLen23, 60, ?_⟩
    rw [t_nd23]
    refine Res.andt ⟨by omega, by omega⟩ ?_
    first | exact Res.ct (by omega) (Res.done rfl rfl) | exact Res.cf (by omega) (Res.done rfl rfl)
  refine ⟨oLen 24, okLen24, 60, ?_⟩
  rw [t_nd24]
  refine Res.andt ⟨by omega, by omega⟩ ?_
  first | exact Res.ct (by omega) (Res.done rfl rfl) | exact Res.cf (by omega) (Res.done rfl rfl)
theorem rND8 (u : Int) (h1 : 10000000 ≤ u) (h2 : u < 100000000) : ∃ O, OrcOk PP tab O ∧ Run1 O 188 [.int .u64 u] (.int .i64 8) := by
  by_cases c24 : u < 16777216
  · refine ⟨oLen 24, okLen24, 60, ?_⟩
    rw [t_nd24]
    refine Res.andt ⟨by omega, by omega⟩ ?_
    first | exact Res.ct (by omega) (Res.done rfl rfl) | exact Res.cf (by omega) (Res.done rfl rfl)
  by_cases c25 : u < 33554432
  · refine ⟨oLen 25, okLen25, 60, ?_⟩
    rw [t_nd25]
    refine Res.andt ⟨by omega, by omega⟩ ?_
    first | exact Res.ct (by omega) (Res.done rfl rfl) | exact Res.cf (by omega) (Res.done rfl rfl)
  by_cases c26 : u < 67108864
  · refine ⟨oLen 26, okLen26, 60, ?_⟩
    rw [t_nd26]
    refine Res.andt ⟨by omega, by omega⟩ ?_
    first | exact Res.ct (by omega) (Res.done rfl rfl) | exact Res.cf (by omega) (Res.done rfl rfl)
  refine ⟨oLen 27, okLen27, 60, ?_⟩
  rw [t_nd27]
  refine Res.andt ⟨by omega, by omega⟩ ?_
  first | exact Res.ct (by omega) (Res.done rfl rfl) | exact Res.cf (by omega) (Res.done rfl rfl)
theorem rND9 (u : Int) (h1 : 100000000 ≤ u) (h2 : u < 1000000000) : ∃ O, OrcOk PP tab O ∧ Run1 O 188 [.int .u64 u] (.int .i64 9) := by
  by_cases c27 : u < 134217728
  · refine ⟨oLen 27, okLen27, 60, ?_⟩
    rw [t_nd27]
    refine Res.andt ⟨by omega, by omega⟩ ?_
    first | exact Res.ct (by omega) (Res.done rfl rfl) | exact Res.cf (by omega) (Res.done rfl rfl)
  by_cases c28 : u < 268435456
  · refine ⟨oLen 28, okLen28, 60, ?_⟩
    rw [t_nd28]
    refine Res.andt ⟨by omega, by omega⟩ ?_
    first | exact Res.ct (by omega) (Res.done rfl rfl) | exact Res.cf (by omega) (Res.done rfl rfl)
  by_cases c29 : u < 536870912
  · refine ⟨oLen 29, okLen29, 60, ?_⟩
    rw [t_nd29]
    refine Res.andt ⟨by omega, by omega⟩ ?_
    first | exact Res.ct (by omega) (Res.done rfl rfl) | exact Res.cf (by omega) (Res.done rfl rfl)
  refine ⟨oLen 30, okLen30, 60, ?_⟩
  rw [t_nd30]
  refine Res.andt ⟨by omega, by omega⟩ ?_
  first | exact Res.ct (by omega) (Res.done rfl rfl) | exact Res.cf (by omega) (Res.done rfl rfl)
theorem rND10 (u : Int) (h1 : 1000000000 ≤ u) (h2 : u < 10000000000) : ∃ O, OrcOk PP tab O ∧ Run1 O 188 [.int .u64 u] (.int .i64 10) := by
  by_cases c30 : u < 1073741824
  · refine ⟨oLen 30, okLen30, 60, ?_⟩
    rw [t_nd30]
    refine Res.andt ⟨by omega, by omega⟩ ?_
    first | exact Res.ct (by omega) (Res.done rfl rfl) | exact Res.cf (by omega) (Res.done rfl rfl)
  by_cases c31 : u < 2147483648
  · refine ⟨oLen 31, okLen31, 60, ?_⟩
    rw [t_nd31]
    refine Res.andt ⟨by omega, by omega⟩ ?_
    first | exact Res.ct (by omega) (Res.done rfl rfl) | exact Res.cf (by omega) (Res.done rfl rfl)
  by_cases c32 : u < 4294967296
  · refine ⟨oLen 32, okLen32, 60, ?_⟩
    rw [t_nd32]
    refine Res.andt ⟨by omega, by omega⟩ ?_
    first | exact Res.ct (by omega) (Res.done rfl rfl) | exact Res.cf (by omega) (Res.done rfl rfl)
  by_cases c33 : u < 8589934592
  · refine ⟨oLen 33, okLen33, 60, ?_⟩
    rw [t_nd33]
    refine Res.andt ⟨by omega, by omega⟩ ?_
    first | exact Res.ct (by omega) (Res.done rfl rfl) | exact Res.cf (by omega) (Res.done rfl rfl)
  refine ⟨oLen 34, okLen34, 60, ?_⟩
  rw [t_nd34]
  refine Res.andt ⟨by omega, by omega⟩ ?_
  first | exact Res.ct (by omega) (Res.done rfl rfl) | exact Res.cf (by omega) (Res.done rfl rfl)
theorem rND11 (u : Int) (h1 : 10000000000 ≤ u) (h2 : u < 100000000000) : ∃ O, OrcOk PP tab O ∧ Run1 O 188 [.int .u64 u] (.int .i64 11) := by
  by_cases c34 : u < 17179869184
  · refine ⟨oLen 34, okLen34, 60, ?_⟩
    rw [t_nd34]
    refine Res.andt ⟨by omega, by omega⟩ ?_
    first | exact Res.ct (by omega) (Res.done rfl rfl) | exact Res.cf (by omega) (Res.done rfl rfl)
  by_cases c35 : u < 34359738368
  · refine ⟨oLen 35, okLen35, 60, ?_⟩
    rw [t_nd35]
    refine Res.andt ⟨by omega, by omega⟩ ?_
    first | exact Res.ct (by omega) (Res.done rfl rfl) | exact Res.cf (by omega) (Res.done rfl rfl)
  by_cases c36 : u < 68719476736
  · refine ⟨oLen 36, okLen36, 60, ?_⟩
    rw [t_nd36]
    refine Res.andt ⟨by omega, by omega⟩ ?_
    first | exact Res.ct (by omega) (Res.done rfl rfl) | exact Res.cf (by omega) (Res.done rfl rfl)
  refine ⟨oLen 37, okLen37, 60, ?_⟩
  rw [t_nd37]
  refine Res.andt ⟨by omega, by omega⟩ ?_
  first | exact Res.ct (by omega) (Res.done rfl rfl) | exact Res.cf (by omega) (Res.done rfl rfl)
theorem rND12 (u : Int) (h1 : 100000000000 ≤ u) (h2 : u < 1000000000000) : ∃ O, OrcOk PP tab O ∧ Run1 O 188 [.int .u64 u] (.int .i64 12) := by
  by_cases c37 : u < 137438953472
  · refine ⟨oLen 37, okLen37, 60, ?_⟩
    rw [t_nd37]
    refine Res.andt ⟨by omega, by omega⟩ ?_
    first | exact Res.ct (by omega) (Res.done rfl rfl) | exact Res.cf (by omega) (Res.done rfl rfl)
  by_cases c38 : u < 274877906944
  · refine ⟨oLen 38, okLen38, 60, ?_⟩
    rw [t_nd38]
    refine Res.andt ⟨by omega, by omega⟩ ?_
    first | exact Res.ct (by omega) (Res.done rfl rfl) | exact Res.cf (by omega) (Res.done rfl rfl)
  by_cases c39 : u < 549755813888
  · refine ⟨oLen 39, okLen39, 60, ?_⟩
    rw [t_nd39]
    refine Res.andt ⟨by omega, by omega⟩ ?_
    first | exact Res.ct (by omega) (Res.done rfl rfl) | exact Res.cf (by omega) (Res.done rfl rfl)
  refine ⟨oLen 40, okLen40, 60, ?_⟩
  rw [t_nd40]
  refine Res.andt ⟨by omega, by omega⟩ ?_
  first | exact Res.ct (by omega) (Res.done rfl rfl) | exact Res.cf (by omega) (Res.done rfl rfl)
theorem rND13 (u : Int) (h1 : 1000000000000 ≤ u) (h2 : u < 10000000000000) : ∃ O, OrcOk PP tab O ∧ Run1 O 188 [.int .u64 u] (.int .i64 13) := by
  by_cases c40 : u < 1099511627776
  · refine ⟨oLen 40, okLen40, 60, ?_⟩
    rw [t_nd40]
    refine Res.andt ⟨by omega, by omega⟩ ?_
    first | exact Res.ct (by omega) (Res.done rfl rfl) | exact Res.cf (by omega) (Res.done rfl rfl)
  by_cases c41 : u < 2199023255552
  · refine ⟨oLen 41, okLen41, 60, ?_⟩
    rw [t_nd41]
    refine Res.andt ⟨by omega, by omega⟩ ?_
    first | exact Res.ct (by omega) (Res.done rfl rfl) | exact Res.cf (by omega) (Res.done rfl rfl)
  by_cases c42 : u < 4398046511104
  · refine ⟨oLen 42, okLen42, 60, ?_⟩
    rw [t_nd42]
    refine Res.andt ⟨by omega, by omega⟩ ?_
    first | exact Res.ct (by omega) (Res.done rfl rfl) | exact Res.cf (by omega) (Res.done rfl rfl)
  by_cases c43 : u < 8796093022208
  · refine ⟨oLen 43, okLen43, 60, ?_⟩
    rw [t_nd43]
    refine Res.andt ⟨by omega, by omega⟩ ?_
    first | exact Res.ct (by omega) (Res.done rfl rfl) | exact Res.cf (by omega) (Res.done rfl rfl)
  refine ⟨oLen 44, okLen44, 60, ?_⟩
  rw [t_nd44]
  refine Res.andt ⟨by omega, by omega⟩ ?_
  first | exact Res.ct (by omega) (Res.done rfl rfl) | exact Res.cf (by omega) (Res.done rfl rfl)
theorem rND14 (u : Int) (h1 : 10000000000000 ≤ u) (h2 : u < 100000000000000) : ∃ O, OrcOk PP tab O ∧ Run1 O 188 [.int .u64 u] (.int .i64 14) := by
  by_cases c44 : u < 17592186044416
  · refine ⟨oLen 44, okLen44, 60, ?_⟩
    rw [t_nd44]
    refine Res.andt ⟨by omega, by omega⟩ ?_
    first | exact Res.ct (by omega) (Res.done rfl rfl) | exact Res.cf (by omega) (Res.done rfl rfl)
  by_cases c45 : u < 35184372088832
  · refine ⟨oLen 45, okLen45, 60, ?_⟩
    rw [t_nd45]
    refine Res.andt ⟨by omega, by omega⟩ ?_
    first | exact Res.ct (by omega) (Res.done rfl rfl) | exact Res.cf (by omega) (Res.done rfl rfl)
  by_cases c46 : u < 70368744177664
  · refine ⟨oLen 46, okLen46, 60, ?_⟩
    rw [t_nd46]
    refine Res.andt ⟨by omega, by omega⟩ ?_
    first | exact Res.ct (by omega) (Res.done rfl rfl) | exact Res.cf (by omega) (Res.done rfl rfl)
  refine ⟨oLen 47, okLen47, 60, ?_⟩
  rw [t_nd47]
  refine Res.andt ⟨by omega, by omega⟩ ?_
  first | exact Res.ct (by omega) (Res.done rfl rfl) | exact Res.cf (by omega) (Res.done rfl rfl)
theorem rND15 (u : Int) (h1 : 100000000000000 ≤ u) (h2 : u < 1000000000000000) : ∃ O, OrcOk PP tab O ∧ Run1 O 188 [.int .u64 u] (.int .i64 15) := by
  by_cases c47 : u < 140737488355328
  · refine ⟨oLen 47, okLen47, 60, ?_⟩
    rw [t_nd47]
    refine Res.andt ⟨by omega, by omega⟩ ?_
    first | exact Res.ct (by omega) (Res.done rfl rfl) | exact Res.cf (by omega) (Res.done rfl rfl)
  by_cases c48 : u < 281474976710656
  · refine ⟨oLen 48, okLen48, 60, ?_⟩
    rw [t_nd48]
    refine Res.andt ⟨by omega, by omega⟩ ?_
    first | exact Res.ct (by omega) (Res.done rfl rfl) | exact Res.cf (by omega) (Res.done rfl rfl)
  by_cases c49 : u < 562949953421312
  · refine ⟨oLen 49, okLen49, 60, ?_⟩
    rw [t_nd49]
    refine Res.andt ⟨by omega, by omega⟩ ?_
    first | exact Res.ct (by omega) (Res.done rfl rfl) | exact Res.cf (by omega) (Res.done rfl rfl)
  refine ⟨oLen 50, okLen50, 60, ?_⟩
  rw [t_nd50]
  refine Res.andt ⟨by omega, by omega⟩ ?_
  first | exact Res.ct (by omega) (Res.done rfl rfl) | exact Res.cf (by omega) (Res.done rfl rfl)
theorem rND16 (u : Int) (h1 : 1000000000000000 ≤ u) (h2 : u < 10000000000000000) : ∃ O, OrcOk PP tab O ∧ Run1 O 188 [.int .u64 u] (.int .i64 16) := by
  by_cases c50 : u < 1125899906842624
  · refine ⟨oLen 50, okLen50, 60, ?_⟩
    rw [t_nd50]
    refine Res.andt ⟨by omega, by omega⟩ ?_
    first | exact Res.ct (by omega) (Res.done rfl rfl) | exact Res.cf (by omega) (Res.done rfl rfl)
  by_cases c51 : u < 2251799813685248
  · refine ⟨oLen 51, okLen51, 60, ?_⟩
    rw [t_nd51]
    refine Res.andt ⟨by omega, by omega⟩ ?_
    first | exact Res.ct (by omega) (Res.done rfl rfl) | exact Res.cf (by omega) (Res.done rfl rfl)
  by_cases c52 : u < 4503599627370496
  · refine ⟨oLen 52, okLen52, 60, ?_⟩
    rw [t_nd52]
    refine Res.andt ⟨by omega, by omega⟩ ?_
    first | exact Res.ct (by omega) (Res.done rfl rfl) | exact Res.cf (by omega) (Res.done rfl rfl)
  by_cases c53 : u < 9007199254740992
  · refine ⟨oLen 53, okLen53, 60, ?_⟩
    rw [t_nd53]
    refine Res.andt ⟨by omega, by omega⟩ ?_
    first | exact Res.ct (by omega) (Res.done rfl rfl) | exact Res.cf (by omega) (Res.done rfl rfl)
  refine ⟨oLen 54, okLen54, 60, ?_⟩
  rw [t_nd54]
  refine Res.andt ⟨by omega, by omega⟩ ?_
  first | exact Res.ct (by omega) (Res.done rfl rfl) | exact Res.cf (by omega) (Res.done rfl rfl)
theorem rND17 (u : Int) (h1 : 10000000000000000 ≤ u) (h2 : u < 100000000000000000) : ∃ O, OrcOk PP tab O ∧ Run1 O 188 [.int .u64 u] (.int .i64 17) := by
  by_cases c54 : u < 18014398509481984
  · refine ⟨oLen 54, okLen54, 60, ?_⟩
    rw [t_nd54]
    refine Res.andt ⟨by omega, by omega⟩ ?_
    first | exact Res.ct (by omega) (Res.done rfl rfl) | exact Res.cf (by omega) (Res.done rfl rfl)
  by_cases c55 : u < 36028797018963968
  · refine ⟨oLen 55, okLen55, 60, ?_⟩
    rw [t_nd55]
    refine Res.andt ⟨by omega, by omega⟩ ?_
    first | exact Res.ct (by omega) (Res.done rfl rfl) | exact Res.cf (by omega) (Res.done rfl rfl)
  by_cases c56 : u < 72057594037927936
  · refine ⟨oLen 56, okLen56, 60, ?_⟩
    rw [t_nd56]
    refine Res.andt ⟨by omega, by omega⟩ ?_
    first | exact Res.ct (by omega) (Res.done rfl rfl) | exact Res.cf (by omega) (Res.done rfl rfl)
  refine ⟨oLen 57, okLen57, 60, ?_⟩
  rw [t_nd57]
  refine Res.andt ⟨by omega, by omega⟩ ?_
  first | exact Res.ct (by omega) (Res.done rfl rfl) | exact Res.cf (by omega) (Res.done rfl rfl)
theorem rND18 (u : Int) (h1 : 100000000000000000 ≤ u) (h2 : u < 1000000000000000000) : ∃ O, OrcOk PP tab O ∧ Run1 O 188 [.int .u64 u] (.int .i64 18) := by
  by_cases c57 : u < 144115188075855872
  · refine ⟨oLen 57, okLen57, 60, ?_⟩
    rw [t_nd57]
    refine Res.andt ⟨by omega, by omega⟩ ?_
    first | exact Res.ct (by omega) (Res.done rfl rfl) | exact Res.cf (by omega) (Res.done rfl rfl)
  by_cases c58 : u < 288230376151711744
  · refine ⟨oLen 58, okLen58, 60, ?_⟩
    rw [t_nd58]
    refine Res.andt ⟨by omega, by omega⟩ ?_
    first | exact Res.ct (by omega) (Res.done rfl rfl) | exact Res.cf (by omega) (Res.done rfl rfl)
  by_cases c59 : u < 576460752303423488
  · refine ⟨oLen 59, okLen59, 60, ?_⟩
    rw [t_nd59]
    refine Res.andt ⟨by omega, by omega⟩ ?_
    first | exact Res.ct (by omega) (Res.done rfl rfl) | exact Res.cf (by omega) (Res.done rfl rfl)
  refine ⟨oLen 60, okLen60, 60, ?_⟩
  rw [t_nd60]
  refine Res.andt ⟨by omega, by omega⟩ ?_
  first | exact Res.ct (by omega) (Res.done rfl rfl) | exact Res.cf (by omega) (Res.done rfl rfl)
theorem rND19 (u : Int) (h1 : 1000000000000000000 ≤ u) (h2 : u < 10000000000000000000) : ∃ O, OrcOk PP tab O ∧ Run1 O 188 [.int .u64 u] (.int .i64 19) := by
  by_cases c60 : u < 1152921504606846976
  · refine ⟨oLen 60, okLen60, 60, ?_⟩
    rw [t_nd60]
    refine Res.andt ⟨by omega, by omega⟩ ?_
    first | exact Res.ct (by omega) (Res.done rfl rfl) | exact Res.cf (by omega) (Res.done rfl rfl)
  by_cases c61 : u < 2305843009213693952
  · refine ⟨oLen 61, okLen61, 60, ?_⟩
    rw [t_nd61]
    refine Res.andt ⟨by omega, by omega⟩ ?_
    first | exact Res.ct (by omega) (Res.done rfl rfl) | exact Res.cf (by omega) (Res.done rfl rfl)
  by_cases c62 : u < 4611686018427387904
  · refine ⟨oLen 62, okLen62, 60, ?_⟩
    rw [t_nd62]
    refine Res.andt ⟨by omega, by omega⟩ ?_
    first | exact Res.ct (by omega) (Res.done rfl rfl) | exact Res.cf (by omega) (Res.done rfl rfl)
  by_cases c63 : u < 9223372036854775808
  · refine ⟨oLen 63, okLen63, 60, ?_⟩
    rw [t_nd63]
    refine Res.andt ⟨by omega, by omega⟩ ?_
    first | exact Res.ct (by omega) (Res.done rfl rfl) | exact Res.cf (by omega) (Res.done rfl rfl)
  refine ⟨oLen 64, okLen64, 60, ?_⟩
  rw [t_nd64]
  refine Res.andt ⟨by omega, by omega⟩ ?_
  first | exact Res.ct (by omega) (Res.done rfl rfl) | exact Res.cf (by omega) (Res.done rfl rfl)
theorem rND20 (u : Int) (h1 : 10000000000000000000 ≤ u) (h2 : u < 18446744073709551616) : ∃ O, OrcOk PP tab O ∧ Run1 O 188 [.int .u64 u] (.int .i64 20) := by
  refine ⟨oLen 64, okLen64, 60, ?_⟩
  rw [t_nd64]
  refine Res.andt ⟨by omega, by omega⟩ ?_
  first | exact Res.ct (by omega) (Res.done rfl rfl) | exact Res.cf (by omega) (Res.done rfl rfl)
theorem okND_of (k : Nat) (hr : ∀ u : Int, (10 : Int) ^ (k - 1) ≤ u → u < (10 : Int) ^ k → ∃ O, OrcOk PP tab O ∧ Run1 O 188 [.int .u64 u] (.int .i64 (k : Nat))) : OrcOk PP tab (oND k) := by
  refine orcB_ok' beneath ppF ppF2 fun args v h => ?_
  unfold mND at h
  split at h
  · rename_i u
    simp only [Option.some.injEq, Prod.mk.injEq, Bool.and_eq_true, decide_eq_true_eq] at h
    obtain ⟨⟨h1, h2⟩, rfl⟩ := h
    exact ⟨rfl, rfl, hr u h1 h2⟩
  · cases h
theorem okND1 : OrcOk PP tab (oND 1) := okND_of 1 fun u h1 h2 => rND1 u (by simp at h1; omega) (by omega)
theorem okND2 : OrcOk PP tab (oND 2) := okND_of 2 fun u h1 h2 => rND2 u (by simp at h1; omega) (by omega)
theorem okND3 : OrcOk PP tab (oND 3) := okND_of 3 fun u h1 h2 => rND3 u (by simp at h1; omega) (by omega)
theorem okND4 : OrcOk PP tab (oND 4) := okND_of 4 fun u h1 h2 => rND4 u (by simp at h1; omega) (by omega)
theorem okND5 : OrcOk PP tab (oND 5) := okND_of 5 fun u h1 h2 => rND5 u (by simp at h1; omega) (by omega)
theorem okND6 : OrcOk PP tab (oND 6) := okND_of 6 fun u h1 h2 => rND6 u (by simp at h1; omega) (by omega)
theorem okND7 : OrcOk PP tab (oND 7) := okND_of 7 fun u h1 h2 => rND7 u (by simp at h1; omega) (by omega)
theorem okND8 : OrcOk PP tab (oND 8) := okND_of 8 fun u h1 h2 => rND8 u (by simp at h1; omega) (by omega)
theorem okND9 : OrcOk PP tab (oND 9) := okND_of 9 fun u h1 h2 => rND9 u (by simp at h1; omega) (by omega)
theorem okND10 : OrcOk PP tab (oND 10) := okND_of 10 fun u h1 h2 => rND10 u (by simp at h1; omega) (by omega)
theorem okND11 : OrcOk PP tab (oND 11) := okND_of 11 fun u h1 h2 => rND11 u (by simp at h1; omega) (by omega)
theorem okND12 : OrcOk PP tab (oND 12) := okND_of 12 fun u h1 h2 => rND12 u (by simp at h1; omega) (by omega)
theorem okND13 : OrcOk PP tab (oND 13) := okND_of 13 fun u h1 h2 => rND13 u (by simp at h1; omega) (by omega)
theorem okND14 : OrcOk PP tab (oND 14) := okND_of 14 fun u h1 h2 => rND14 u (by simp at h1; omega) (by omega)
theorem okND15 : OrcOk PP tab (oND 15) := okND_of 15 fun u h1 h2 => rND15 u (by simp at h1; omega) (by omega)
theorem okND16 : OrcOk PP tab (oND 16) := okND_of 16 fun u h1 h2 => rND16 u (by simp at h1; omega) (by omega)
theorem okND17 : OrcOk PP tab (oND 17) := okND_of 17 fun u h1 h2 => rND17 u (by simp at h1; omega) (by omega)
theorem okND18 : OrcOk PP tab (oND 18) := okND_of 18 fun u h1 h2 => rND18 u (by simp at h1; omega) (by omega)
theorem okND19 : OrcOk PP tab (oND 19) := okND_of 19 fun u h1 h2 => rND19 u (by simp at h1; omega) (by omega)
end Go.Ev
end
section
set_option linter.unusedSimpArgs false
set_option linter.unusedVariables false
set_option maxHeartbeats 4000000
set_option linter.unusedSimpArgs false
namespace Go.Ev
open Go
theorem byte_back (u : UInt8) : UInt8.ofNat (Int.toNat ((u.toNat : Nat) : Int)) = u := by simp
theorem str_eq {l m : List UInt8} (h : l = m) : Value.string ⟨⟨l⟩⟩ = .string ⟨⟨m⟩⟩ := by rw [h]

theorem rFI1 (x : Int) (h1 : 0 ≤ x) (h2 : x < 10) : Run1 (oND 1) 113 [.int .i64 x, .int .i64 10] (.string ⟨⟨dec 1 x.toNat⟩⟩) := by
  refine ⟨60, ?_⟩
  rw [t_fi1]
  refine Res.ct (by omega) (Res.ct (by omega) (Res.ct (by omega) ?_))
  simp (disch := omega) only [kwi, size_dig]
  refine Res.it (by omega) (Res.it (by omega) ?_)
  refine Res.done ?_ rfl
  have e : Int.toNat (x + 1) = x.toNat + 1 := by omega
  rw [e, bsub_dig _ (by omega)]
  refine str_eq ?_
  simp only [dec, List.nil_append, List.cons.injEq, and_true]
  refine congrArg UInt8.ofNat ?_
  omega
theorem rFI2 (x : Int) (h1 : 10 ≤ x) (h2 : x < 100) : Run1 (oND 2) 113 [.int .i64 x, .int .i64 10] (.string ⟨⟨dec 2 x.toNat⟩⟩) := by
  refine ⟨60, ?_⟩
  rw [t_fi2]
  refine Res.ct (by omega) (Res.ct (by omega) (Res.cf (by omega) ?_))
  simp (disch := omega) only [kwi, size_two]
  refine Res.it (by omega) (Res.it (by omega) ?_)
  refine Res.done ?_ rfl
  have e1 : Int.toNat (x * 2) = 2 * x.toNat := by omega
  have e : Int.toNat (x * 2 + 2) = 2 * x.toNat + 2 := by omega
  rw [e, e1, bsub_two _ (by omega)]
  refine str_eq ?_
  simp only [dec, List.nil_append, List.cons_append, List.cons.injEq, and_true]
  refine congrArg UInt8.ofNat ?_
  omega
theorem rFI3 (x : Int) (h1 : 100 ≤ x) (h2 : x < 1000) : Run1 (oND 3) 113 [.int .i64 x, .int .i64 10] (.string ⟨⟨dec 3 x.toNat⟩⟩) := by
  refine ⟨60, ?_⟩
  rw [t_fi3]
  refine Res.ct (by omega) (Res.cf (by omega) (Res.cf (by omega) ?_))
  simp (maxSteps := 10000000) (disch := omega) only [kwu, kwu32, kwu8, Int.tmod_eq_emod_of_nonneg, Int.tdiv_eq_ediv_of_nonneg, size_two]
  refine Res.andt ⟨by omega, by omega⟩ ?_
  iterate 2 refine Res.it (by omega) (Res.el (lget_two _ (by omega)) ?_)
  refine Res.cf (by omega) ?_
  refine Res.done (str_eq ?_) rfl
  simp only [byte_back, dec, List.nil_append, List.cons_append, List.cons.injEq, and_true]
  refine ⟨?_, ?_, ?_⟩ <;> refine congrArg UInt8.ofNat ?_ <;> (try split) <;> omega
theorem rFI4 (x : Int) (h1 : 1000 ≤ x) (h2 : x < 10000) : Run1 (oND 4) 113 [.int .i64 x, .int .i64 10] (.string ⟨⟨dec 4 x.toNat⟩⟩) := by
  refine ⟨60, ?_⟩
  rw [t_fi4]
  refine Res.ct (by omega) (Res.cf (by omega) (Res.cf (by omega) ?_))
  simp (maxSteps := 10000000) (disch := omega) only [kwu, kwu32, kwu8, Int.tmod_eq_emod_of_nonneg, Int.tdiv_eq_ediv_of_nonneg, size_two]
  refine Res.andt ⟨by omega, by omega⟩ ?_
  iterate 4 refine Res.it (by omega) (Res.el (lget_two _ (by omega)) ?_)
  refine Res.cf (by omega) ?_
  refine Res.done (str_eq ?_) rfl
  simp only [byte_back, dec, List.nil_append, List.cons_append, List.cons.injEq, and_true]
  refine ⟨?_, ?_, ?_, ?_⟩ <;> refine congrArg UInt8.ofNat ?_ <;> (try split) <;> omega
theorem rFI5 (x : Int) (h1 : 10000 ≤ x) (h2 : x < 100000) : Run1 (oND 5) 113 [.int .i64 x, .int .i64 10] (.string ⟨⟨dec 5 x.toNat⟩⟩) := by
  refine ⟨60, ?_⟩
  rw [t_fi5]
  refine Res.ct (by omega) (Res.cf (by omega) (Res.cf (by omega) ?_))
  simp (maxSteps := 10000000) (disch := omega) only [kwu, kwu32, kwu8, Int.tmod_eq_emod_of_nonneg, Int.tdiv_eq_ediv_of_nonneg, size_two]
  refine Res.andt ⟨by omega, by omega⟩ ?_
  iterate 4 refine Res.it (by omega) (Res.el (lget_two _ (by omega)) ?_)
  refine Res.cf (by omega) ?_
  refine Res.done (str_eq ?_) rfl
  simp only [byte_back, dec, List.nil_append, List.cons_append, List.cons.injEq, and_true]
  refine ⟨?_, ?_, ?_, ?_, ?_⟩ <;> refine congrArg UInt8.ofNat ?_ <;> (try split) <;> omega
theorem rFI6 (x : Int) (h1 : 100000 ≤ x) (h2 : x < 1000000) : Run1 (oND 6) 113 [.int .i64 x, .int .i64 10] (.string ⟨⟨dec 6 x.toNat⟩⟩) := by
  refine ⟨60, ?_⟩
  rw [t_fi6]
  refine Res.ct (by omega) (Res.cf (by omega) (Res.cf (by omega) ?_))
  simp (maxSteps := 10000000) (disch := omega) only [kwu, kwu32, kwu8, Int.tmod_eq_emod_of_nonneg, Int.tdiv_eq_ediv_of_nonneg, size_two]
  refine Res.andt ⟨by omega, by omega⟩ ?_
  iterate 6 refine Res.it (by omega) (Res.el (lget_two _ (by omega)) ?_)
  refine Res.cf (by omega) ?_
  refine Res.done (str_eq ?_) rfl
  simp only [byte_back, dec, List.nil_append, List.cons_append, List.cons.injEq, and_true]
  refine ⟨?_, ?_, ?_, ?_, ?_, ?_⟩ <;> refine congrArg UInt8.ofNat ?_ <;> (try split) <;> omega
theorem rFI7 (x : Int) (h1 : 1000000 ≤ x) (h2 : x < 10000000) : Run1 (oND 7) 113 [.int .i64 x, .int .i64 10] (.string ⟨⟨dec 7 x.toNat⟩⟩) := by
  refine ⟨60, ?_⟩
  rw [t_fi7]
  refine Res.ct (by omega) (Res.cf (by omega) (Res.cf (by omega) ?_))
  simp (maxSteps := 10000000) (disch := omega) only [kwu, kwu32, kwu8, Int.tmod_eq_emod_of_nonneg, Int.tdiv_eq_ediv_of_nonneg, size_two]
  refine Res.andt ⟨by omega, by omega⟩ ?_
  iterate 6 refine Res.it (by omega) (Res.el (lget_two _ (by omega)) ?_)
  refine Res.cf (by omega) ?_
  refine Res.done (str_eq ?_) rfl
  simp only [byte_back, dec, List.nil_append, List.cons_append, List.cons.injEq, and_true]
  refine ⟨?_, ?_, ?_, ?_, ?_, ?_, ?_⟩ <;> refine congrArg UInt8.ofNat ?_ <;> (try split) <;> omega
theorem rFI8 (x : Int) (h1 : 10000000 ≤ x) (h2 : x < 100000000) : Run1 (oND 8) 113 [.int .i64 x, .int .i64 10] (.string ⟨⟨dec 8 x.toNat⟩⟩) := by
  refine ⟨60, ?_⟩
  rw [t_fi8]
  refine Res.ct (by omega) (Res.cf (by omega) (Res.cf (by omega) ?_))
  simp (maxSteps := 10000000) (disch := omega) only [kwu, kwu32, kwu8, Int.tmod_eq_emod_of_nonneg, Int.tdiv_eq_ediv_of_nonneg, size_two]
  refine Res.andt ⟨by omega, by omega⟩ ?_
  iterate 8 refine Res.it (by omega) (Res.el (lget_two _ (by omega)) ?_)
  refine Res.cf (by omega) ?_
  refine Res.done (str_eq ?_) rfl
  simp only [byte_back, dec, List.nil_append, List.cons_append, List.cons.injEq, and_true]
  refine ⟨?_, ?_, ?_, ?_, ?_, ?_, ?_, ?_⟩ <;> refine congrArg UInt8.ofNat ?_ <;> (try split) <;> omega
theorem rFI9 (x : Int) (h1 : 100000000 ≤ x) (h2 : x < 1000000000) : Run1 (oND 9) 113 [.int .i64 x, .int .i64 10] (.string ⟨⟨dec 9 x.toNat⟩⟩) := by
  refine ⟨60, ?_⟩
  rw [t_fi9]
  refine Res.ct (by omega) (Res.cf (by omega) (Res.cf (by omega) ?_))
  simp (maxSteps := 10000000) (disch := omega) only [kwu, kwu32, kwu8, Int.tmod_eq_emod_of_nonneg, Int.tdiv_eq_ediv_of_nonneg, size_two]
  refine Res.andt ⟨by omega, by omega⟩ ?_
  iterate 8 refine Res.it (by omega) (Res.el (lget_two _ (by omega)) ?_)
  refine Res.cf (by omega) ?_
  refine Res.done (str_eq ?_) rfl
  simp only [byte_back, dec, List.nil_append, List.cons_append, List.cons.injEq, and_true]
  refine ⟨?_, ?_, ?_, ?_, ?_, ?_, ?_, ?_, ?_⟩ <;> refine congrArg UInt8.ofNat ?_ <;> (try split) <;> omega
end Go.Ev
end
section
set_option linter.unusedSimpArgs false
set_option linter.unusedVariables false
set_option maxHeartbeats 1000000
namespace Go.Ev
noncomputable section
def mFI (k : Nat) : List Value → Option (Bool × Value)
  | [.int .i64 x, .int .i64 b] => some (decide (b = 10) && (decide ((if k = 1 then 0 else (10 : Int) ^ (k - 1)) ≤ x) && decide (x < (10 : Int) ^ k)), .string ⟨⟨dec k x.toNat⟩⟩)
  | _ => none
def oFI (k : Nat) : Orc := orcB baseB 113 (mFI k)
theorem okFI_of (k : Nat) {O : Orc} (hO : OrcOk PP tab O) (hr : ∀ x : Int, (if k = 1 then 0 else (10 : Int) ^ (k - 1)) ≤ x → x < (10 : Int) ^ k → Run1 O 113 [.int .i64 x, .int .i64 10] (.string ⟨⟨dec k x.toNat⟩⟩)) : OrcOk PP tab (oFI k) := by
  refine okOrc hO fun args v h => ?_
  unfold mFI at h
  split at h
  · rename_i x b
    simp only [Option.some.injEq, Prod.mk.injEq, Bool.and_eq_true, decide_eq_true_eq] at h
    obtain ⟨⟨rfl, h1, h2⟩, rfl⟩ := h
    exact ⟨rfl, rfl, hr x h1 h2⟩
  · cases h
theorem okFI1 : OrcOk PP tab (oFI 1) := okFI_of 1 okND1 fun x h1 h2 => rFI1 x (by simpa using h1) (by simpa using h2)
theorem okFI2 : OrcOk PP tab (oFI 2) := okFI_of 2 okND2 fun x h1 h2 => rFI2 x (by simpa using h1) (by simpa using h2)
theorem okFI3 : OrcOk PP tab (oFI 3) := okFI_of 3 okND3 fun x h1 h2 => rFI3 x (by simpa using h1) (by simpa using h2)
theorem okFI4 : OrcOk PP tab (oFI 4) := okFI_of 4 okND4 fun x h1 h2 => rFI4 x (by simpa using h1) (by simpa using h2)
theorem okFI5 : OrcOk PP tab (oFI 5) := okFI_of 5 okND5 fun x h1 h2 => rFI5 x (by simpa using h1) (by simpa using h2)
theorem okFI6 : OrcOk PP tab (oFI 6) := okFI_of 6 okND6 fun x h1 h2 => rFI6 x (by simpa using h1) (by simpa using h2)
theorem okFI7 : OrcOk PP tab (oFI 7) := okFI_of 7 okND7 fun x h1 h2 => rFI7 x (by simpa using h1) (by simpa using h2)
theorem okFI8 : OrcOk PP tab (oFI 8) := okFI_of 8 okND8 fun x h1 h2 => rFI8 x (by simpa using h1) (by simpa using h2)
theorem okFI9 : OrcOk PP tab (oFI 9) := okFI_of 9 okND9 fun x h1 h2 => rFI9 x (by simpa using h1) (by simpa using h2)
end
end Go.Ev
end
section
set_option linter.unusedSimpArgs false
set_option linter.unusedVariables false
set_option maxRecDepth 100000
set_option linter.unusedVariables false
namespace Go.Ev
open Go
theorem t_dg2_1 {α : Type} (K : Value → Hp → Option α) (x0 : Int) : einv PP tab (oFI 1) 60 (.func 30) [.int .i64 x0, .int .i64 2] hp0 K =
  cond (true && ((decide ((0 : Int) ≤ x0)) && (decide ((x0 : Int) < 10))))
  (K (.string (bApp (⟨⟨[48]⟩⟩ : ByteArray) (⟨⟨(dec 1 (Int.toNat x0))⟩⟩ : ByteArray))) hp0)
  (none) := by kernel_rfl

theorem t_dg2_2 {α : Type} (K : Value → Hp → Option α) (x0 : Int) : einv PP tab (oFI 2) 60 (.func 30) [.int .i64 x0, .int .i64 2] hp0 K =
  cond (true && ((decide ((10 : Int) ≤ x0)) && (decide ((x0 : Int) < 100))))
  (K (.string (bApp (⟨⟨[]⟩⟩ : ByteArray) (⟨⟨(dec 2 (Int.toNat x0))⟩⟩ : ByteArray))) hp0)
  (none) := by kernel_rfl

theorem t_dg4_1 {α : Type} (K : Value → Hp → Option α) (x0 : Int) : einv PP tab (oFI 1) 60 (.func 30) [.int .i64 x0, .int .i64 4] hp0 K =
  cond (true && ((decide ((0 : Int) ≤ x0)) && (decide ((x0 : Int) < 10))))
  (K (.string (bApp (bSub bsZero 0 3) (⟨⟨(dec 1 (Int.toNat x0))⟩⟩ : ByteArray))) hp0)
  (none) := by kernel_rfl

theorem t_dg4_2 {α : Type} (K : Value → Hp → Option α) (x0 : Int) : einv PP tab (oFI 2) 60 (.func 30) [.int .i64 x0, .int .i64 4] hp0 K =
  cond (true && ((decide ((10 : Int) ≤ x0)) && (decide ((x0 : Int) < 100))))
  (K (.string (bApp (bSub bsZero 0 2) (⟨⟨(dec 2 (Int.toNat x0))⟩⟩ : ByteArray))) hp0)
  (none) := by kernel_rfl

theorem t_dg4_3 {α : Type} (K : Value → Hp → Option α) (x0 : Int) : einv PP tab (oFI 3) 60 (.func 30) [.int .i64 x0, .int .i64 4] hp0 K =
  cond (true && ((decide ((100 : Int) ≤ x0)) && (decide ((x0 : Int) < 1000))))
  (K (.string (bApp (⟨⟨[48]⟩⟩ : ByteArray) (⟨⟨(dec 3 (Int.toNat x0))⟩⟩ : ByteArray))) hp0)
  (none) := by kernel_rfl

theorem t_dg4_4 {α : Type} (K : Value → Hp → Option α) (x0 : Int) : einv PP tab (oFI 4) 60 (.func 30) [.int .i64 x0, .int .i64 4] hp0 K =
  cond (true && ((decide ((1000 : Int) ≤ x0)) && (decide ((x0 : Int) < 10000))))
  (K (.string (bApp (⟨⟨[]⟩⟩ : ByteArray) (⟨⟨(dec 4 (Int.toNat x0))⟩⟩ : ByteArray))) hp0)
  (none) := by kernel_rfl

theorem t_dg6_1 {α : Type} (K : Value → Hp → Option α) (x0 : Int) : einv PP tab (oFI 1) 60 (.func 30) [.int .i64 x0, .int .i64 6] hp0 K =
  cond (true && ((decide ((0 : Int) ≤ x0)) && (decide ((x0 : Int) < 10))))
  (K (.string (bApp (bSub bsZero 0 5) (⟨⟨(dec 1 (Int.toNat x0))⟩⟩ : ByteArray))) hp0)
  (none) := by kernel_rfl

theorem t_dg6_2 {α : Type} (K : Value → Hp → Option α) (x0 : Int) : einv PP tab (oFI 2) 60 (.func 30) [.int .i64 x0, .int .i64 6] hp0 K =
  cond (true && ((decide ((10 : Int) ≤ x0)) && (decide ((x0 : Int) < 100))))
  (K (.string (bApp (bSub bsZero 0 4) (⟨⟨(dec 2 (Int.toNat x0))⟩⟩ : ByteArray))) hp0)
  (none) := by kernel_rfl

theorem t_dg6_3 {α : Type} (K : Value → Hp → Option α) (x0 : Int) : einv PP tab (oFI 3) 60 (.func 30) [.int .i64 x0, .int .i64 6] hp0 K =
  cond (true && ((decide ((100 : Int) ≤ x0)) && (decide ((x0 : Int) < 1000))))
  (K (.string (bApp (bSub bsZero 0 3) (⟨⟨(dec 3 (Int.toNat x0))⟩⟩ : ByteArray))) hp0)
  (none) := by kernel_rfl

theorem t_dg6_4 {α : Type} (K : Value → Hp → Option α) (x0 : Int) : einv PP tab (oFI 4) 60 (.func 30) [.int .i64 x0, .int .i64 6] hp0 K =
  cond (true && ((decide ((1000 : Int) ≤ x0)) && (decide ((x0 : Int) < 10000))))
  (K (.string (bApp (bSub bsZero 0 2) (⟨⟨(dec 4 (Int.toNat x0))⟩⟩ : ByteArray))) hp0)
  (none) := by kernel_rfl

theorem t_dg6_5 {α : Type} (K : Value → Hp → Option α) (x0 : Int) : einv PP tab (oFI 5) 60 (.func 30) [.int .i64 x0, .int .i64 6] hp0 K =
  cond (true && ((decide ((10000 : Int) ≤ x0)) && (decide ((x0 : Int) < 100000))))
  (K (.string (bApp (⟨⟨[48]⟩⟩ : ByteArray) (⟨⟨(dec 5 (Int.toNat x0))⟩⟩ : ByteArray))) hp0)
  (none) := by kernel_rfl

theorem t_dg6_6 {α : Type} (K : Value → Hp → Option α) (x0 : Int) : einv PP tab (oFI 6) 60 (.func 30) [.int .i64 x0, .int .i64 6] hp0 K =
  cond (true && ((decide ((100000 : Int) ≤ x0)) && (decide ((x0 : Int) < 1000000))))
  (K (.string (bApp (⟨⟨[]⟩⟩ : ByteArray) (⟨⟨(dec 6 (Int.toNat x0))⟩⟩ : ByteArray))) hp0)
  (none) := by kernel_rfl

theorem t_dg9_1 {α : Type} (K : Value → Hp → Option α) (x0 : Int) : einv PP tab (oFI 1) 60 (.func 30) [.int .i64 x0, .int .i64 9] hp0 K =
  cond (true && ((decide ((0 : Int) ≤ x0)) && (decide ((x0 : Int) < 10))))
  (K (.string (bApp (bSub bsZero 0 8) (⟨⟨(dec 1 (Int.toNat x0))⟩⟩ : ByteArray))) hp0)
  (none) := by kernel_rfl

theorem t_dg9_2 {α : Type} (K : Value → Hp → Option α) (x0 : Int) : einv PP tab (oFI 2) 60 (.func 30) [.int .i64 x0, .int .i64 9] hp0 K =
  cond (true && ((decide ((10 : Int) ≤ x0)) && (decide ((x0 : Int) < 100))))
  (K (.string (bApp (bSub bsZero 0 7) (⟨⟨(dec 2 (Int.toNat x0))⟩⟩ : ByteArray))) hp0)
  (none) := by kernel_rfl

theorem t_dg9_3 {α : Type} (K : Value → Hp → Option α) (x0 : Int) : einv PP tab (oFI 3) 60 (.func 30) [.int .i64 x0, .int .i64 9] hp0 K =
  cond (true && ((decide ((100 : Int) ≤ x0)) && (decide ((x0 : Int) < 1000))))
  (K (.string (bApp (bSub bsZero 0 6) (⟨⟨(dec 3 (Int.toNat x0))⟩⟩ : ByteArray))) hp0)
  (none) := by kernel_rfl

theorem t_dg9_4 {α : Type} (K : Value → Hp → Option α) (x0 : Int) : einv PP tab (oFI 4) 60 (.func 30) [.int .i64 x0, .int .i64 9] hp0 K =
  cond (true && ((decide ((1000 : Int) ≤ x0)) && (decide ((x0 : Int) < 10000))))
  (K (.string (bApp (bSub bsZero 0 5) (⟨⟨(dec 4 (Int.toNat x0))⟩⟩ : ByteArray))) hp0)
  (none) := by kernel_rfl

theorem t_dg9_5 {α : Type} (K : Value → Hp → Option α) (x0 : Int) : einv PP tab (oFI 5) 60 (.func 30) [.int .i64 x0, .int .i64 9] hp0 K =
  cond (true && ((decide ((10000 : Int) ≤ x0)) && (decide ((x0 : Int) < 100000))))
  (K (.string (bApp (bSub bsZero 0 4) (⟨⟨(dec 5 (Int.toNat x0))⟩⟩ : ByteArray))) hp0)
  (none) := by kernel_rfl

theorem t_dg9_6 {α : Type} (K : Value → Hp → Option α) (x0 : Int) : einv PP tab (oFI 6) 60 (.func 30) [.int .i64 x0, .int .i64 9] hp0 K =
  cond (true && ((decide ((100000 : Int) ≤ x0)) && (decide ((x0 : Int) < 1000000))))
  (K (.string (bApp (bSub bsZero 0 3) (⟨⟨(dec 6 (Int.toNat x0))⟩⟩ : ByteArray))) hp0)
  (none) := by kernel_rfl

theorem t_dg9_7 {α : Type} (K : Value → Hp → Option α) (x0 : Int) : einv PP tab (oFI 7) 60 (.func 30) [.int .i64 x0, .int .i64 9] hp0 K =
  cond (true && ((decide ((1000000 : Int) ≤ x0)) && (decide ((x0 : Int) < 10000000))))
  (K (.string (bApp (bSub bsZero 0 2) (⟨⟨(dec 7 (Int.toNat x0))⟩⟩ : ByteArray))) hp0)
  (none) := by kernel_rfl

theorem t_dg9_8 {α : Type} (K : Value → Hp → Option α) (x0 : Int) : einv PP tab (oFI 8) 60 (.func 30) [.int .i64 x0, .int .i64 9] hp0 K =
  cond (true && ((decide ((10000000 : Int) ≤ x0)) && (decide ((x0 : Int) < 100000000))))
  (K (.string (bApp (⟨⟨[48]⟩⟩ : ByteArray) (⟨⟨(dec 8 (Int.toNat x0))⟩⟩ : ByteArray))) hp0)
  (none) := by kernel_rfl

theorem t_dg9_9 {α : Type} (K : Value → Hp → Option α) (x0 : Int) : einv PP tab (oFI 9) 60 (.func 30) [.int .i64 x0, .int .i64 9] hp0 K =
  cond (true && ((decide ((100000000 : Int) ≤ x0)) && (decide ((x0 : Int) < 1000000000))))
  (K (.string (bApp (⟨⟨[]⟩⟩ : ByteArray) (⟨⟨(dec 9 (Int.toNat x0))⟩⟩ : ByteArray))) hp0)
  (none) := by kernel_rfl

end Go.Ev
end
section
set_option linter.unusedSimpArgs false
set_option linter.unusedVariables false
set_option maxHeartbeats 1000000
namespace Go.Ev
open Go
theorem dec_zero (j : Nat) : dec j 0 = List.replicate j 48 := by
  induction j with
  | zero => rfl
  | succ j ih =>
    show dec j (0 / 10) ++ [UInt8.ofNat (48 + 0 % 10)] = _
    rw [Nat.zero_div, ih, List.replicate_succ']; rfl
theorem dec_pad (j : Nat) : ∀ (k n : Nat), n < 10 ^ k → dec (k + j) n = List.replicate j 48 ++ dec k n
  | 0, n, h => by
    have : n = 0 := by simpa using h
    subst this
    rw [Nat.zero_add, dec_zero]; simp [dec]
  | k + 1, n, h => by
    rw [show k + 1 + j = (k + j) + 1 from by omega]
    show dec (k + j) (n / 10) ++ [UInt8.ofNat (48 + n % 10)] = List.replicate j 48 ++ (dec k (n / 10) ++ [UInt8.ofNat (48 + n % 10)])
    rw [dec_pad j k (n / 10) (by rw [Nat.pow_succ] at h; omega), List.append_assoc]
theorem zero_app (j : Nat) (l : List UInt8) (h : bSub bsZero 0 j = ⟨⟨List.replicate j 48⟩⟩) : bApp (bSub bsZero 0 j) ⟨⟨l⟩⟩ = ⟨⟨List.replicate j 48 ++ l⟩⟩ := by rw [h]; rfl
theorem pad_str (j k n : Nat) (h : n < 10 ^ k) (hz : bSub bsZero 0 j = ⟨⟨List.replicate j 48⟩⟩) : Value.string (bApp (bSub bsZero 0 j) ⟨⟨dec k n⟩⟩) = .string ⟨⟨dec (k + j) n⟩⟩ := by
  rw [zero_app j _ hz, dec_pad j k n h]
theorem pad_nil (k n : Nat) : Value.string (bApp ⟨⟨[]⟩⟩ ⟨⟨dec k n⟩⟩) = .string ⟨⟨dec k n⟩⟩ := rfl
theorem rDg2_1 (x : Int) (h1 : 0 ≤ x) (h2 : x < 10) : Run1 (oFI 1) 30 [.int .i64 x, .int .i64 2] (.string ⟨⟨dec 2 x.toNat⟩⟩) := by
  refine ⟨60, ?_⟩
  rw [t_dg2_1]
  refine Res.ctb (by simp; omega) (Res.done ?_ rfl)
  exact pad_str 1 1 _ (by omega) (by decide +kernel)
theorem rDg2_2 (x : Int) (h1 : 10 ≤ x) (h2 : x < 100) : Run1 (oFI 2) 30 [.int .i64 x, .int .i64 2] (.string ⟨⟨dec 2 x.toNat⟩⟩) := by
  refine ⟨60, ?_⟩
  rw [t_dg2_2]
  refine Res.ctb (by simp; omega) (Res.done ?_ rfl)
  exact pad_nil 2 _
theorem rDg4_1 (x : Int) (h1 : 0 ≤ x) (h2 : x < 10) : Run1 (oFI 1) 30 [.int .i64 x, .int .i64 4] (.string ⟨⟨dec 4 x.toNat⟩⟩) := by
  refine ⟨60, ?_⟩
  rw [t_dg4_1]
  refine Res.ctb (by simp; omega) (Res.done ?_ rfl)
  exact pad_str 3 1 _ (by omega) (by decide +kernel)
theorem rDg4_2 (x : Int) (h1 : 10 ≤ x) (h2 : x < 100) : Run1 (oFI 2) 30 [.int .i64 x, .int .i64 4] (.string ⟨⟨dec 4 x.toNat⟩⟩) := by
  refine ⟨60, ?_⟩
  rw [t_dg4_2]
  refine Res.ctb (by simp; omega) (Res.done ?_ rfl)
  exact pad_str 2 2 _ (by omega) (by decide +kernel)
theorem rDg4_3 (x : Int) (h1 : 100 ≤ x) (h2 : x < 1000) : Run1 (oFI 3) 30 [.int .i64 x, .int .i64 4] (.string ⟨⟨dec 4 x.toNat⟩⟩) := by
  refine ⟨60, ?_⟩
  rw [t_dg4_3]
  refine Res.ctb (by simp; omega) (Res.done ?_ rfl)
  exact pad_str 1 3 _ (by omega) (by decide +kernel)
theorem rDg4_4 (x : Int) (h1 : 1000 ≤ x) (h2 : x < 10000) : Run1 (oFI 4) 30 [.int .i64 x, .int .i64 4] (.string ⟨⟨dec 4 x.toNat⟩⟩) := by
  refine ⟨60, ?_⟩
  rw [t_dg4_4]
  refine Res.ctb (by simp; omega) (Res.done ?_ rfl)
  exact pad_nil 4 _
theorem rDg6_1 (x : Int) (h1 : 0 ≤ x) (h2 : x < 10) : Run1 (oFI 1) 30 [.int .i64 x, .int .i64 6] (.string ⟨⟨dec 6 x.toNat⟩⟩) := by
  refine ⟨60, ?_⟩
  rw [t_dg6_1]
  refine Res.ctb (by simp; omega) (Res.done ?_ rfl)
  exact pad_str 5 1 _ (by omega) (by decide +kernel)
theorem rDg6_2 (x : Int) (h1 : 10 ≤ x) (h2 : x < 100) : Run1 (oFI 2) 30 [.int .i64 x, .int .i64 6] (.string ⟨⟨dec 6 x.toNat⟩⟩) := by
  refine ⟨60, ?_⟩
  rw [t_dg6_2]
  refine Res.ctb (by simp; omega) (Res.done ?_ rfl)
  exact pad_str 4 2 _ (by omega) (by decide +kernel)
theorem rDg6_3 (x : Int) (h1 : 100 ≤ x) (h2 : x < 1000) : Run1 (oFI 3) 30 [.int .i64 x, .int .i64 6] (.string ⟨⟨dec 6 x.toNat⟩⟩) := by
  refine ⟨60, ?_⟩
  rw [t_dg6_3]
  refine Res.ctb (by simp; omega) (Res.done ?_ rfl)
  exact pad_str 3 3 _ (by omega) (by decide +kernel)
theorem rDg6_4 (x : Int) (h1 : 1000 ≤ x) (h2 : x < 10000) : Run1 (oFI 4) 30 [.int .i64 x, .int .i64 6] (.string ⟨⟨dec 6 x.toNat⟩⟩) := by
  refine ⟨60, ?_⟩
  rw [t_dg6_4]
  refine Res.ctb (by simp; omega) (Res.done ?_ rfl)
  exact pad_str 2 4 _ (by omega) (by decide +kernel)
theorem rDg6_5 (x : Int) (h1 : 10000 ≤ x) (h2 : x < 100000) : Run1 (oFI 5) 30 [.int .i64 x, .int .i64 6] (.string ⟨⟨dec 6 x.toNat⟩⟩) := by
  refine ⟨60, ?_⟩
  rw [t_dg6_5]
  refine Res.ctb (by simp; omega) (Res.done ?_ rfl)
  exact pad_str 1 5 _ (by omega) (by decide +kernel)
theorem rDg6_6 (x : Int) (h1 : 100000 ≤ x) (h2 : x < 1000000) : Run1 (oFI 6) 30 [.int .i64 x, .int .i64 6] (.string ⟨⟨dec 6 x.toNat⟩⟩) := by
  refine ⟨60, ?_⟩
  rw [t_dg6_6]
  refine Res.ctb (by simp; omega) (Res.done ?_ rfl)
  exact pad_nil 6 _
theorem rDg9_1 (x : Int) (h1 : 0 ≤ x) (h2 : x < 10) : Run1 (oFI 1) 30 [.int .i64 x, .int .i64 9] (.string ⟨⟨dec 9 x.toNat⟩⟩) := by
  refine ⟨60, ?_⟩
  rw [t_dg9_1]
  refine Res.ctb (by simp; omega) (Res.done ?_ rfl)
  exact pad_str 8 1 _ (by omega) (by decide +kernel)
theorem rDg9_2 (x : Int) (h1 : 10 ≤ x) (h2 : x < 100) : Run1 (oFI 2) 30 [.int .i64 x, .int .i64 9] (.string ⟨⟨dec 9 x.toNat⟩⟩) := by
  refine ⟨60, ?_⟩
  rw [t_dg9_2]
  refine Res.ctb (by simp; omega) (Res.done ?_ rfl)
  exact pad_str 7 2 _ (by omega) (by decide +kernel)
theorem rDg9_3 (x : Int) (h1 : 100 ≤ x) (h2 : x < 1000) : Run1 (oFI 3) 30 [.int .i64 x, .int .i64 9] (.string ⟨⟨dec 9 x.toNat⟩⟩) := by
  refine ⟨60, ?_⟩
  rw [t_dg9_3]
  refine Res.ctb (by simp; omega) (Res.done ?_ rfl)
  exact pad_str 6 3 _ (by omega) (by decide +kernel)
theorem rDg9_4 (x : Int) (h1 : 1000 ≤ x) (h2 : x < 10000) : Run1 (oFI 4) 30 [.int .i64 x, .int .i64 9] (.string ⟨⟨dec 9 x.toNat⟩⟩) := by
  refine ⟨60, ?_⟩
  rw [t_dg9_4]
  refine Res.ctb (by simp; omega) (Res.done ?_ rfl)
  exact pad_str 5 4 _ (by omega) (by decide +kernel)
theorem rDg9_5 (x : Int) (h1 : 10000 ≤ x) (h2 : x < 100000) : Run1 (oFI 5) 30 [.int .i64 x, .int .i64 9] (.string ⟨⟨dec 9 x.toNat⟩⟩) := by
  refine ⟨60, ?_⟩
  rw [t_dg9_5]
  refine Res.ctb (by simp; omega) (Res.done ?_ rfl)
  exact pad_str 4 5 _ (by omega) (by decide +kernel)
theorem rDg9_6 (x : Int) (h1 : 100000 ≤ x) (h2 : x < 1000000) : Run1 (oFI 6) 30 [.int .i64 x, .int .i64 9] (.string ⟨⟨dec 9 x.toNat⟩⟩) := by
  refine ⟨60, ?_⟩
  rw [t_dg9_6]
  refine Res.ctb (by simp; omega) (Res.done ?_ rfl)
  exact pad_str 3 6 _ (by omega) (by decide +kernel)
theorem rDg9_7 (x : Int) (h1 : 1000000 ≤ x) (h2 : x < 10000000) : Run1 (oFI 7) 30 [.int .i64 x, .int .i64 9] (.string ⟨⟨dec 9 x.toNat⟩⟩) := by
  refine ⟨60, ?_⟩
  rw [t_dg9_7]
  refine Res.ctb (by simp; omega) (Res.done ?_ rfl)
  exact pad_str 2 7 _ (by omega) (by decide +kernel)
theorem rDg9_8 (x : Int) (h1 : 10000000 ≤ x) (h2 : x < 100000000) : Run1 (oFI 8) 30 [.int .i64 x, .int .i64 9] (.string ⟨⟨dec 9 x.toNat⟩⟩) := by
  refine ⟨60, ?_⟩
  rw [t_dg9_8]
  refine Res.ctb (by simp; omega) (Res.done ?_ rfl)
  exact pad_str 1 8 _ (by omega) (by decide +kernel)
theorem rDg9_9 (x : Int) (h1 : 100000000 ≤ x) (h2 : x < 1000000000) : Run1 (oFI 9) 30 [.int .i64 x, .int .i64 9] (.string ⟨⟨dec 9 x.toNat⟩⟩) := by
  refine ⟨60, ?_⟩
  rw [t_dg9_9]
  refine Res.ctb (by simp; omega) (Res.done ?_ rfl)
  exact pad_nil 9 _
noncomputable section
def mDg : List Value → Option (Bool × Value)
  | [.int .i64 x, .int .i64 l] => some ((l == 2 || l == 4 || l == 6 || l == 9) && (decide (0 ≤ x) && decide (x < (10 : Int) ^ l.toNat)), .string ⟨⟨dec l.toNat x.toNat⟩⟩)
  | _ => none
def oDg : Orc := orcB baseB 30 mDg
theorem okDg : OrcOk PP tab oDg := by
  refine orcB_ok' beneath ppF ppF2 fun args v h => ?_
  unfold mDg at h
  split at h
  · rename_i x l
    simp only [Option.some.injEq, Prod.mk.injEq, Bool.and_eq_true, Bool.or_eq_true, beq_iff_eq, decide_eq_true_eq] at h
    obtain ⟨⟨hl, h1, h2⟩, rfl⟩ := h
    refine ⟨rfl, rfl, ?_⟩
    rcases hl with ((rfl | rfl) | rfl) | rfl
    · have h2 : x < 100 := by simpa using h2
      by_cases c1 : x < 10
      · exact ⟨oFI 1, okFI1, rDg2_1 x (by omega) (by omega)⟩
      exact ⟨oFI 2, okFI2, rDg2_2 x (by omega) (by omega)⟩
    · have h2 : x < 10000 := by simpa using h2
      by_cases c1 : x < 10
      · exact ⟨oFI 1, okFI1, rDg4_1 x (by omega) (by omega)⟩
      by_cases c2 : x < 100
      · exact ⟨oFI 2, okFI2, rDg4_2 x (by omega) (by omega)⟩
      by_cases c3 : x < 1000
      · exact ⟨oFI 3, okFI3, rDg4_3 x (by omega) (by omega)⟩
      exact ⟨oFI 4, okFI4, rDg4_4 x (by omega) (by omega)⟩
    · have h2 : x < 1000000 := by simpa using h2
      by_cases c1 : x < 10
      · exact ⟨oFI 1, okFI1, rDg6_1 x (by omega) (by omega)⟩
      by_cases c2 : x < 100
      · exact ⟨oFI 2, okFI2, rDg6_2 x (by omega) (by omega)⟩
      by_cases c3 : x < 1000
      · exact ⟨oFI 3, okFI3, rDg6_3 x (by omega) (by omega)⟩
      by_cases c4 : x < 10000
      · exact ⟨oFI 4, okFI4, rDg6_4 x (by omega) (by omega)⟩
      by_cases c5 : x < 100000
      · exact ⟨oFI 5, okFI5, rDg6_5 x (by omega) (by omega)⟩
      exact ⟨oFI 6, okFI6, rDg6_6 x (by omega) (by omega)⟩
    · have h2 : x < 1000000000 := by simpa using h2
      by_cases c1 : x < 10
      · exact ⟨oFI 1, okFI1, rDg9_1 x (by omega) (by omega)⟩
      by_cases c2 : x < 100
      · exact ⟨oFI 2, okFI2, rDg9_2 x (by omega) (by omega)⟩
      by_cases c3 : x < 1000
      · exact ⟨oFI 3, okFI3, rDg9_3 x (by omega) (by omega)⟩
      by_cases c4 : x < 10000
      · exact ⟨oFI 4, okFI4, rDg9_4 x (by omega) (by omega)⟩
      by_cases c5 : x < 100000
      · exact ⟨oFI 5, okFI5, rDg9_5 x (by omega) (by omega)⟩
      by_cases c6 : x < 1000000
      · exact ⟨oFI 6, okFI6, rDg9_6 x (by omega) (by omega)⟩
      by_cases c7 : x < 10000000
      · exact ⟨oFI 7, okFI7, rDg9_7 x (by omega) (by omega)⟩
      by_cases c8 : x < 100000000
      · exact ⟨oFI 8, okFI8, rDg9_8 x (by omega) (by omega)⟩
      exact ⟨oFI 9, okFI9, rDg9_9 x (by omega) (by omega)⟩
  · cases h
end
end Go.Ev
end
section
set_option linter.unusedSimpArgs false
set_option linter.unusedVariables false
set_option maxRecDepth 100000
set_option linter.unusedVariables false
namespace Go.Ev
open Go
theorem t_part {α : Type} (K : Value → Hp → Option α) (x0 : Int) : einv PP tab oDg 60 (.func 33) [.int .i64 x0] hp0 K =
  cond (x0 == 0)
  (K (.string (⟨⟨[]⟩⟩ : ByteArray)) hp0)
  (cond (true && ((decide ((0 : Int) ≤ x0)) && (decide ((x0 : Int) < 1000000000))))
    (cond ((((UInt8.toNat (UInt8.ofNat (48 + ((Int.toNat x0) % 10)))) : Nat) : Int) == 48)
      (cond ((((UInt8.toNat (UInt8.ofNat (48 + (((Int.toNat x0) / 10) % 10)))) : Nat) : Int) == 48)
        (cond ((((UInt8.toNat (UInt8.ofNat (48 + ((((Int.toNat x0) / 10) / 10) % 10)))) : Nat) : Int) == 48)
          (cond ((((UInt8.toNat (UInt8.ofNat (48 + (((((Int.toNat x0) / 10) / 10) / 10) % 10)))) : Nat) : Int) == 48)
            (cond ((((UInt8.toNat (UInt8.ofNat (48 + ((((((Int.toNat x0) / 10) / 10) / 10) / 10) % 10)))) : Nat) : Int) == 48)
              (cond ((((UInt8.toNat (UInt8.ofNat (48 + (((((((Int.toNat x0) / 10) / 10) / 10) / 10) / 10) % 10)))) : Nat) : Int) == 48)
                (cond ((((UInt8.toNat (UInt8.ofNat (48 + ((((((((Int.toNat x0) / 10) / 10) / 10) / 10) / 10) / 10) % 10)))) : Nat) : Int) == 48)
                  (cond ((((UInt8.toNat (UInt8.ofNat (48 + (((((((((Int.toNat x0) / 10) / 10) / 10) / 10) / 10) / 10) / 10) % 10)))) : Nat) : Int) == 48)
                    (cond ((((UInt8.toNat (UInt8.ofNat (48 + ((((((((((Int.toNat x0) / 10) / 10) / 10) / 10) / 10) / 10) / 10) / 10) % 10)))) : Nat) : Int) == 48)
                      (K (.string (bApp (⟨⟨[46]⟩⟩ : ByteArray) (bSub (bSub (bSub (bSub (bSub (bSub (bSub (bSub (bSub (⟨⟨(dec 9 (Int.toNat x0))⟩⟩ : ByteArray) 0 8) 0 7) 0 6) 0 5) 0 4) 0 3) 0 2) 0 1) 0 0))) hp0)
                      (K (.string (bApp (⟨⟨[46]⟩⟩ : ByteArray) (bSub (bSub (bSub (bSub (bSub (bSub (bSub (bSub (⟨⟨(dec 9 (Int.toNat x0))⟩⟩ : ByteArray) 0 8) 0 7) 0 6) 0 5) 0 4) 0 3) 0 2) 0 1))) hp0))
                    (K (.string (bApp (⟨⟨[46]⟩⟩ : ByteArray) (bSub (bSub (bSub (bSub (bSub (bSub (bSub (⟨⟨(dec 9 (Int.toNat x0))⟩⟩ : ByteArray) 0 8) 0 7) 0 6) 0 5) 0 4) 0 3) 0 2))) hp0))
                  (K (.string (bApp (⟨⟨[46]⟩⟩ : ByteArray) (bSub (bSub (bSub (bSub (bSub (bSub (⟨⟨(dec 9 (Int.toNat x0))⟩⟩ : ByteArray) 0 8) 0 7) 0 6) 0 5) 0 4) 0 3))) hp0))
                (K (.string (bApp (⟨⟨[46]⟩⟩ : ByteArray) (bSub (bSub (bSub (bSub (bSub (⟨⟨(dec 9 (Int.toNat x0))⟩⟩ : ByteArray) 0 8) 0 7) 0 6) 0 5) 0 4))) hp0))
              (K (.string (bApp (⟨⟨[46]⟩⟩ : ByteArray) (bSub (bSub (bSub (bSub (⟨⟨(dec 9 (Int.toNat x0))⟩⟩ : ByteArray) 0 8) 0 7) 0 6) 0 5))) hp0))
            (K (.string (bApp (⟨⟨[46]⟩⟩ : ByteArray) (bSub (bSub (bSub (⟨⟨(dec 9 (Int.toNat x0))⟩⟩ : ByteArray) 0 8) 0 7) 0 6))) hp0))
          (K (.string (bApp (⟨⟨[46]⟩⟩ : ByteArray) (bSub (bSub (⟨⟨(dec 9 (Int.toNat x0))⟩⟩ : ByteArray) 0 8) 0 7))) hp0))
        (K (.string (bApp (⟨⟨[46]⟩⟩ : ByteArray) (bSub (⟨⟨(dec 9 (Int.toNat x0))⟩⟩ : ByteArray) 0 8))) hp0))
      (K (.string (bApp (⟨⟨[46]⟩⟩ : ByteArray) (⟨⟨(dec 9 (Int.toNat x0))⟩⟩ : ByteArray))) hp0))
    (none)) := by kernel_rfl

theorem t_rdg2 {α : Type} (K : Value → Hp → Option α) (x0 : Int) : einv PP tab noO 60 (.func 22) [.int .i64 x0, .int .i64 2] hp0 K =
  K (.string (bApp (⟨⟨((UInt8.ofNat (Int.toNat (kw .u8 (kw .i64 (48 + (Int.tmod (kw .i64 (Int.tdiv x0 10)) 10)))))) :: [])⟩⟩ : ByteArray) (bApp (⟨⟨((UInt8.ofNat (Int.toNat (kw .u8 (kw .i64 (48 + (Int.tmod x0 10)))))) :: [])⟩⟩ : ByteArray) (⟨⟨[]⟩⟩ : ByteArray)))) hp0 := by kernel_rfl

theorem t_rdg4 {α : Type} (K : Value → Hp → Option α) (x0 : Int) : einv PP tab noO 60 (.func 22) [.int .i64 x0, .int .i64 4] hp0 K =
  K (.string (bApp (⟨⟨((UInt8.ofNat (Int.toNat (kw .u8 (kw .i64 (48 + (Int.tmod (kw .i64 (Int.tdiv (kw .i64 (Int.tdiv (kw .i64 (Int.tdiv x0 10)) 10)) 10)) 10)))))) :: [])⟩⟩ : ByteArray) (bApp (⟨⟨((UInt8.ofNat (Int.toNat (kw .u8 (kw .i64 (48 + (Int.tmod (kw .i64 (Int.tdiv (kw .i64 (Int.tdiv x0 10)) 10)) 10)))))) :: [])⟩⟩ : ByteArray) (bApp (⟨⟨((UInt8.ofNat (Int.toNat (kw .u8 (kw .i64 (48 + (Int.tmod (kw .i64 (Int.tdiv x0 10)) 10)))))) :: [])⟩⟩ : ByteArray) (bApp (⟨⟨((UInt8.ofNat (Int.toNat (kw .u8 (kw .i64 (48 + (Int.tmod x0 10)))))) :: [])⟩⟩ : ByteArray) (⟨⟨[]⟩⟩ : ByteArray)))))) hp0 := by kernel_rfl

theorem t_rdg6 {α : Type} (K : Value → Hp → Option α) (x0 : Int) : einv PP tab noO 60 (.func 22) [.int .i64 x0, .int .i64 6] hp0 K =
  K (.string (bApp (⟨⟨((UInt8.ofNat (Int.toNat (kw .u8 (kw .i64 (48 + (Int.tmod (kw .i64 (Int.tdiv (kw .i64 (Int.tdiv (kw .i64 (Int.tdiv (kw .i64 (Int.tdiv (kw .i64 (Int.tdiv x0 10)) 10)) 10)) 10)) 10)) 10)))))) :: [])⟩⟩ : ByteArray) (bApp (⟨⟨((UInt8.ofNat (Int.toNat (kw .u8 (kw .i64 (48 + (Int.tmod (kw .i64 (Int.tdiv (kw .i64 (Int.tdiv (kw .i64 (Int.tdiv (kw .i64 (Int.tdiv x0 10)) 10)) 10)) 10)) 10)))))) :: [])⟩⟩ : ByteArray) (bApp (⟨⟨((UInt8.ofNat (Int.toNat (kw .u8 (kw .i64 (48 + (Int.tmod (kw .i64 (Int.tdiv (kw .i64 (Int.tdiv (kw .i64 (Int.tdiv x0 10)) 10)) 10)) 10)))))) :: [])⟩⟩ : ByteArray) (bApp (⟨⟨((UInt8.ofNat (Int.toNat (kw .u8 (kw .i64 (48 + (Int.tmod (kw .i64 (Int.tdiv (kw .i64 (Int.tdiv x0 10)) 10)) 10)))))) :: [])⟩⟩ : ByteArray) (bApp (⟨⟨((UInt8.ofNat (Int.toNat (kw .u8 (kw .i64 (48 + (Int.tmod (kw .i64 (Int.tdiv x0 10)) 10)))))) :: [])⟩⟩ : ByteArray) (bApp (⟨⟨((UInt8.ofNat (Int.toNat (kw .u8 (kw .i64 (48 + (Int.tmod x0 10)))))) :: [])⟩⟩ : ByteArray) (⟨⟨[]⟩⟩ : ByteArray)))))))) hp0 := by kernel_rfl

theorem t_rdg9 {α : Type} (K : Value → Hp → Option α) (x0 : Int) : einv PP tab noO 60 (.func 22) [.int .i64 x0, .int .i64 9] hp0 K =
  K (.string (bApp (⟨⟨((UInt8.ofNat (Int.toNat (kw .u8 (kw .i64 (48 + (Int.tmod (kw .i64 (Int.tdiv (kw .i64 (Int.tdiv (kw .i64 (Int.tdiv (kw .i64 (Int.tdiv (kw .i64 (Int.tdiv (kw .i64 (Int.tdiv (kw .i64 (Int.tdiv (kw .i64 (Int.tdiv x0 10)) 10)) 10)) 10)) 10)) 10)) 10)) 10)) 10)))))) :: [])⟩⟩ : ByteArray) (bApp (⟨⟨((UInt8.ofNat (Int.toNat (kw .u8 (kw .i64 (48 + (Int.tmod (kw .i64 (Int.tdiv (kw .i64 (Int.tdiv (kw .i64 (Int.tdiv (kw .i64 (Int.tdiv (kw .i64 (Int.tdiv (kw .i64 (Int.tdiv (kw .i64 (Int.tdiv x0 10)) 10)) 10)) 10)) 10)) 10)) 10)) 10)))))) :: [])⟩⟩ : ByteArray) (bApp (⟨⟨((UInt8.ofNat (Int.toNat (kw .u8 (kw .i64 (48 + (Int.tmod (kw .i64 (Int.tdiv (kw .i64 (Int.tdiv (kw .i64 (Int.tdiv (kw .i64 (Int.tdiv (kw .i64 (Int.tdiv (kw .i64 (Int.tdiv x0 10)) 10)) 10)) 10)) 10)) 10)) 10)))))) :: [])⟩⟩ : ByteArray) (bApp (⟨⟨((UInt8.ofNat (Int.toNat (kw .u8 (kw .i64 (48 + (Int.tmod (kw .i64 (Int.tdiv (kw .i64 (Int.tdiv (kw .i64 (Int.tdiv (kw .i64 (Int.tdiv (kw .i64 (Int.tdiv x0 10)) 10)) 10)) 10)) 10)) 10)))))) :: [])⟩⟩ : ByteArray) (bApp (⟨⟨((UInt8.ofNat (Int.toNat (kw .u8 (kw .i64 (48 + (Int.tmod (kw .i64 (Int.tdiv (kw .i64 (Int.tdiv (kw .i64 (Int.tdiv (kw .i64 (Int.tdiv x0 10)) 10)) 10)) 10)) 10)))))) :: [])⟩⟩ : ByteArray) (bApp (⟨⟨((UInt8.ofNat (Int.toNat (kw .u8 (kw .i64 (48 + (Int.tmod (kw .i64 (Int.tdiv (kw .i64 (Int.tdiv (kw .i64 (Int.tdiv x0 10)) 10)) 10)) 10)))))) :: [])⟩⟩ : ByteArray) (bApp (⟨⟨((UInt8.ofNat (Int.toNat (kw .u8 (kw .i64 (48 + (Int.tmod (kw .i64 (Int.tdiv (kw .i64 (Int.tdiv x0 10)) 10)) 10)))))) :: [])⟩⟩ : ByteArray) (bApp (⟨⟨((UInt8.ofNat (Int.toNat (kw .u8 (kw .i64 (48 + (Int.tmod (kw .i64 (Int.tdiv x0 10)) 10)))))) :: [])⟩⟩ : ByteArray) (bApp (⟨⟨((UInt8.ofNat (Int.toNat (kw .u8 (kw .i64 (48 + (Int.tmod x0 10)))))) :: [])⟩⟩ : ByteArray) (⟨⟨[]⟩⟩ : ByteArray))))))))))) hp0 := by kernel_rfl

end Go.Ev
end
section
set_option linter.unusedSimpArgs false
set_option linter.unusedVariables false
set_option maxHeartbeats 1000000
namespace Go.Ev
open Go
theorem dec_len : ∀ (k n : Nat), (dec k n).length = k
  | 0, _ => rfl
  | k + 1, n => by show (dec k (n / 10) ++ [_]).length = _; rw [List.length_append, dec_len]; rfl
theorem bsub_dec (k n : Nat) : bSub ⟨⟨dec (k + 1) n⟩⟩ 0 k = ⟨⟨dec k (n / 10)⟩⟩ := by
  show (⟨⟨((dec k (n / 10) ++ [UInt8.ofNat (48 + n % 10)]).drop 0).take (k - 0)⟩⟩ : ByteArray) = _
  rw [List.drop_zero, Nat.sub_zero, List.take_left' (dec_len _ _)]
theorem d48 (d : Nat) : (((UInt8.toNat (UInt8.ofNat (48 + d % 10)) : Nat) : Int) == 48) = decide (d % 10 = 0) := by
  rw [Bool.eq_iff_iff]
  simp only [beq_iff_eq, decide_eq_true_eq, UInt8.toNat_ofNat']
  omega
/-- The digits without the zeros at the end. -/
def stripD : Nat → Nat → List UInt8
  | 0, _ => []
  | k + 1, n => if n % 10 = 0 then stripD k (n / 10) else dec (k + 1) n
theorem strip_t {k n : Nat} (h : n % 10 = 0) : stripD (k + 1) n = stripD k (n / 10) := if_pos h
theorem strip_f {k n : Nat} (h : ¬ n % 10 = 0) : stripD (k + 1) n = dec (k + 1) n := if_neg h
def partL (n : Nat) : List UInt8 := if n = 0 then [] else 46 :: stripD 9 n
theorem dot_str {l m : List UInt8} (h : l = m) : Value.string (bApp ⟨⟨[46]⟩⟩ ⟨⟨l⟩⟩) = .string ⟨⟨46 :: m⟩⟩ := by rw [h]; rfl

theorem rPart (x : Int) (h1 : 0 ≤ x) (h2 : x < 1000000000) : Run1 oDg 33 [.int .i64 x] (.string ⟨⟨partL x.toNat⟩⟩) := by
  refine ⟨60, ?_⟩
  rw [t_part]
  by_cases h0 : x = 0
  · subst h0
    exact Res.eqt rfl (Res.done rfl rfl)
  · refine Res.eqf h0 (Res.ctb (by simp; omega) ?_)
    have hn : ¬ x.toNat = 0 := by omega
    unfold partL
    rw [if_neg hn]
    simp only [d48, bsub_dec]
    generalize x.toNat = n
    refine Res.split (fun c0 => ?_) (fun c0 => ?_)
    rotate_left
    · refine Res.done (dot_str ?_) rfl
      rw [strip_f c0]
    refine Res.split (fun c1 => ?_) (fun c1 => ?_)
    rotate_left
    · refine Res.done (dot_str ?_) rfl
      rw [strip_t c0, strip_f c1]
    refine Res.split (fun c2 => ?_) (fun c2 => ?_)
    rotate_left
    · refine Res.done (dot_str ?_) rfl
      rw [strip_t c0, strip_t c1, strip_f c2]
    refine Res.split (fun c3 => ?_) (fun c3 => ?_)
    rotate_left
    · refine Res.done (dot_str ?_) rfl
      rw [strip_t c0, strip_t c1, strip_t c2, strip_f c3]
    refine Res.split (fun c4 => ?_) (fun c4 => ?_)
    rotate_left
    · refine Res.done (dot_str ?_) rfl
      rw [strip_t c0, strip_t c1, strip_t c2, strip_t c3, strip_f c4]
    refine Res.split (fun c5 => ?_) (fun c5 => ?_)
    rotate_left
    · refine Res.done (dot_str ?_) rfl
      rw [strip_t c0, strip_t c1, strip_t c2, strip_t c3, strip_t c4, strip_f c5]
    refine Res.split (fun c6 => ?_) (fun c6 => ?_)
    rotate_left
    · refine Res.done (dot_str ?_) rfl
      rw [strip_t c0, strip_t c1, strip_t c2, strip_t c3, strip_t c4, strip_t c5, strip_f c6]
    refine Res.split (fun c7 => ?_) (fun c7 => ?_)
    rotate_left
    · refine Res.done (dot_str ?_) rfl
      rw [strip_t c0, strip_t c1, strip_t c2, strip_t c3, strip_t c4, strip_t c5, strip_t c6, strip_f c7]
    refine Res.split (fun c8 => ?_) (fun c8 => ?_)
    rotate_left
    · refine Res.done (dot_str ?_) rfl
      rw [strip_t c0, strip_t c1, strip_t c2, strip_t c3, strip_t c4, strip_t c5, strip_t c6, strip_t c7, strip_f c8]
    refine Res.done (dot_str ?_) rfl
    rw [strip_t c0, strip_t c1, strip_t c2, strip_t c3, strip_t c4, strip_t c5, strip_t c6, strip_t c7, strip_t c8]
    rfl

/-- The reference's digits. -/
def rdig : Nat → Int → List UInt8
  | 0, _ => []
  | k + 1, n => rdig k (Int.tdiv n 10) ++ [UInt8.ofNat ((48 + Int.tmod n 10) % 256).toNat]
theorem rdig_pos : ∀ (k : Nat) (n : Int), 0 ≤ n → rdig k n = dec k n.toNat
  | 0, _, _ => rfl
  | k + 1, n, h => by
    show rdig k (Int.tdiv n 10) ++ _ = dec k (n.toNat / 10) ++ _
    rw [Int.tdiv_eq_ediv_of_nonneg h, Int.tmod_eq_emod_of_nonneg h, rdig_pos k _ (by omega), show (n / 10).toNat = n.toNat / 10 from by omega, show ((48 + n % 10) % 256).toNat = 48 + n.toNat % 10 from by omega]
theorem tdiv_lo (n : Int) (h1 : -9223372036854775808 ≤ n) (h2 : n ≤ 9223372036854775807) : -922337203685477580 ≤ Int.tdiv n 10 ∧ Int.tdiv n 10 ≤ 922337203685477580 := by
  rcases Int.le_total 0 n with h | h
  · rw [Int.tdiv_eq_ediv_of_nonneg h]; omega
  · have : Int.tdiv n 10 = -(Int.tdiv (-n) 10) := by rw [Int.neg_tdiv, Int.neg_neg]
    rw [this, Int.tdiv_eq_ediv_of_nonneg (by omega)]; omega
theorem tmod_lo (n : Int) : -9 ≤ Int.tmod n 10 ∧ Int.tmod n 10 ≤ 9 := by
  have h := Int.tmod_lt_of_pos n (show (0 : Int) < 10 by decide)
  have k := Int.lt_tmod_of_pos n (show (0 : Int) < 10 by decide)
  omega
theorem rdig_byte (n : Int) : UInt8.ofNat (Int.toNat (kw .u8 (kw .i64 (48 + Int.tmod n 10)))) = UInt8.ofNat ((48 + Int.tmod n 10) % 256).toNat := by
  have := tmod_lo n
  rw [kwi _ (by omega) (by omega), kw_u8]
end Go.Ev
end
section
set_option linter.unusedSimpArgs false
set_option linter.unusedVariables false
set_option maxHeartbeats 1000000
namespace Go.Ev
open Go
def I64 (n : Int) : Prop := -9223372036854775808 ≤ n ∧ n ≤ 9223372036854775807
theorem i64d {n : Int} (h : I64 n) : kw .i64 (Int.tdiv n 10) = Int.tdiv n 10 ∧ I64 (Int.tdiv n 10) := by
  have k := tdiv_lo n h.1 h.2
  exact ⟨kwi _ (by omega) (by omega), by unfold I64; omega⟩
theorem rRd2 (x : Int) (h : I64 x) : Run1 noO 22 [.int .i64 x, .int .i64 2] (.string ⟨⟨rdig 2 x⟩⟩) := by
  refine ⟨60, ?_⟩
  rw [t_rdg2]
  refine Res.done ?_ rfl
  have e1 := (i64d h).1
  have k1 := (i64d h).2
  simp only [e1, rdig_byte]
  rfl
theorem rRd4 (x : Int) (h : I64 x) : Run1 noO 22 [.int .i64 x, .int .i64 4] (.string ⟨⟨rdig 4 x⟩⟩) := by
  refine ⟨60, ?_⟩
  rw [t_rdg4]
  refine Res.done ?_ rfl
  have e1 := (i64d h).1
  have k1 := (i64d h).2
  have e2 := (i64d k1).1
  have k2 := (i64d k1).2
  have e3 := (i64d k2).1
  have k3 := (i64d k2).2
  simp only [e1, e2, e3, rdig_byte]
  rfl
theorem rRd6 (x : Int) (h : I64 x) : Run1 noO 22 [.int .i64 x, .int .i64 6] (.string ⟨⟨rdig 6 x⟩⟩) := by
  refine ⟨60, ?_⟩
  rw [t_rdg6]
  refine Res.done ?_ rfl
  have e1 := (i64d h).1
  have k1 := (i64d h).2
  have e2 := (i64d k1).1
  have k2 := (i64d k1).2
  have e3 := (i64d k2).1
  have k3 := (i64d k2).2
  have e4 := (i64d k3).1
  have k4 := (i64d k3).2
  have e5 := (i64d k4).1
  have k5 := (i64d k4).2
  simp only [e1, e2, e3, e4, e5, rdig_byte]
  rfl
theorem rRd9 (x : Int) (h : I64 x) : Run1 noO 22 [.int .i64 x, .int .i64 9] (.string ⟨⟨rdig 9 x⟩⟩) := by
  refine ⟨60, ?_⟩
  rw [t_rdg9]
  refine Res.done ?_ rfl
  have e1 := (i64d h).1
  have k1 := (i64d h).2
  have e2 := (i64d k1).1
  have k2 := (i64d k1).2
  have e3 := (i64d k2).1
  have k3 := (i64d k2).2
  have e4 := (i64d k3).1
  have k4 := (i64d k3).2
  have e5 := (i64d k4).1
  have k5 := (i64d k4).2
  have e6 := (i64d k5).1
  have k6 := (i64d k5).2
  have e7 := (i64d k6).1
  have k7 := (i64d k6).2
  have e8 := (i64d k7).1
  have k8 := (i64d k7).2
  simp only [e1, e2, e3, e4, e5, e6, e7, e8, rdig_byte]
  rfl
noncomputable section
def mPart : List Value → Option (Bool × Value)
  | [.int .i64 x] => some (decide (0 ≤ x) && decide (x < 1000000000), .string ⟨⟨partL x.toNat⟩⟩)
  | _ => none
def oPart : Orc := orcB baseB 33 mPart
theorem okPart : OrcOk PP tab oPart := by
  refine okOrc okDg fun args v h => ?_
  unfold mPart at h
  split at h
  · simp only [Option.some.injEq, Prod.mk.injEq, Bool.and_eq_true, decide_eq_true_eq] at h
    obtain ⟨⟨h1, h2⟩, rfl⟩ := h
    exact ⟨rfl, rfl, rPart _ h1 h2⟩
  · cases h
/-- The reference's digits, of any number. -/
def mRd : List Value → Option (Bool × Value)
  | [.int .i64 x, .int .i64 l] => some ((l == 2 || l == 4 || l == 6 || l == 9) && (decide (-1000000000000 ≤ x) && decide (x ≤ 1000000000000)), .string ⟨⟨rdig l.toNat x⟩⟩)
  | _ => none
def oRd : Orc := orcB baseB 22 mRd
theorem okRd : OrcOk PP tab oRd := by
  refine okOrc (O := noO) (fun _ _ _ _ _ _ _ h => .inl h) fun args v h => ?_
  unfold mRd at h
  split at h
  · rename_i x l
    simp only [Option.some.injEq, Prod.mk.injEq, Bool.and_eq_true, Bool.or_eq_true, beq_iff_eq, decide_eq_true_eq] at h
    obtain ⟨⟨hl, h1, h2⟩, rfl⟩ := h
    refine ⟨rfl, rfl, ?_⟩
    have h : I64 x := by unfold I64; omega
    rcases hl with ((rfl | rfl) | rfl) | rfl
    · exact rRd2 x h
    · exact rRd4 x h
    · exact rRd6 x h
    · exact rRd9 x h
  · cases h
/-- The same, of a number not below 0. -/
def mRp : List Value → Option (Bool × Value)
  | [.int .i64 x, .int .i64 l] => some ((l == 2 || l == 4 || l == 6 || l == 9) && (decide (0 ≤ x) && decide (x ≤ 1000000000000)), .string ⟨⟨dec l.toNat x.toNat⟩⟩)
  | _ => none
def oRp : Orc := orcB baseB 22 mRp
theorem okRp : OrcOk PP tab oRp := by
  refine okOrc (O := noO) (fun _ _ _ _ _ _ _ h => .inl h) fun args v h => ?_
  unfold mRp at h
  split at h
  · rename_i x l
    simp only [Option.some.injEq, Prod.mk.injEq, Bool.and_eq_true, Bool.or_eq_true, beq_iff_eq, decide_eq_true_eq] at h
    obtain ⟨⟨hl, h1, h2⟩, rfl⟩ := h
    refine ⟨rfl, rfl, ?_⟩
    have h : I64 x := by unfold I64; omega
    rw [← rdig_pos _ _ h1]
    rcases hl with ((rfl | rfl) | rfl) | rfl
    · exact rRd2 x h
    · exact rRd4 x h
    · exact rRd6 x h
    · exact rRd9 x h
  · cases h
end
end Go.Ev
end
section
set_option linter.unusedSimpArgs false
set_option linter.unusedVariables false
set_option maxRecDepth 100000
set_option linter.unusedVariables false
namespace Go.Ev
open Go
theorem t_rpart {α : Type} (K : Value → Hp → Option α) (x0 : Int) : einv PP tab oRp 60 (.func 23) [.int .i64 x0] hp0 K =
  cond (x0 == 0)
  (K (.string (⟨⟨[]⟩⟩ : ByteArray)) hp0)
  (cond (true && ((decide ((0 : Int) ≤ x0)) && (decide ((x0 : Int) ≤ 1000000000000))))
    (cond ((((UInt8.toNat (UInt8.ofNat (48 + ((Int.toNat x0) % 10)))) : Nat) : Int) == 48)
      (cond ((((UInt8.toNat (UInt8.ofNat (48 + (((Int.toNat x0) / 10) % 10)))) : Nat) : Int) == 48)
        (cond ((((UInt8.toNat (UInt8.ofNat (48 + ((((Int.toNat x0) / 10) / 10) % 10)))) : Nat) : Int) == 48)
          (cond ((((UInt8.toNat (UInt8.ofNat (48 + (((((Int.toNat x0) / 10) / 10) / 10) % 10)))) : Nat) : Int) == 48)
            (cond ((((UInt8.toNat (UInt8.ofNat (48 + ((((((Int.toNat x0) / 10) / 10) / 10) / 10) % 10)))) : Nat) : Int) == 48)
              (cond ((((UInt8.toNat (UInt8.ofNat (48 + (((((((Int.toNat x0) / 10) / 10) / 10) / 10) / 10) % 10)))) : Nat) : Int) == 48)
                (cond ((((UInt8.toNat (UInt8.ofNat (48 + ((((((((Int.toNat x0) / 10) / 10) / 10) / 10) / 10) / 10) % 10)))) : Nat) : Int) == 48)
                  (cond ((((UInt8.toNat (UInt8.ofNat (48 + (((((((((Int.toNat x0) / 10) / 10) / 10) / 10) / 10) / 10) / 10) % 10)))) : Nat) : Int) == 48)
                    (cond ((((UInt8.toNat (UInt8.ofNat (48 + ((((((((((Int.toNat x0) / 10) / 10) / 10) / 10) / 10) / 10) / 10) / 10) % 10)))) : Nat) : Int) == 48)
                      (none)
                      (K (.string (bApp (⟨⟨[46]⟩⟩ : ByteArray) (bSub (bSub (bSub (bSub (bSub (bSub (bSub (bSub (⟨⟨(dec 9 (Int.toNat x0))⟩⟩ : ByteArray) 0 8) 0 7) 0 6) 0 5) 0 4) 0 3) 0 2) 0 1))) hp0))
                    (K (.string (bApp (⟨⟨[46]⟩⟩ : ByteArray) (bSub (bSub (bSub (bSub (bSub (bSub (bSub (⟨⟨(dec 9 (Int.toNat x0))⟩⟩ : ByteArray) 0 8) 0 7) 0 6) 0 5) 0 4) 0 3) 0 2))) hp0))
                  (K (.string (bApp (⟨⟨[46]⟩⟩ : ByteArray) (bSub (bSub (bSub (bSub (bSub (bSub (⟨⟨(dec 9 (Int.toNat x0))⟩⟩ : ByteArray) 0 8) 0 7) 0 6) 0 5) 0 4) 0 3))) hp0))
                (K (.string (bApp (⟨⟨[46]⟩⟩ : ByteArray) (bSub (bSub (bSub (bSub (bSub (⟨⟨(dec 9 (Int.toNat x0))⟩⟩ : ByteArray) 0 8) 0 7) 0 6) 0 5) 0 4))) hp0))
              (K (.string (bApp (⟨⟨[46]⟩⟩ : ByteArray) (bSub (bSub (bSub (bSub (⟨⟨(dec 9 (Int.toNat x0))⟩⟩ : ByteArray) 0 8) 0 7) 0 6) 0 5))) hp0))
            (K (.string (bApp (⟨⟨[46]⟩⟩ : ByteArray) (bSub (bSub (bSub (⟨⟨(dec 9 (Int.toNat x0))⟩⟩ : ByteArray) 0 8) 0 7) 0 6))) hp0))
          (K (.string (bApp (⟨⟨[46]⟩⟩ : ByteArray) (bSub (bSub (⟨⟨(dec 9 (Int.toNat x0))⟩⟩ : ByteArray) 0 8) 0 7))) hp0))
        (K (.string (bApp (⟨⟨[46]⟩⟩ : ByteArray) (bSub (⟨⟨(dec 9 (Int.toNat x0))⟩⟩ : ByteArray) 0 8))) hp0))
      (K (.string (bApp (⟨⟨[46]⟩⟩ : ByteArray) (⟨⟨(dec 9 (Int.toNat x0))⟩⟩ : ByteArray))) hp0))
    (none)) := by kernel_rfl

theorem t_time {α : Type} (K : Value → Hp → Option α) (x0 : Int) (x1 : Int) (x2 : Int) (x3 : Int) : einv PP tab (orcA oPart oDg) 60 (.func 18) [.agg ⟨[.int .i64 x0, .int .i64 x1, .int .i64 x2, .int .i64 x3]⟩] hp0 K =
  cond (true && ((decide ((0 : Int) ≤ x0)) && (decide ((x0 : Int) < 100))))
  (cond (true && ((decide ((0 : Int) ≤ x1)) && (decide ((x1 : Int) < 100))))
    (cond (true && ((decide ((0 : Int) ≤ x2)) && (decide ((x2 : Int) < 100))))
      (cond ((decide ((0 : Int) ≤ x3)) && (decide ((x3 : Int) < 1000000000)))
        (if (((8 + (ByteArray.size (⟨⟨(partL (Int.toNat x3))⟩⟩ : ByteArray))) : Nat) ≤ 4611686018427387904) then (K (.string (bApp (bApp (bApp (bApp (bApp (⟨⟨(dec 2 (Int.toNat x0))⟩⟩ : ByteArray) (⟨⟨[58]⟩⟩ : ByteArray)) (⟨⟨(dec 2 (Int.toNat x1))⟩⟩ : ByteArray)) (⟨⟨[58]⟩⟩ : ByteArray)) (⟨⟨(dec 2 (Int.toNat x2))⟩⟩ : ByteArray)) (⟨⟨(partL (Int.toNat x3))⟩⟩ : ByteArray))) hp0)
          else (none))
        (none))
      (none))
    (none))
  (none) := by kernel_rfl

theorem t_date {α : Type} (K : Value → Hp → Option α) (x0 : Int) (x1 : Int) (x2 : Int) : einv PP tab oDg 60 (.func 16) [.agg ⟨[.int .i64 x0, .int .i64 x1, .int .i64 x2]⟩] hp0 K =
  cond (true && ((decide ((0 : Int) ≤ x1)) && (decide ((x1 : Int) < 100))))
  (cond (true && ((decide ((0 : Int) ≤ x2)) && (decide ((x2 : Int) < 100))))
    (cond (decide ((x0 : Int) < 0))
      (cond (true && ((decide ((0 : Int) ≤ (kw .i64 (0 - x0)))) && (decide (((kw .i64 (0 - x0)) : Int) < 1000000))))
        (K (.string (bApp (bApp (⟨⟨[45]⟩⟩ : ByteArray) (⟨⟨(dec 6 (Int.toNat (kw .i64 (0 - x0))))⟩⟩ : ByteArray)) (bApp (bApp (bApp (⟨⟨[45]⟩⟩ : ByteArray) (⟨⟨(dec 2 (Int.toNat x1))⟩⟩ : ByteArray)) (⟨⟨[45]⟩⟩ : ByteArray)) (⟨⟨(dec 2 (Int.toNat x2))⟩⟩ : ByteArray)))) hp0)
        (none))
      (cond (decide ((x0 : Int) > 9999))
        (cond (true && ((decide ((0 : Int) ≤ x0)) && (decide ((x0 : Int) < 1000000))))
          (K (.string (bApp (bApp (⟨⟨[43]⟩⟩ : ByteArray) (⟨⟨(dec 6 (Int.toNat x0))⟩⟩ : ByteArray)) (bApp (bApp (bApp (⟨⟨[45]⟩⟩ : ByteArray) (⟨⟨(dec 2 (Int.toNat x1))⟩⟩ : ByteArray)) (⟨⟨[45]⟩⟩ : ByteArray)) (⟨⟨(dec 2 (Int.toNat x2))⟩⟩ : ByteArray)))) hp0)
          (none))
        (cond (true && ((decide ((0 : Int) ≤ x0)) && (decide ((x0 : Int) < 10000))))
          (K (.string (bApp (⟨⟨(dec 4 (Int.toNat x0))⟩⟩ : ByteArray) (bApp (bApp (bApp (⟨⟨[45]⟩⟩ : ByteArray) (⟨⟨(dec 2 (Int.toNat x1))⟩⟩ : ByteArray)) (⟨⟨[45]⟩⟩ : ByteArray)) (⟨⟨(dec 2 (Int.toNat x2))⟩⟩ : ByteArray)))) hp0)
          (none))))
    (none))
  (none) := by kernel_rfl

theorem t_rdate {α : Type} (K : Value → Hp → Option α) (x0 : Int) (x1 : Int) (x2 : Int) : einv PP tab oRd 60 (.func 10) [.agg ⟨[.int .i64 x0, .int .i64 x1, .int .i64 x2]⟩] hp0 K =
  cond (true && ((decide (((-1000000000000) : Int) ≤ x0)) && (decide ((x0 : Int) ≤ 1000000000000))))
  (cond (decide ((x0 : Int) < 0))
    (cond (true && ((decide (((-1000000000000) : Int) ≤ (kw .i64 (0 - x0)))) && (decide (((kw .i64 (0 - x0)) : Int) ≤ 1000000000000))))
      (cond (decide ((x0 : Int) > 9999))
        (cond (true && ((decide (((-1000000000000) : Int) ≤ x0)) && (decide ((x0 : Int) ≤ 1000000000000))))
          (cond (true && ((decide (((-1000000000000) : Int) ≤ x1)) && (decide ((x1 : Int) ≤ 1000000000000))))
            (cond (true && ((decide (((-1000000000000) : Int) ≤ x2)) && (decide ((x2 : Int) ≤ 1000000000000))))
              (K (.string (bApp (bApp (bApp (bApp (bApp (⟨⟨[43]⟩⟩ : ByteArray) (⟨⟨(rdig 6 x0)⟩⟩ : ByteArray)) (⟨⟨[45]⟩⟩ : ByteArray)) (⟨⟨(rdig 2 x1)⟩⟩ : ByteArray)) (⟨⟨[45]⟩⟩ : ByteArray)) (⟨⟨(rdig 2 x2)⟩⟩ : ByteArray))) hp0)
              (none))
            (none))
          (none))
        (cond (true && ((decide (((-1000000000000) : Int) ≤ x1)) && (decide ((x1 : Int) ≤ 1000000000000))))
          (cond (true && ((decide (((-1000000000000) : Int) ≤ x2)) && (decide ((x2 : Int) ≤ 1000000000000))))
            (K (.string (bApp (bApp (bApp (bApp (bApp (⟨⟨[45]⟩⟩ : ByteArray) (⟨⟨(rdig 6 (kw .i64 (0 - x0)))⟩⟩ : ByteArray)) (⟨⟨[45]⟩⟩ : ByteArray)) (⟨⟨(rdig 2 x1)⟩⟩ : ByteArray)) (⟨⟨[45]⟩⟩ : ByteArray)) (⟨⟨(rdig 2 x2)⟩⟩ : ByteArray))) hp0)
            (none))
          (none)))
      (none))
    (cond (decide ((x0 : Int) > 9999))
      (cond (true && ((decide (((-1000000000000) : Int) ≤ x0)) && (decide ((x0 : Int) ≤ 1000000000000))))
        (cond (true && ((decide (((-1000000000000) : Int) ≤ x1)) && (decide ((x1 : Int) ≤ 1000000000000))))
          (cond (true && ((decide (((-1000000000000) : Int) ≤ x2)) && (decide ((x2 : Int) ≤ 1000000000000))))
            (K (.string (bApp (bApp (bApp (bApp (bApp (⟨⟨[43]⟩⟩ : ByteArray) (⟨⟨(rdig 6 x0)⟩⟩ : ByteArray)) (⟨⟨[45]⟩⟩ : ByteArray)) (⟨⟨(rdig 2 x1)⟩⟩ : ByteArray)) (⟨⟨[45]⟩⟩ : ByteArray)) (⟨⟨(rdig 2 x2)⟩⟩ : ByteArray))) hp0)
            (none))
          (none))
        (none))
      (cond (true && ((decide (((-1000000000000) : Int) ≤ x1)) && (decide ((x1 : Int) ≤ 1000000000000))))
        (cond (true && ((decide (((-1000000000000) : Int) ≤ x2)) && (decide ((x2 : Int) ≤ 1000000000000))))
          (K (.string (bApp (bApp (bApp (bApp (⟨⟨(rdig 4 x0)⟩⟩ : ByteArray) (⟨⟨[45]⟩⟩ : ByteArray)) (⟨⟨(rdig 2 x1)⟩⟩ : ByteArray)) (⟨⟨[45]⟩⟩ : ByteArray)) (⟨⟨(rdig 2 x2)⟩⟩ : ByteArray))) hp0)
          (none))
        (none))))
  (none) := by kernel_rfl

end Go.Ev
end
section
set_option linter.unusedSimpArgs false
set_option linter.unusedVariables false
set_option maxHeartbeats 1000000
namespace Go.Ev
open Go
theorem bApp_mk (a b : List UInt8) : bApp ⟨⟨a⟩⟩ ⟨⟨b⟩⟩ = ⟨⟨a ++ b⟩⟩ := rfl
theorem stripD_len : ∀ (k n : Nat), (stripD k n).length ≤ k
  | 0, _ => Nat.le_refl _
  | k + 1, n => by
    unfold stripD
    split
    · exact Nat.le_succ_of_le (stripD_len k _)
    · rw [dec_len]; omega
theorem partL_len (n : Nat) : (partL n).length ≤ 10 := by
  unfold partL
  split
  · exact Nat.zero_le _
  · exact Nat.succ_le_succ (stripD_len 9 n)
theorem bsize (l : List UInt8) : ByteArray.size ⟨⟨l⟩⟩ = l.length := rfl
theorem rRPart (x : Int) (h1 : 0 ≤ x) (h2 : x < 1000000000) : Run1 oRp 23 [.int .i64 x] (.string ⟨⟨partL x.toNat⟩⟩) := by
  refine ⟨60, ?_⟩
  rw [t_rpart]
  by_cases h0 : x = 0
  · subst h0
    exact Res.eqt rfl (Res.done rfl rfl)
  · refine Res.eqf h0 (Res.ctb (by simp; omega) ?_)
    have hn : ¬ x.toNat = 0 := by omega
    have hm : x.toNat < 1000000000 := by omega
    unfold partL
    rw [if_neg hn]
    simp only [d48, bsub_dec]
    generalize x.toNat = n at *
    refine Res.split (fun c0 => ?_) (fun c0 => ?_)
    rotate_left
    · refine Res.done (dot_str ?_) rfl
      rw [strip_f c0]
    refine Res.split (fun c1 => ?_) (fun c1 => ?_)
    rotate_left
    · refine Res.done (dot_str ?_) rfl
      rw [strip_t c0, strip_f c1]
    refine Res.split (fun c2 => ?_) (fun c2 => ?_)
    rotate_left
    · refine Res.done (dot_str ?_) rfl
      rw [strip_t c0, strip_t c1, strip_f c2]
    refine Res.split (fun c3 => ?_) (fun c3 => ?_)
    rotate_left
    · refine Res.done (dot_str ?_) rfl
      rw [strip_t c0, strip_t c1, strip_t c2, strip_f c3]
    refine Res.split (fun c4 => ?_) (fun c4 => ?_)
    rotate_left
    · refine Res.done (dot_str ?_) rfl
      rw [strip_t c0, strip_t c1, strip_t c2, strip_t c3, strip_f c4]
    refine Res.split (fun c5 => ?_) (fun c5 => ?_)
    rotate_left
    · refine Res.done (dot_str ?_) rfl
      rw [strip_t c0, strip_t c1, strip_t c2, strip_t c3, strip_t c4, strip_f c5]
    refine Res.split (fun c6 => ?_) (fun c6 => ?_)
    rotate_left
    · refine Res.done (dot_str ?_) rfl
      rw [strip_t c0, strip_t c1, strip_t c2, strip_t c3, strip_t c4, strip_t c5, strip_f c6]
    refine Res.split (fun c7 => ?_) (fun c7 => ?_)
    rotate_left
    · refine Res.done (dot_str ?_) rfl
      rw [strip_t c0, strip_t c1, strip_t c2, strip_t c3, strip_t c4, strip_t c5, strip_t c6, strip_f c7]
    refine Res.split (fun c8 => ?_) (fun c8 => ?_)
    rotate_left
    · refine Res.done (dot_str ?_) rfl
      rw [strip_t c0, strip_t c1, strip_t c2, strip_t c3, strip_t c4, strip_t c5, strip_t c6, strip_t c7, strip_f c8]
    omega

/-! ### Dates and times -/
def yearL (y : Int) : List UInt8 := if y < 0 then 45 :: dec 6 (0 - y).toNat else if y > 9999 then 43 :: dec 6 y.toNat else dec 4 y.toNat
def dateL (y m d : Int) : List UInt8 := yearL y ++ 45 :: (dec 2 m.toNat ++ 45 :: dec 2 d.toNat)
def timeL (h m s n : Int) : List UInt8 := dec 2 h.toNat ++ 58 :: (dec 2 m.toNat ++ 58 :: (dec 2 s.toNat ++ partL n.toNat))
theorem yearL_len (y : Int) : (yearL y).length ≤ 7 := by
  unfold yearL
  split
  · simp [dec_len]
  · split <;> simp [dec_len]
theorem dateL_len (y m d : Int) : (dateL y m d).length ≤ 13 := by
  have := yearL_len y
  unfold dateL
  simp only [List.length_append, List.length_cons, dec_len]
  omega
theorem timeL_len (h m s n : Int) : (timeL h m s n).length ≤ 18 := by
  have := partL_len n.toNat
  unfold timeL
  simp only [List.length_append, List.length_cons, dec_len]
  omega
noncomputable section
def mRPart : List Value → Option (Bool × Value)
  | [.int .i64 x] => some (decide (0 ≤ x) && decide (x < 1000000000), .string ⟨⟨partL x.toNat⟩⟩)
  | _ => none
def oRPart : Orc := orcB baseB 23 mRPart
theorem okRPart : OrcOk PP tab oRPart := by
  refine okOrc okRp fun args v h => ?_
  unfold mRPart at h
  split at h
  · simp only [Option.some.injEq, Prod.mk.injEq, Bool.and_eq_true, decide_eq_true_eq] at h
    obtain ⟨⟨h1, h2⟩, rfl⟩ := h
    exact ⟨rfl, rfl, rRPart _ h1 h2⟩
  · cases h
end
theorem rTime (h m s n : Int) (h1 : 0 ≤ h) (h2 : h < 24) (h3 : 0 ≤ m) (h4 : m < 60) (h5 : 0 ≤ s) (h6 : s < 60) (h7 : 0 ≤ n) (h8 : n < 1000000000) :
    Run1 (orcA oPart oDg) 18 [.agg ⟨[.int .i64 h, .int .i64 m, .int .i64 s, .int .i64 n]⟩] (.string ⟨⟨timeL h m s n⟩⟩) := by
  refine ⟨60, ?_⟩
  rw [t_time]
  have := partL_len n.toNat
  refine Res.ctb (by simp; omega) (Res.ctb (by simp; omega) (Res.ctb (by simp; omega) (Res.ctb (by simp; omega) (Res.it (by rw [bsize]; omega) (Res.done ?_ rfl)))))
  simp only [bApp_mk, List.append_assoc, List.cons_append, List.nil_append, timeL]
theorem rDate (y m d : Int) (h1 : -280000 ≤ y) (h2 : y ≤ 280000) (h3 : 1 ≤ m) (h4 : m ≤ 12) (h5 : 1 ≤ d) (h6 : d ≤ 31) :
    Run1 oDg 16 [.agg ⟨[.int .i64 y, .int .i64 m, .int .i64 d]⟩] (.string ⟨⟨dateL y m d⟩⟩) := by
  refine ⟨60, ?_⟩
  rw [t_date, kwi (0 - y) (by omega) (by omega)]
  refine Res.ctb (by simp; omega) (Res.ctb (by simp; omega) (Res.split (fun c => ?_) (fun c => Res.split (fun e => ?_) (fun e => ?_))))
  all_goals refine Res.ctb (by simp; omega) (Res.done ?_ rfl)
  · simp only [bApp_mk, List.append_assoc, List.cons_append, List.nil_append, dateL, yearL, if_pos c]
  · simp only [bApp_mk, List.append_assoc, List.cons_append, List.nil_append, dateL, yearL, if_neg c, if_pos e]
  · simp only [bApp_mk, List.append_assoc, List.cons_append, List.nil_append, dateL, yearL, if_neg c, if_neg e]
theorem rRDate (y m d : Int) (h1 : -280000 ≤ y) (h2 : y ≤ 280000) (h3 : 1 ≤ m) (h4 : m ≤ 12) (h5 : 1 ≤ d) (h6 : d ≤ 31) :
    Run1 oRd 10 [.agg ⟨[.int .i64 y, .int .i64 m, .int .i64 d]⟩] (.string ⟨⟨dateL y m d⟩⟩) := by
  refine ⟨60, ?_⟩
  rw [t_rdate, kwi (0 - y) (by omega) (by omega)]
  have em := rdig_pos 2 m (by omega)
  have ed := rdig_pos 2 d (by omega)
  refine Res.ctb (by simp; omega) (Res.split (fun c => ?_) (fun c => Res.split (fun e => ?_) (fun e => ?_)))
  · refine Res.ctb (by simp; omega) (Res.cf (by omega) (Res.ctb (by simp; omega) (Res.ctb (by simp; omega) (Res.done ?_ rfl))))
    simp only [bApp_mk, List.append_assoc, List.cons_append, List.nil_append, dateL, yearL, if_pos c, em, ed, rdig_pos 6 (0 - y) (by omega)]
  · refine Res.ctb (by simp; omega) (Res.ctb (by simp; omega) (Res.ctb (by simp; omega) (Res.done ?_ rfl)))
    simp only [bApp_mk, List.append_assoc, List.cons_append, List.nil_append, dateL, yearL, if_neg c, if_pos e, em, ed, rdig_pos 6 y (by omega)]
  · refine Res.ctb (by simp; omega) (Res.ctb (by simp; omega) (Res.done ?_ rfl))
    simp only [bApp_mk, List.append_assoc, List.cons_append, List.nil_append, dateL, yearL, if_neg c, if_neg e, em, ed, rdig_pos 4 y (by omega)]
noncomputable section
def mTime : List Value → Option (Bool × Value)
  | [.agg ⟨[.int .i64 h, .int .i64 m, .int .i64 s, .int .i64 n]⟩] => some (decide (0 ≤ h) && decide (h < 24) && decide (0 ≤ m) && decide (m < 60) && decide (0 ≤ s) && decide (s < 60) && decide (0 ≤ n) && decide (n < 1000000000), .string ⟨⟨timeL h m s n⟩⟩)
  | _ => none
def oTime : Orc := orcB baseB 18 mTime
theorem okTime : OrcOk PP tab oTime := by
  refine okOrc (orcA_ok okPart okDg) fun args v h => ?_
  unfold mTime at h
  split at h
  · simp only [Option.some.injEq, Prod.mk.injEq, Bool.and_eq_true, decide_eq_true_eq] at h
    obtain ⟨⟨⟨⟨⟨⟨⟨⟨h1, h2⟩, h3⟩, h4⟩, h5⟩, h6⟩, h7⟩, h8⟩, rfl⟩ := h
    exact ⟨rfl, rfl, rTime _ _ _ _ h1 h2 h3 h4 h5 h6 h7 h8⟩
  · cases h
def mDate : List Value → Option (Bool × Value)
  | [.agg ⟨[.int .i64 y, .int .i64 m, .int .i64 d]⟩] => some (decide (-280000 ≤ y) && decide (y ≤ 280000) && decide (1 ≤ m) && decide (m ≤ 12) && decide (1 ≤ d) && decide (d ≤ 31), .string ⟨⟨dateL y m d⟩⟩)
  | _ => none
def oDate : Orc := orcB baseB 16 mDate
theorem okDate : OrcOk PP tab oDate := by
  refine okOrc okDg fun args v h => ?_
  unfold mDate at h
  split at h
  · simp only [Option.some.injEq, Prod.mk.injEq, Bool.and_eq_true, decide_eq_true_eq] at h
    obtain ⟨⟨⟨⟨⟨⟨h1, h2⟩, h3⟩, h4⟩, h5⟩, h6⟩, rfl⟩ := h
    exact ⟨rfl, rfl, rDate _ _ _ h1 h2 h3 h4 h5 h6⟩
  · cases h
def mRDate : List Value → Option (Bool × Value)
  | [.agg ⟨[.int .i64 y, .int .i64 m, .int .i64 d]⟩] => some (decide (-280000 ≤ y) && decide (y ≤ 280000) && decide (1 ≤ m) && decide (m ≤ 12) && decide (1 ≤ d) && decide (d ≤ 31), .string ⟨⟨dateL y m d⟩⟩)
  | _ => none
def oRDate : Orc := orcB baseB 10 mRDate
theorem okRDate : OrcOk PP tab oRDate := by
  refine okOrc okRd fun args v h => ?_
  unfold mRDate at h
  split at h
  · simp only [Option.some.injEq, Prod.mk.injEq, Bool.and_eq_true, decide_eq_true_eq] at h
    obtain ⟨⟨⟨⟨⟨⟨h1, h2⟩, h3⟩, h4⟩, h5⟩, h6⟩, rfl⟩ := h
    exact ⟨rfl, rfl, rRDate _ _ _ h1 h2 h3 h4 h5 h6⟩
  · cases h
end
end Go.Ev
end
