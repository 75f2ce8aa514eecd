/- jobmuxmill.Mod: the remainder, from 0 on. -/
import Derived.Test.YtjgafhnppplmoaaRows
import Derived.Test.YtjgafhnppplmoaaBase
namespace Go.Proofs.Ytjgafhnppplmoaa
open Go.RowKit
set_option linter.unusedSimpArgs false
set_option linter.unusedVariables false
theorem tmod_neg {v n : Int} (hn : 0 < n) (h : v.tmod n < 0) : v.tmod n + n = v % n := by
  rw [Int.tmod_eq_emod] at *
  have := Int.emod_nonneg v (show n ≠ 0 by omega)
  split at h <;> rename_i hc <;> simp [hc] at *
  · omega
  · omega
theorem tmod_pos {v n : Int} (hn : 0 < n) (h : 0 ≤ v.tmod n) : v.tmod n = v % n := by
  rw [Int.tmod_eq_emod] at *
  have := Int.emod_lt_of_pos v hn
  split <;> rename_i hc <;> simp [hc] at *
  omega
theorem ret_i64 {a b : Int} (h : a = b) : Ending.returned (.int .i64 a) = .returned (.int .i64 b) := by rw [h]
set_option maxRecDepth 100000 in
set_option maxHeartbeats 800000 in
theorem mod_any (v n : Int) (w : World) (hn : 1 ≤ n) (hn2 : n ≤ 9223372036854775807) (hv : -9223372036854775808 ≤ v) (hv2 : v ≤ 9223372036854775807) :
    Calls Try.prog 22 #[.int .i64 v, .int .i64 n] w fun e w' => e = .returned (.int .i64 (v % n)) ∧ w = w' := by
  have h0 : ¬ n = 0 := by omega
  have h1 : v.tmod n < n := Int.tmod_lt_of_pos v (by omega)
  have h2 : -n < v.tmod n := by
    have := Int.lt_tmod_of_pos v (show 0 < n by omega); omega
  go_enter Try.func22, Try.ntmps22
  go_wp2
  all_goals go_ret
  · exact ⟨ret_i64 (tmod_neg (by omega) (by assumption)), rfl⟩
  · exact ⟨ret_i64 (tmod_pos (by omega) (by assumption)), rfl⟩
end Go.Proofs.Ytjgafhnppplmoaa
