/- The record of its bytes, walked. -/
import Derived.Test.YtgniegpeeaphlaaHPn
import Derived.Test.YtgniegpeeaphlaaPRx5
import Derived.Test.YtgniegpeeaphlaaPRx3
import Derived.WalkKit
import Derived.IntWalk
import Derived.BigQuiet
namespace Go.Proofs.Ytgniegpeeaphlaa.HandA
open Go.RowKit Go.Proofs.Ytgniegpeeaphlaa.PR Go.Proofs.YtgniegpeeaphlaaW.PrintWords Go.Proofs.YtgniegpeeaphlaaW.PrintLast Go.Proofs.YtgniegpeeaphlaaW.PrintMore
set_option linter.unusedVariables false
set_option linter.unusedSimpArgs false
theorem take_succ_rd {l : List Int} {n : Nat} (h : n < l.length) : l.take (n + 1) = l.take n ++ [rd l (n : Int)] := by
  rw [List.take_add_one]
  simp [rd, h]
set_option maxHeartbeats 4000000 in
set_option maxRecDepth 100000 in
theorem number_calls (A : Option Addr) (c : Nat) (l : List Int) (w : World) (hl : Kd.C (Kd.int .u8) w A l.length l) (hc : l.length ≤ c) (hB : Byt l) (h8 : l.length ≤ 8) :
    Calls Try.prog 64 #[.slice A l.length c] w fun e w' => e = .returned (.int .u64 (num l)) ∧ w = w' := by
  have HL := Aside0.mk hl
  have HB := Aside0.mk hB
  clear hl hB
  go_enter Try.func64, Try.ntmps64
  go_wp2_with fail
  go_loopg [3, 8] l.length (fun m v3 v8 w' => ∃ n : Nat, v8 = .int .i64 n ∧ v3 = .int .u64 (num (l.take n)) ∧ n + m = l.length ∧ w = w')
  case atStart => exact ⟨0, rfl, by simp [num], by omega, rfl⟩
  case round =>
    obtain ⟨n, rfl, rfl, hm, rfl⟩ := hrel
    by_cases hn : n < l.length
    · obtain ⟨m, rfl⟩ : ∃ q, gk = q + 1 := ⟨gk - 1, by omega⟩
      have hn2 : (n : Int) < l.length := by omega
      obtain ⟨ad, e, d⟩ := Kd.at_int HL.out (n : Int) (by omega) hn2
      cases e
      simp only [Int.toNat_natCast] at d
      obtain ⟨x0, x1⟩ := HB.out.at_ hn
      obtain ⟨b0, b1⟩ := num_bound (HB.out.take n)
      have b2 : num (l.take n) < 72057594037927936 := by
        have hp : ∀ a : Nat, a < 8 → (256 : Int) ^ a ≤ 72057594037927936 := by decide
        have hle := hp (l.take n).length (by rw [List.length_take]; omega)
        omega
      have e1 : (num (l.take n) * 256) % 18446744073709551616 = num (l.take n) * 256 := by omega
      have e2 : IntKind.u64.wrap (rd l (n : Int)) = rd l (n : Int) := by rw [IntKind.wrap_u64]; omega
      have e3 := or8_u64 b0 b2 x0 x1
      have HN := Aside0.mk (show num (l.take (n + 1)) = num (l.take n) * 256 + rd l (n : Int) by rw [take_succ_rd hn, num_snoc])
      clear b0 b1 b2 x0 x1
      go_wp2_with fail
      go_roundg m
      case measure => omega
      case rel => exact ⟨n + 1, by go_num, by first | (rw [HN.out]) | (rw [HN.out, ← e3]) , by omega, rfl⟩
    · obtain rfl : n = l.length := by omega
      go_wp2_with fail
      go_ret
      exact ⟨by rw [List.take_length]; rfl, rfl⟩
/-- A number that is not too great, or one more than the greatest. -/
def capT (v : Int) : Int := if 2147483649 < v then 2147483649 else v
set_option maxHeartbeats 4000000 in
set_option maxRecDepth 100000 in
theorem field_calls (A : Option Addr) (c : Nat) (l : List Int) (w : World) (hl : Kd.C (Kd.int .u8) w A l.length l) (hc : l.length ≤ c) (hB : Byt l) (h8 : l.length ≤ 8) :
    Calls Try.prog 63 #[.slice A l.length c] w fun e w' => e = .returned (.int .i64 (capT (num l))) ∧ w = w' := by
  have HL := Aside0.mk hl
  have HB := Aside0.mk hB
  obtain ⟨b0, b1⟩ := num_bound hB
  have b2 : num l < 18446744073709551616 := by
    have hp : ∀ a : Nat, a < 9 → (256 : Int) ^ a ≤ 18446744073709551616 := by decide
    have hle := hp l.length (by omega)
    omega
  clear hl hB b1
  go_enter Try.func63, Try.ntmps63
  by_cases hv : 2147483649 < num l
  · have HE := Aside0.mk (show capT (num l) = 2147483649 by unfold capT; rw [if_pos hv])
    go_wp2_with (go_at_call 64; (with_reducible refine (number_calls A c l _ HL.out hc HB.out h8).mono ?_); rintro e w1 ⟨rfl, rfl⟩)
    go_ret
    exact ⟨by rw [HE.out]; rfl, rfl⟩
  · have HE := Aside0.mk (show capT (num l) = num l by unfold capT; rw [if_neg hv])
    go_wp2_with (go_at_call 64; (with_reducible refine (number_calls A c l _ HL.out hc HB.out h8).mono ?_); rintro e w1 ⟨rfl, rfl⟩)
    go_ret
    exact ⟨by rw [HE.out]; rfl, rfl⟩
end Go.Proofs.Ytgniegpeeaphlaa.HandA
