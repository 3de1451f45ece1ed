/- Numbers as bytes. No program in sight. -/
import Derived.Test.YtgniegpeeaphlaaPRx0
import Derived.Laws.Bits64b
namespace Go.Proofs.Ytgniegpeeaphlaa.HandA
open Go.RowKit Go.Proofs.Ytgniegpeeaphlaa.PR Go.Proofs.YtgniegpeeaphlaaW.PrintWords Go.Proofs.YtgniegpeeaphlaaW.PrintLast Go.Proofs.YtgniegpeeaphlaaW.PrintMore
set_option linter.unusedVariables false
set_option linter.unusedSimpArgs false
/-- Bytes. -/
def Byt (l : List Int) : Prop := ∀ x ∈ l, 0 ≤ x ∧ x < 256
theorem Byt.nil : Byt [] := fun x h => by simp at h
theorem Byt.append {a b : List Int} (ha : Byt a) (hb : Byt b) : Byt (a ++ b) := fun x h => by
  rcases List.mem_append.1 h with h | h
  · exact ha x h
  · exact hb x h
theorem Byt.one {x : Int} (h : 0 ≤ x ∧ x < 256) : Byt [x] := fun y hy => by
  obtain rfl := List.mem_singleton.1 hy
  exact h
theorem Byt.take {a : List Int} (h : Byt a) (n : Nat) : Byt (a.take n) := fun x hx => h x (List.mem_of_mem_take hx)
theorem Byt.drop {a : List Int} (h : Byt a) (n : Nat) : Byt (a.drop n) := fun x hx => h x (List.mem_of_mem_drop hx)
theorem Byt.left {a b : List Int} (h : Byt (a ++ b)) : Byt a := fun x hx => h x (List.mem_append_left _ hx)
theorem Byt.right {a b : List Int} (h : Byt (a ++ b)) : Byt b := fun x hx => h x (List.mem_append_right _ hx)
theorem Byt.at_ {l : List Int} (h : Byt l) {i : Nat} (hi : i < l.length) : 0 ≤ rd l (i : Int) ∧ rd l (i : Int) < 256 := by
  have : rd l (i : Int) = l[i] := by simp [rd, hi]
  rw [this]
  exact h _ (List.getElem_mem hi)
theorem Byt.set {l : List Int} (h : Byt l) {i : Nat} {x : Int} (hx : 0 ≤ x ∧ x < 256) : Byt (l.set i x) := fun y hy => by
  rcases List.mem_or_eq_of_mem_set hy with hy | rfl
  · exact h y hy
  · exact hx
theorem rev_ind {P : List Int → Prop} (h0 : P []) (h1 : ∀ l x, P l → P (l ++ [x])) (l : List Int) : P l := by
  rw [← List.reverse_reverse l]
  induction l.reverse with
  | nil => exact h0
  | cons x xs ih => rw [List.reverse_cons]; exact h1 _ _ ih
/-- The number of bytes, the most significant one first. -/
def num (l : List Int) : Int := l.foldl (fun n x => n * 256 + x) 0
theorem num_snoc (l : List Int) (x : Int) : num (l ++ [x]) = num l * 256 + x := by simp [num, List.foldl_append]
theorem pow_pos' (n : Nat) : (0 : Int) < 256 ^ n := Int.pow_pos (by decide)
theorem num_bound {l : List Int} (h : Byt l) : 0 ≤ num l ∧ num l < 256 ^ l.length := by
  induction l using rev_ind with
  | h0 => simp [num]
  | h1 l x ih =>
    obtain ⟨h0, h1⟩ := ih h.left
    obtain ⟨x0, x1⟩ := h x (by simp)
    rw [num_snoc, List.length_append, List.length_singleton, Int.pow_succ]
    omega
/-- A number as bytes. -/
def be (v : Int) : Nat → List Int
  | 0 => []
  | n + 1 => (v / 256 ^ n % 256) :: be v n
theorem be_len (v : Int) (n : Nat) : (be v n).length = n := by
  induction n with
  | zero => rfl
  | succ n ih => simp [be, ih]
theorem be_byt (v : Int) (n : Nat) : Byt (be v n) := by
  induction n with
  | zero => exact Byt.nil
  | succ n ih =>
    intro x hx
    rcases List.mem_cons.1 hx with rfl | hx
    · omega
    · exact ih x hx
theorem emod_step (v : Int) (n : Nat) : v % 256 ^ (n + 1) = v / 256 ^ n % 256 * 256 ^ n + v % 256 ^ n := by
  have hp := pow_pos' n
  rw [Int.pow_succ]
  obtain ⟨P, hP⟩ : ∃ P : Int, 256 ^ n = P := ⟨_, rfl⟩
  rw [hP] at hp ⊢
  have e1 := Int.mul_ediv_add_emod v P
  have e2 := Int.mul_ediv_add_emod (v / P) 256
  have r0 := Int.emod_nonneg v (show P ≠ 0 by omega)
  have r1 := Int.emod_lt_of_pos v hp
  have q0 : 0 ≤ v / P % 256 := by omega
  have q1 : v / P % 256 < 256 := by omega
  have hb : v = v / P % 256 * P + v % P + P * 256 * (v / P / 256) := by
    have : P * (v / P) = P * (256 * (v / P / 256) + v / P % 256) := by rw [e2]
    rw [Int.mul_add, ← Int.mul_assoc] at this
    rw [Int.mul_comm (v / P % 256) P]
    omega
  have hlt : v / P % 256 * P ≤ 255 * P := Int.mul_le_mul_of_nonneg_right (by omega) (by omega)
  have hge : 0 ≤ v / P % 256 * P := Int.mul_nonneg q0 (by omega)
  calc v % (P * 256) = (v / P % 256 * P + v % P + P * 256 * (v / P / 256)) % (P * 256) := by rw [← hb]
    _ = (v / P % 256 * P + v % P) % (P * 256) := by rw [Int.add_mul_emod_self_left]
    _ = v / P % 256 * P + v % P := Int.emod_eq_of_lt (by omega) (by omega)
theorem fold_be (v : Int) : ∀ (n : Nat) (a : Int), (be v n).foldl (fun n x => n * 256 + x) a = a * 256 ^ n + v % 256 ^ n := by
  intro n
  induction n with
  | zero => intro a; simp [be, Int.emod_one]
  | succ n ih =>
    intro a
    show (be v n).foldl _ (a * 256 + v / 256 ^ n % 256) = _
    rw [ih, emod_step, Int.add_mul, Int.pow_succ, Int.mul_assoc, Int.mul_comm 256 (256 ^ n), Int.add_assoc]
theorem num_be {v : Int} {n : Nat} (h0 : 0 ≤ v) (h1 : v < 256 ^ n) : num (be v n) = v := by
  unfold num
  rw [fold_be, Int.zero_mul, Int.zero_add, Int.emod_eq_of_lt h0 h1]
theorem or8 (n x : Nat) (hx : x < 256) : n * 256 ||| x = n * 256 + x := by
  have := Nat.shiftLeft_add_eq_or_of_lt (b := x) (i := 8) (by omega) n
  rw [Nat.shiftLeft_eq] at this
  exact this.symm
theorem or8_u64 {n x : Int} (h0 : 0 ≤ n) (h1 : n < 72057594037927936) (x0 : 0 ≤ x) (x1 : x < 256) : bits .or .u64 (n * 256) x = n * 256 + x := by
  obtain ⟨n, rfl⟩ : ∃ m : Nat, n = m := ⟨n.toNat, by omega⟩
  obtain ⟨x, rfl⟩ : ∃ m : Nat, x = m := ⟨x.toNat, by omega⟩
  have := bits_or_u64_nat (n * 256) x (by omega) (by omega)
  rw [or8 n x (by omega)] at this
  rw [Int.natCast_mul, Int.natCast_add, Int.natCast_mul] at this
  exact this
theorem bits_or_i64_nat (a b : Nat) (ha : a < 9223372036854775808) (hb : b < 9223372036854775808) : bits .or .i64 (a : Int) (b : Int) = ((a ||| b : Nat) : Int) := by
  have hx : a ||| b < 2 ^ 63 := Nat.or_lt_two_pow (by omega) (by omega)
  have h1 : (BitVec.ofInt 64 (a : Int)).toNat = a := by
    rw [BitVec.ofInt_natCast, BitVec.toNat_ofNat]; exact Nat.mod_eq_of_lt (by omega)
  have h2 : (BitVec.ofInt 64 (b : Int)).toNat = b := by
    rw [BitVec.ofInt_natCast, BitVec.toNat_ofNat]; exact Nat.mod_eq_of_lt (by omega)
  show IntKind.i64.wrap ((BitVec.ofInt 64 (a : Int) ||| BitVec.ofInt 64 (b : Int)).toNat : Int) = _
  rw [BitVec.toNat_or, h1, h2, IntKind.wrap_i64]
  omega
theorem or8_i64 {n x : Int} (h0 : 0 ≤ n) (h1 : n < 36028797018963968) (x0 : 0 ≤ x) (x1 : x < 256) : bits .or .i64 (n * 256) x = n * 256 + x := by
  obtain ⟨n, rfl⟩ : ∃ m : Nat, n = m := ⟨n.toNat, by omega⟩
  obtain ⟨x, rfl⟩ : ∃ m : Nat, x = m := ⟨x.toNat, by omega⟩
  have := bits_or_i64_nat (n * 256) x (by omega) (by omega)
  rw [or8 n x (by omega)] at this
  rw [Int.natCast_mul, Int.natCast_add, Int.natCast_mul] at this
  exact this
/-- The sum of numbers. -/
def sumL (l : List Int) : Int := l.foldl (· + ·) 0
theorem sumL_snoc (l : List Int) (x : Int) : sumL (l ++ [x]) = sumL l + x := by simp [sumL, List.foldl_append]
theorem sumL_append (a b : List Int) : sumL (a ++ b) = sumL a + sumL b := by
  induction b using rev_ind with
  | h0 => simp [sumL]
  | h1 b x ih => rw [← List.append_assoc, sumL_snoc, ih, sumL_snoc, Int.add_assoc]
theorem sumL_bound {l : List Int} (h : Byt l) : 0 ≤ sumL l ∧ sumL l ≤ 255 * l.length := by
  induction l using rev_ind with
  | h0 => simp [sumL]
  | h1 l x ih =>
    obtain ⟨h0, h1⟩ := ih h.left
    obtain ⟨x0, x1⟩ := h x (by simp)
    rw [sumL_snoc, List.length_append, List.length_singleton]
    omega
end Go.Proofs.Ytgniegpeeaphlaa.HandA
