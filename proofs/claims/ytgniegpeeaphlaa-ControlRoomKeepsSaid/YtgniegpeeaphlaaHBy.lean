/- The bytes of a record, and what is read of them. -/
import Derived.Test.YtgniegpeeaphlaaHRd
import Derived.Test.YtgniegpeeaphlaaPRx6
namespace Go.Proofs.Ytgniegpeeaphlaa.HandA
open Go.RowKit Go.Proofs.Ytgniegpeeaphlaa.PR Go.Proofs.YtgniegpeeaphlaaW.PrintWords Go.Proofs.YtgniegpeeaphlaaW.PrintLast Go.Proofs.YtgniegpeeaphlaaW.PrintMore
set_option linter.unusedVariables false
set_option linter.unusedSimpArgs false
theorem pow8 (i : Nat) (h : i ≤ 7) : (2 : Int) ^ min (8 * i) 64 = 256 ^ i := by
  have : ∀ i : Nat, i ≤ 7 → (2 : Int) ^ min (8 * i) 64 = 256 ^ i := by decide
  exact this i h
theorem put_loop {v : Int} : ∀ (i : Nat), i ≤ 8 → ∀ (acc : List Int), acc.length + i ≤ 1000 → ∀ k, i < k → lists_Put.l0 k acc v ((i : Int) - 1) = some (acc ++ be v i) := by
  intro i
  induction i with
  | zero =>
    intro _ acc _ k hk
    obtain ⟨k, rfl⟩ : ∃ m, k = m + 1 := ⟨k - 1, by omega⟩
    simp only [lists_Put.l0]
    rw [if_neg (by omega)]
    simp [be]
  | succ i ih =>
    intro hi acc ha k hk
    obtain ⟨k, rfl⟩ : ∃ m, k = m + 1 := ⟨k - 1, by omega⟩
    simp only [lists_Put.l0]
    have e0 : (((i + 1 : Nat) : Int) - 1) = i := by omega
    rw [e0]
    have e1 : wrap64 (8 * (i : Int)) = ((8 * i : Nat) : Int) := by unfold wrap64; omega
    have e2 : IntKind.u64.wrap (((8 * i : Nat) : Int)) = ((8 * i : Nat) : Int) := by rw [IntKind.wrap_u64]; omega
    have e3 : wrap64 ((i : Int) - 1) = (i : Int) - 1 := by unfold wrap64; omega
    have e4 : shr .u64 v (((8 * i : Nat) : Int)) = v / 256 ^ i := by
      unfold shr
      rw [Int.toNat_natCast]
      show v / 2 ^ min (8 * i) 64 = _
      rw [pow8 i (by omega)]
    rw [if_pos (by omega), e1, e2, if_pos (by omega), if_pos (by omega), e3, e4, ih (by omega) _ (by simp; omega) k (by omega), List.append_assoc]
    rfl
theorem put_f {v : Int} {n : Nat} (hn : n ≤ 8) {acc : List Int} (ha : acc.length ≤ 900) {k : Nat} (hk : n < k) : lists_Put.f k acc v (n : Int) = some (acc ++ be v n) := by
  unfold lists_Put.f
  have : wrap64 ((n : Int) - 1) = (n : Int) - 1 := by unfold wrap64; omega
  rw [this]
  exact put_loop n hn acc (by omega) k hk
/-- The bytes of a record but the last one. -/
def bodyF (k s v t : Int) : List Int := [82] ++ be k 8 ++ be s 6 ++ be v 8 ++ be t 8
def bytesF (k s v t : Int) : List Int := bodyF k s v t ++ [(90 - sumL (bodyF k s v t) % 256) % 256]
theorem body_len (k s v t : Int) : (bodyF k s v t).length = 31 := by simp [bodyF, be_len]
theorem bytes_len (k s v t : Int) : (bytesF k s v t).length = 32 := by simp [bytesF, body_len]
theorem body_byt (k s v t : Int) : Byt (bodyF k s v t) := (((((Byt.one (by omega)).append (be_byt _ _)).append (be_byt _ _)).append (be_byt _ _)).append (be_byt _ _))
theorem bytes_byt (k s v t : Int) : Byt (bytesF k s v t) := (body_byt k s v t).append (Byt.one (by omega))
theorem rvB_iff {k s v t : Int} : rvB k s v t = true ↔ (1 ≤ k ∧ k ≤ 5) ∧ (0 ≤ s ∧ s ≤ 2147483648) ∧ (0 ≤ v ∧ v ≤ if k = 3 then 4 else 2147483648) ∧ (0 ≤ t ∧ t ≤ 2147483648) := by
  unfold rvB
  simp only [Bool.and_eq_true, decide_eq_true_eq]
  constructor
  · rintro ⟨⟨⟨a, b⟩, c⟩, d⟩
    exact ⟨a, b, c, d⟩
  · rintro ⟨a, b, c, d⟩
    exact ⟨⟨⟨a, b⟩, c⟩, d⟩
theorem rvB_small {k s v t : Int} (h : rvB k s v t = true) : (1 ≤ k ∧ k ≤ 5) ∧ (0 ≤ s ∧ s ≤ 2147483648) ∧ (0 ≤ v ∧ v ≤ 2147483648) ∧ (0 ≤ t ∧ t ≤ 2147483648) := by
  obtain ⟨a, b, c, d⟩ := rvB_iff.1 h
  refine ⟨a, b, ?_, d⟩
  split at c <;> omega
theorem bytes_f (n : Nat) (hn : 40 < n) (k s v t : Int) : controlroom_Bytes.f n k s v t = if rvB k s v t = true then some (bytesF k s v t, 0) else some ([], 6) := by
  unfold controlroom_Bytes.f
  obtain ⟨m, rfl⟩ : ∃ m, n = m + 1 := ⟨n - 1, by omega⟩
  rw [valid_f]
  simp only [Option.bind_some]
  by_cases h : rvB k s v t = true
  · rw [if_pos h, if_pos h]
    obtain ⟨hk, hs, hv, ht⟩ := rvB_small h
    have w1 : ∀ x : Int, 0 ≤ x → x ≤ 2147483648 → IntKind.u64.wrap x = x := fun x h0 h1 => by rw [IntKind.wrap_u64]; omega
    rw [w1 k (by omega) (by omega), w1 s hs.1 hs.2, w1 v hv.1 hv.2, w1 t ht.1 ht.2]
    have p1 := put_f (v := k) (n := 8) (by omega) (acc := [82]) (by simp) (k := m + 1) (by omega)
    have p2 := put_f (v := s) (n := 6) (by omega) (acc := [82] ++ be k 8) (by simp [be_len]) (k := m + 1) (by omega)
    have p3 := put_f (v := v) (n := 8) (by omega) (acc := [82] ++ be k 8 ++ be s 6) (by simp [be_len]) (k := m + 1) (by omega)
    have p4 := put_f (v := t) (n := 8) (by omega) (acc := [82] ++ be k 8 ++ be s 6 ++ be v 8) (by simp [be_len]) (k := m + 1) (by omega)
    have p5 := total_f (body_byt k s v t) (by rw [body_len]; omega) (m + 1) (by rw [body_len]; omega)
    have c8 : ((8 : Nat) : Int) = 8 := rfl
    have c6 : ((6 : Nat) : Int) = 6 := rfl
    rw [c8] at p1 p3 p4
    rw [c6] at p2
    rw [p1]
    simp only [Option.bind_some]
    rw [p2]
    simp only [Option.bind_some]
    rw [p3]
    simp only [Option.bind_some]
    rw [p4]
    simp only [Option.bind_some]
    show (controlroom_total.f (m + 1) (bodyF k s v t)).bind _ = _
    rw [p5]
    simp only [Option.bind_some]
    show (if (bodyF k s v t).length < _ then some (bodyF k s v t ++ _, 0) else none) = _
    rw [if_pos (by rw [body_len]; omega)]
    rfl
  · rw [if_neg h, if_neg h]
/-- What was written is read again. -/
theorem be_cons (v : Int) (n : Nat) : be v (n + 1) = (v / 256 ^ n % 256) :: be v n := rfl
theorem capT_id {v : Int} (h : v ≤ 2147483648) : capT v = v := by unfold capT; rw [if_neg (by omega)]
theorem field_eq {a b c : List Int} {lo hi : Nat} (h1 : a.length = lo) (h2 : (a ++ b).length = hi) : ((a ++ b ++ c).take hi).drop lo = b := by
  rw [← h2, List.take_left' rfl, ← h1, List.drop_left' rfl]
theorem one_bytes {k s v t : Int} (h : rvB k s v t = true) : oneF (bytesF k s v t) = (k, s, v, t, true) := by
  obtain ⟨hk, hs, hv, ht⟩ := rvB_small h
  have hsum : sumL (bytesF k s v t) % 256 = 90 := by
    unfold bytesF
    rw [sumL_snoc]
    omega
  have h0 : rd (bytesF k s v t) 0 = 82 := rfl
  have p8 : (256 : Int) ^ 8 = 18446744073709551616 := by decide
  have p6 : (256 : Int) ^ 6 = 281474976710656 := by decide
  have f1 : ((bytesF k s v t).take 9).drop 1 = be k 8 := by
    have : bytesF k s v t = [82] ++ be k 8 ++ (be s 6 ++ be v 8 ++ be t 8 ++ [(90 - sumL (bodyF k s v t) % 256) % 256]) := by simp [bytesF, bodyF]
    rw [this]
    exact field_eq rfl (by simp [be_len])
  have f2 : ((bytesF k s v t).take 15).drop 9 = be s 6 := by
    have : bytesF k s v t = ([82] ++ be k 8) ++ be s 6 ++ (be v 8 ++ be t 8 ++ [(90 - sumL (bodyF k s v t) % 256) % 256]) := by simp [bytesF, bodyF]
    rw [this]
    exact field_eq (by simp [be_len]) (by simp [be_len])
  have f3 : ((bytesF k s v t).take 23).drop 15 = be v 8 := by
    have : bytesF k s v t = ([82] ++ be k 8 ++ be s 6) ++ be v 8 ++ (be t 8 ++ [(90 - sumL (bodyF k s v t) % 256) % 256]) := by simp [bytesF, bodyF]
    rw [this]
    exact field_eq (by simp [be_len]) (by simp [be_len])
  have f4 : ((bytesF k s v t).take 31).drop 23 = be t 8 := by
    have : bytesF k s v t = ([82] ++ be k 8 ++ be s 6 ++ be v 8) ++ be t 8 ++ ([(90 - sumL (bodyF k s v t) % 256) % 256]) := by simp [bytesF, bodyF]
    rw [this]
    exact field_eq (by simp [be_len]) (by simp [be_len])
  unfold oneF
  rw [if_pos ⟨h0, hsum⟩, f1, f2, f3, f4, num_be (by omega) (by rw [p8]; omega), num_be (by omega) (by rw [p6]; omega), num_be (by omega) (by rw [p8]; omega), num_be (by omega) (by rw [p8]; omega),
    capT_id (by omega), capT_id (by omega), capT_id (by omega), capT_id (by omega), h]
/-- Is a record right? -/
def Rok (r : S32) : Prop := rvB r.f0 r.f1 r.f2 r.f3 = true
def recB (r : S32) : List Int := bytesF r.f0 r.f1 r.f2 r.f3
def allB (l : List S32) : List Int := l.flatMap recB
theorem recB_len (r : S32) : (recB r).length = 32 := bytes_len _ _ _ _
theorem allB_cons (r : S32) (l : List S32) : allB (r :: l) = recB r ++ allB l := by simp [allB]
theorem allB_append (a b : List S32) : allB (a ++ b) = allB a ++ allB b := by simp [allB]
theorem allB_len (l : List S32) : (allB l).length = 32 * l.length := by
  induction l with
  | nil => rfl
  | cons r l ih => rw [allB_cons, List.length_append, recB_len, ih, List.length_cons]; omega
theorem allB_byt (l : List S32) : Byt (allB l) := by
  induction l with
  | nil => exact Byt.nil
  | cons r l ih => rw [allB_cons]; exact (bytes_byt _ _ _ _).append ih
/-- Records that were written are read again, and then what follows. -/
theorem readL_all (l : List S32) : ∀ (n : Nat) (rest : List Int), (∀ r ∈ l, Rok r) → l.length ≤ n → readL n (allB l ++ rest) = l ++ readL (n - l.length) rest := by
  induction l with
  | nil => intro n rest _ _; simp [allB]
  | cons r l ih =>
    intro n rest h hn
    rw [List.length_cons] at hn
    obtain ⟨m, rfl⟩ : ∃ m, n = m + 1 := ⟨n - 1, by omega⟩
    have ht : (allB (r :: l) ++ rest).take 32 = recB r := by
      rw [allB_cons, List.append_assoc]
      exact List.take_left' (recB_len r)
    have hd : (allB (r :: l) ++ rest).drop 32 = allB l ++ rest := by
      rw [allB_cons, List.append_assoc]
      exact List.drop_left' (recB_len r)
    have ho : oneF (recB r) = (r.f0, r.f1, r.f2, r.f3, true) := one_bytes (h r (by simp))
    simp only [readL]
    rw [ht, hd, ho, if_pos ⟨by rw [List.length_append, allB_len, List.length_cons]; omega, rfl⟩, ih m rest (fun q hq => h q (List.mem_cons_of_mem _ hq)) (by omega), List.length_cons, Nat.add_sub_add_right]
    rfl
end Go.Proofs.Ytgniegpeeaphlaa.HandA
