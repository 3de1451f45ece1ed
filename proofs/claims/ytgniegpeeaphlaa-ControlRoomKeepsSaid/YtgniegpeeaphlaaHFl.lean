/- A single wrong bit ends the reading at its record. No program in sight but the two lists' comparison. -/
import Derived.Test.YtgniegpeeaphlaaHPb
namespace Go.Proofs.Ytgniegpeeaphlaa.HandA
open Go.RowKit Go.Proofs.Ytgniegpeeaphlaa.PR Go.Proofs.YtgniegpeeaphlaaW.PrintWords Go.Proofs.YtgniegpeeaphlaaW.PrintLast Go.Proofs.YtgniegpeeaphlaaW.PrintMore
set_option linter.unusedVariables false
set_option linter.unusedSimpArgs false
theorem split_at {l : List Int} {j : Nat} (h : j < l.length) : l = l.take j ++ ([rd l (j : Int)] ++ l.drop (j + 1)) := by
  have : rd l (j : Int) = l[j] := by simp [rd, h]
  rw [this]
  simp
theorem set_split {l : List Int} {j : Nat} {y : Int} (h : j < l.length) : l.set j y = l.take j ++ ([y] ++ l.drop (j + 1)) := by
  rw [List.set_eq_take_append_cons_drop, if_pos h]
  simp
theorem sumL_one (x : Int) : sumL [x] = x := by simp [sumL]
theorem sumL_set {l : List Int} {j : Nat} {y : Int} (h : j < l.length) : sumL (l.set j y) = sumL l - rd l (j : Int) + y := by
  have e1 : sumL l = sumL (l.take j) + (rd l (j : Int) + sumL (l.drop (j + 1))) := by
    conv => lhs; rw [split_at h]
    rw [sumL_append, sumL_append, sumL_one]
  rw [set_split h, sumL_append, sumL_append, sumL_one]
  omega
theorem one_flip {r : S32} {j : Nat} {y : Int} (hr : Rok r) (hj : j < 32) (hy : 0 ≤ y ∧ y < 256) (hne : y ≠ rd (recB r) (j : Int)) : (oneF ((recB r).set j y)).2.2.2.2 = false := by
  have hx := (bytes_byt r.f0 r.f1 r.f2 r.f3).at_ (i := j) (by rw [bytes_len]; exact hj)
  have hs := sumL_set (l := recB r) (j := j) (y := y) (by rw [recB_len]; exact hj)
  have h90 : sumL (recB r) % 256 = 90 := by
    show sumL (bytesF _ _ _ _) % 256 = 90
    unfold bytesF
    rw [sumL_snoc]
    omega
  unfold oneF
  rw [if_neg]
  rintro ⟨-, hq⟩
  rw [hs] at hq
  have hx' : 0 ≤ rd (recB r) (j : Int) ∧ rd (recB r) (j : Int) < 256 := hx
  omega
theorem read_flip {ls : List S32} {k : Nat} {y : Int} (hok : ∀ r ∈ ls, Rok r) (hlen : ls.length ≤ 2048) (hk : k < 32 * ls.length) (hy : 0 ≤ y ∧ y < 256) (hne : y ≠ rd (allB ls) (k : Int)) : readF ((allB ls).set k y) = ls.take (k / 32) := by
  have hq : k / 32 < ls.length := by omega
  obtain ⟨q, hqe⟩ : ∃ q, k / 32 = q := ⟨_, rfl⟩
  obtain ⟨j, hje⟩ : ∃ j, k = 32 * q + j := ⟨k - 32 * q, by omega⟩
  have hj : j < 32 := by omega
  rw [hqe] at hq ⊢
  obtain ⟨r, hr⟩ : ∃ r, ls[q] = r := ⟨_, rfl⟩
  have hls : ls = ls.take q ++ (r :: ls.drop (q + 1)) := by rw [← hr]; simp
  have hrm : r ∈ ls := by rw [← hr]; exact List.getElem_mem hq
  have htl : (ls.take q).length = q := by rw [List.length_take]; omega
  have hB : allB ls = allB (ls.take q) ++ (recB r ++ allB (ls.drop (q + 1))) := by
    conv => lhs; rw [hls]
    rw [allB_append, allB_cons]
  have hal : (allB (ls.take q)).length = 32 * q := by rw [allB_len, htl]
  have hset : (allB ls).set k y = allB (ls.take q) ++ ((recB r).set j y ++ allB (ls.drop (q + 1))) := by
    rw [hB, hje, ← hal, List.set_append_right _ _ (by omega), Nat.add_sub_cancel_left, List.set_append_left _ _ (by rw [recB_len]; exact hj)]
  have hne' : y ≠ rd (recB r) (j : Int) := by
    intro e
    apply hne
    rw [e, hB, hje, ← hal, rd_right]
    have hjl : j < (recB r).length := by rw [recB_len]; exact hj
    simp [rd, List.getElem?_append_left hjl]
  rw [hset]
  unfold readF
  rw [readL_all (ls.take q) 2048 _ (fun x hx => hok x (List.mem_of_mem_take hx)) (by rw [htl]; omega)]
  obtain ⟨m, hm⟩ : ∃ m, 2048 - (ls.take q).length = m + 1 := ⟨2047 - q, by rw [htl]; omega⟩
  rw [hm]
  simp only [readL]
  have ht : ((recB r).set j y ++ allB (ls.drop (q + 1))).take 32 = (recB r).set j y := List.take_left' (by rw [List.length_set, recB_len])
  rw [ht, one_flip (hok r hrm) hj hy hne', if_neg (fun q => by simp at q), List.append_nil]
theorem same_ev (xs : List S32) (hz : xs.length ≤ 1000000000) : ∀ (d n : Nat), n + d = xs.length → ∀ k, d < k → ref42_SameRecords.l0 k xs xs (n : Int) = some true := by
  intro d
  induction d with
  | zero =>
    intro n hn k hk
    obtain ⟨k, rfl⟩ : ∃ m, k = m + 1 := ⟨k - 1, by omega⟩
    simp only [ref42_SameRecords.l0]
    rw [if_neg (by omega)]
  | succ d ih =>
    intro n hn k hk
    obtain ⟨k, rfl⟩ : ∃ m, k = m + 1 := ⟨k - 1, by omega⟩
    simp only [ref42_SameRecords.l0]
    have hw : wrap64 ((n : Int) + 1) = ((n + 1 : Nat) : Int) := by unfold wrap64; omega
    rw [if_pos (by omega), if_pos (by omega), if_pos (by omega), if_neg (by simp), hw]
    exact ih (n + 1) (by omega) k (by omega)
theorem same_f (xs : List S32) (hz : xs.length ≤ 1000000000) : ref42_SameRecords.f (xs.length + 1) xs xs = some true := by
  unfold ref42_SameRecords.f
  rw [if_pos rfl]
  exact same_ev xs hz xs.length 0 (by omega) _ (by omega)
theorem same_at (A0 : Option Addr) (c0 n0 : Nat) (A1 : Option Addr) (c1 n1 : Nat) (xs : List S32) (w : World) (h0 : Kd.C k32 w A0 xs.length xs) (l0 : xs.length ≤ c0) (h1 : Kd.C k32 w A1 xs.length xs) (l1 : xs.length ≤ c1) (e0 : xs.length = n0) (e1 : xs.length = n1) (hz : xs.length ≤ 1000000000) :
    Calls Try.prog 16 #[.slice A0 n0 c0, .slice A1 n1 c1] w fun e w' => e = .returned (.bool true) ∧ Drawn0 w w' := by
  subst e0 e1
  exact ref42_SameRecords.calls _ A0 c0 xs A1 c1 xs true w h0 l0 h1 l1 (same_f xs hz)
theorem read_at (A : Option Addr) (c n : Nat) (b : List Int) (r : List S32) (w : World) (hl : Kd.C (Kd.int .u8) w A b.length b) (hc : b.length ≤ c) (hB : Byt b) (hz : b.length ≤ 1000000000) (en : b.length = n) (er : readF b = r) :
    Calls Try.prog 14 #[.slice A n c] w fun e w' => ∃ A1 c1, e = .returned (.tuple #[.slice A1 r.length c1, .int .i64 (32 * r.length : Nat)]) ∧ Kd.R k32 32 w' w.heap.size (fun _ => True) (.slice A1 r.length c1) r ∧ Below w.heap.size w w' := by
  subst en er
  refine (read_calls A c b w hl hc hB hz).mono ?_
  rintro e w' ⟨v, rfl, hr, hb⟩
  obtain ⟨A1, c1, rfl⟩ := Kd.R_slice hr
  exact ⟨A1, c1, rfl, hr, hb⟩
theorem bits_xor_u8_nat (a b : Nat) (ha : a < 256) (hb : b < 256) : bits .xor .u8 (a : Int) (b : Int) = ((a ^^^ b : Nat) : Int) := by
  have hx : a ^^^ b < 2 ^ 8 := Nat.xor_lt_two_pow (by omega) (by omega)
  have h1 : (BitVec.ofInt 8 (a : Int)).toNat = a := by
    rw [BitVec.ofInt_natCast, BitVec.toNat_ofNat]; exact Nat.mod_eq_of_lt (by omega)
  have h2 : (BitVec.ofInt 8 (b : Int)).toNat = b := by
    rw [BitVec.ofInt_natCast, BitVec.toNat_ofNat]; exact Nat.mod_eq_of_lt (by omega)
  show IntKind.u8.wrap ((BitVec.ofInt 8 (a : Int) ^^^ BitVec.ofInt 8 (b : Int)).toNat : Int) = _
  rw [BitVec.toNat_xor, h1, h2, show ∀ n, IntKind.u8.wrap n = n % 256 from fun n => by simp [IntKind.wrap, IntKind.bits, IntKind.signed]]
  omega
theorem xor_ne {x : Int} (hx : 0 ≤ x ∧ x < 256) {b : Int} (hb : 0 < b ∧ b < 256) : bits .xor .u8 x b ≠ x := by
  obtain ⟨a, rfl⟩ : ∃ a : Nat, x = a := ⟨x.toNat, by omega⟩
  obtain ⟨c, rfl⟩ : ∃ c : Nat, b = c := ⟨b.toNat, by omega⟩
  rw [bits_xor_u8_nat a c (by omega) (by omega)]
  intro h
  have h1 : a ^^^ c = a := by omega
  have h2 : c = 0 := by
    have : a ^^^ (a ^^^ c) = a ^^^ a := by rw [h1]
    rw [← Nat.xor_assoc, Nat.xor_self, Nat.zero_xor] at this
    exact this
  omega
/-- A byte of the bytes is set. -/
theorem Bw.setB {w W : World} {g gb cap : Nat} {L B : List Int} {p : Int} {vl : Value} {ls : List S32} (h : Bw w W g L p (.slice (some ⟨gb, 0, none⟩) B.length cap) B vl ls) (i : Nat) (y : Int) : Bw w (W.setCell ⟨gb, i, none⟩ (.int .u8 y)) g L p (.slice (some ⟨gb, 0, none⟩) B.length cap) (B.set i y) vl ls := by
  obtain ⟨cs, hcs⟩ := Kd.R_typed h.rb gb rfl
  have hput := (Kd.R_put h.rb (i : Int) y).1
  rw [Int.toNat_natCast] at hput
  exact ⟨h.dice.far (h.dice.ne_blk hcs (by decide)) _, below_set h.bel (Kd.R_base h.rb gb rfl), hput, R_setT h.rl hcs (by decide)⟩
end Go.Proofs.Ytgniegpeeaphlaa.HandA
