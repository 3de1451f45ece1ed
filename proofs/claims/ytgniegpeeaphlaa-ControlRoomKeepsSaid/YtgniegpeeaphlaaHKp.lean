/- Repair, walked; what remains after a crash, plain. -/
import Derived.Test.YtgniegpeeaphlaaHFl
namespace Go.Proofs.Ytgniegpeeaphlaa.HandA
open Go.RowKit Go.Proofs.Ytgniegpeeaphlaa.PR Go.Proofs.YtgniegpeeaphlaaW.PrintWords Go.Proofs.YtgniegpeeaphlaaW.PrintLast Go.Proofs.YtgniegpeeaphlaaW.PrintMore
set_option linter.unusedVariables false
set_option linter.unusedSimpArgs false
theorem clone_at (A : Option Addr) (c n : Nat) (l : List Int) (w : World) (hl : Kd.C kb w A l.length l) (hc : l.length ≤ c) (hz : l.length ≤ 140737488355327) (en : l.length = n) :
    Calls Try.prog 52 #[.slice A n c] w fun e w' => ∃ A1 c1, e = .returned (.slice A1 n c1) ∧ Kd.R kb 5 w' w.heap.size (fun _ => True) (.slice A1 n c1) l ∧ Below w.heap.size w w' := by
  subst en
  refine (clone_calls A c l w hl hc hz).mono ?_
  rintro e w' ⟨v, rfl, hr, hb⟩
  obtain ⟨A1, c1, rfl⟩ := Kd.R_slice hr
  exact ⟨A1, c1, rfl, hr, hb⟩
set_option maxHeartbeats 8000000 in
set_option maxRecDepth 100000 in
theorem repair_calls (A1 : Option Addr) (c1 : Nat) (l1 : List Int) (v2 : Value) (w : World) (hr1 : Kd.C kb w A1 l1.length l1) (hc1 : l1.length ≤ c1) (hz : l1.length ≤ 1000000000) (hB : Byt l1) (RN : Nat) (hRN : (readF l1).length = RN) (hv : ∃ A c n, v2 = .slice A n c) :
    Calls Try.prog 28 #[.agg #[.slice A1 l1.length c1, v2]] w fun e w' => ∃ Ac cc, e = .returned (.agg #[.slice Ac (32 * RN) cc, .slice none 0 0]) ∧ Kd.R kb 5 w' w.heap.size (fun _ => True) (.slice Ac (32 * RN) cc) (l1.take (32 * RN)) ∧ Below w.heap.size w w' := by
  have hu49 := Try.underlying49
  have HR1 := Aside0.mk hr1
  have HB := Aside0.mk hB
  have HRN := Aside0.mk hRN
  have hle : 32 * RN ≤ l1.length := by rw [← hRN]; exact (readL_len 2048 l1).2
  obtain ⟨Ax, cx, nx, rfl⟩ := hv
  clear hr1 hB hRN
  have D0 := Aside0.mk (Dk.first w (.slice A1 l1.length c1) (.slice Ax nx cx))
  go_enter Try.func28, Try.ntmps28
  go_upto_region 1 with fail
  generalize (w.alloc (Obj.cells #[.slice A1 l1.length c1, .slice Ax nx cx] 49)).alloc (Obj.cells #[.slice none 0 0, .slice none 0 0] 49) = W0 at D0 ⊢
  obtain ⟨x0, _, x1, _⟩ := box2 D0.out.box
  have e0 : ((32 * RN : Nat) : Int) = 32 * (RN : Int) := by omega
  have hk0 : (0 : Int) ≤ 32 * (RN : Int) := by omega
  have hk1 : (32 : Int) * (RN : Int) ≤ c1 := by omega
  have HCT := Aside0.mk (fun (W : World) (h : Below w.heap.size w W) => Kd.C_take (Kd.C_below HR1.out h) hle)
  have HTL := Aside0.mk (show (l1.take (32 * RN)).length = 32 * RN by rw [List.length_take]; omega)
  clear e0
  go_wp2_with (first | (go_at_call 14; (with_reducible refine (read_calls A1 c1 l1 _ (Kd.C_below HR1.out D0.out.bel) hc1 HB.out hz).mono ?_); rw [HRN.out]; rintro e w2 ⟨v7, rfl, hr, hb⟩; obtain ⟨A7, c7, rfl⟩ := Kd.R_slice hr; have D1 := Aside0.mk (D0.out.below hb); clear hr hb; obtain ⟨y0, _, y1, _⟩ := box2 D1.out.box) | (go_at_call 52; (with_reducible refine (clone_at A1 c1 (32 * RN) (l1.take (32 * RN)) _ (HCT.out _ D1.out.bel) (by rw [HTL.out]; omega) (by rw [HTL.out]; omega) HTL.out).mono ?_); rintro e w3 ⟨Ac, cc, rfl, hr, hb⟩; have D2 := Aside0.mk (D1.out.below hb); have RC := Aside0.mk (show Kd.R kb 5 w3 w.heap.size (fun _ => True) (.slice Ac (32 * RN) cc) (l1.take (32 * RN)) from Kd.R_lower hr D1.out.bel.size); clear hr hb; obtain ⟨o0, u0, o1, u1⟩ := box2 D2.out.res))
  obtain ⟨b1, b2, b3⟩ := D2.out.set (u1 := .slice Ac (32 * RN) cc) (u2 := .slice none 0 0)
  refine bodyPost_ret (results_cell_row rfl _ _ (w.heap.size + 1) 49 #[.slice Ac (32 * RN) cc, .slice none 0 0] (0, 0) _ rfl b2 hu49 rfl (by kernel_rfl)) rfl ?_
  exact ⟨_, _, rfl, b3 _ _ _ RC.out, b1⟩
/-- The records that remain after a crash are the first ones. -/
theorem readF_more {l : List S32} {rest : List Int} (h : ∀ r ∈ l, Rok r) (hl : l.length ≤ 2048) (hr : rest.length < 32 ∨ (oneF (rest.take 32)).2.2.2.2 = false) : readF (allB l ++ rest) = l := by
  unfold readF
  rw [readL_all l 2048 rest h hl]
  have : readL (2048 - l.length) rest = [] := by
    rcases hr with hr | hr
    · exact readL_short _ hr
    · cases 2048 - l.length with
      | zero => rfl
      | succ n =>
        simp only [readL]
        rw [hr, if_neg (fun q => by simp at q)]
  rw [this, List.append_nil]
theorem crash_read {ls : List S32} {s : Nat} (hs : s ≤ ls.length) (hok : ∀ r ∈ ls, Rok r) (hlen : ls.length ≤ 2000) (K br : Int) :
    ∃ q rest, s ≤ q ∧ q ≤ ls.length ∧ allB (ls.take s) ++ restF (allB (ls.drop s)) K br = allB (ls.take q) ++ rest ∧ readF (allB (ls.take q) ++ rest) = ls.take q := by
  have okt : ∀ q, ∀ r ∈ ls.take q, Rok r := fun q r hr => hok r (List.mem_of_mem_take hr)
  obtain ⟨D, hD⟩ : ∃ D, ls.drop s = D := ⟨_, rfl⟩
  have hsplit : ls = ls.take s ++ D := by rw [← hD]; simp
  have hDl : D.length = ls.length - s := by rw [← hD]; simp
  have htk : ∀ q, ls.take (s + q) = ls.take s ++ D.take q := fun q => by
    rw [← hD, List.take_add]
  rw [hD]
  have hkl := keep_le (allB D).length K
  obtain ⟨kk, hkk⟩ : ∃ kk, keepF (allB D).length K = kk := ⟨_, rfl⟩
  rw [hkk] at hkl
  have hal := allB_len D
  by_cases h0 : 0 < kk
  · have hrest : restF (allB D) K br = ((allB D).take kk).set (kk - 1) (bits .xor .u8 (rd ((allB D).take kk) ((kk - 1 : Nat) : Int)) br) := by
      unfold restF
      rw [hkk, if_pos h0]
    rw [hrest]
    obtain ⟨y, hy⟩ : ∃ y, bits .xor .u8 (rd ((allB D).take kk) ((kk - 1 : Nat) : Int)) br = y := ⟨_, rfl⟩
    have hyb := xor_byt (rd ((allB D).take kk) ((kk - 1 : Nat) : Int)) br
    rw [hy] at hyb ⊢
    obtain ⟨q, hq⟩ : ∃ q, (kk - 1) / 32 = q := ⟨_, rfl⟩
    have hqD : q < D.length := by omega
    obtain ⟨r, hr⟩ : ∃ r, D[q] = r := ⟨_, rfl⟩
    have hrm : r ∈ ls := by
      rw [hsplit]
      exact List.mem_append_right _ (by rw [← hr]; exact List.getElem_mem hqD)
    have hDs : D = D.take q ++ (r :: D.drop (q + 1)) := by rw [← hr]; simp
    have hB : allB D = allB (D.take q) ++ (recB r ++ allB (D.drop (q + 1))) := by
      conv => lhs; rw [hDs]
      rw [allB_append, allB_cons]
    have hql : (allB (D.take q)).length = 32 * q := by rw [allB_len, List.length_take]; omega
    obtain ⟨j, hj⟩ : ∃ j, kk = 32 * q + (j + 1) := ⟨kk - 1 - 32 * q, by omega⟩
    have hj32 : j < 32 := by omega
    have htake : (allB D).take kk = allB (D.take q) ++ (recB r).take (j + 1) := by
      rw [hB, hj, ← hql, List.take_append, List.take_of_length_le (by omega), Nat.add_sub_cancel_left, List.take_append_of_le_length (by rw [recB_len]; omega)]
    have hset : ((allB D).take kk).set (kk - 1) y = allB (D.take q) ++ ((recB r).take (j + 1)).set j y := by
      rw [htake, show kk - 1 = (allB (D.take q)).length + j by omega, List.set_append_right _ _ (by omega), Nat.add_sub_cancel_left]
    rw [hset, ← List.append_assoc, ← allB_append, ← htk]
    by_cases hfull : j = 31 ∧ y = rd (recB r) (j : Int)
    · obtain ⟨rfl, hye⟩ := hfull
      have e1 : (recB r).take (31 + 1) = recB r := List.take_of_length_le (by rw [recB_len]; omega)
      have e2 : (recB r).set 31 y = recB r := by
        have hl31 : 31 < (recB r).length := by rw [recB_len]; omega
        conv => rhs; rw [split_at hl31]
        rw [set_split hl31, hye]
      have e3 : ls.take (s + (q + 1)) = ls.take (s + q) ++ [r] := by
        rw [htk, htk, ← hr, List.append_assoc, List.take_append_getElem]
      refine ⟨s + (q + 1), [], by omega, by omega, ?_, readF_more (okt _) (by rw [List.length_take]; omega) (.inl (by simp))⟩
      rw [e1, e2, e3, allB_append, List.append_nil]
      simp [allB]
    · refine ⟨s + q, _, by omega, by omega, rfl, readF_more (okt _) (by rw [List.length_take]; omega) ?_⟩
      by_cases hj31 : j = 31
      · right
        subst hj31
        have e1 : (recB r).take (31 + 1) = recB r := List.take_of_length_le (by rw [recB_len]; omega)
        rw [e1, List.take_of_length_le (by rw [List.length_set, recB_len]; omega)]
        exact one_flip (hok r hrm) (by omega) hyb (fun e => hfull ⟨rfl, e⟩)
      · left
        rw [List.length_set, List.length_take]
        omega
  · have hrest : restF (allB D) K br = [] := by
      unfold restF
      rw [hkk, if_neg h0]
    refine ⟨s, [], Nat.le_refl _, hs, by rw [hrest], readF_more (okt _) (by rw [List.length_take]; omega) (.inl (by simp))⟩
end Go.Proofs.Ytgniegpeeaphlaa.HandA
