import Derived.Test.YtejmjeanhlkenaaCP0
-- written by wip/myprint.py (the kit's print over hand-proved contracts)
namespace Go.Proofs.Ytejmjeanhlkenaa.PB
open Go.RowKit Go.Proofs.YtejmjeanhlkenaaW.PrintWords Go.Proofs.YtejmjeanhlkenaaW.PrintLast Go.Proofs.YtejmjeanhlkenaaW.PrintMore
attribute [local go_sem] max2_int min2_int max_two min_two max_three min_three max_four min_four   -- for this text's walks alone
set_option linter.unusedVariables false
set_option linter.unusedSimpArgs false

/-! ### ref23_SameInts: function 42 -/
def ref23_SameInts.l0 : Nat → List Int → List Int → Int → Option (Bool)
 | 0, _, _, _ => none
 | k + 1, x0, x1, x5 => if x5 < (x0.length : Int) then (if 0 ≤ x5 then (if x5 < (x1.length : Int) then (if (rd x0 x5) = (rd x1 x5) then (ref23_SameInts.l0 k x0 x1 (wrap64 (x5 + 1))) else (some false)) else (none)) else (none)) else (some true)
def ref23_SameInts.f (k : Nat) (l0 : List Int) (l1 : List Int) : Option (Bool) := if (l0.length : Int) = (l1.length : Int) then (ref23_SameInts.l0 k l0 l1 0) else (some false)
theorem ref23_SameInts.mono_l : ∀ k, (∀ y0 y1 y2, LeO (ref23_SameInts.l0 k y0 y1 y2) (ref23_SameInts.l0 (k + 1) y0 y1 y2))
 | 0 => fun _ _ _ r h => by simp [ref23_SameInts.l0] at h
 | k + 1 => by
  have ih0 := ref23_SameInts.mono_l k
  ·intro y0 y1 y2
   unfold ref23_SameInts.l0
   repeat' first
   | (with_reducible exact ih0 _ _ _)
   | (with_reducible exact LeO.refl _)
   | (with_reducible exact LeO.none _)
   | (with_reducible refine LeO.ite ?_ ?_)
   | (with_reducible refine LeO.bind ?_ (fun _ => ?_))
   | exact ih0 _ _ _
   | exact LeO.none _
   | refine LeO.ite ?_ ?_
   | refine LeO.bind ?_ (fun _ => ?_)
theorem ref23_SameInts.mono : ∀ a0 a1 k, LeO (ref23_SameInts.f k a0 a1) (ref23_SameInts.f (k + 1) a0 a1) := by
 intro a0 a1 k
 have ih0 := ref23_SameInts.mono_l k
 unfold ref23_SameInts.f
 repeat' first
   | (with_reducible exact ih0 _ _ _)
   | (with_reducible exact LeO.refl _)
   | (with_reducible exact LeO.none _)
   | (with_reducible refine LeO.ite ?_ ?_)
   | (with_reducible refine LeO.bind ?_ (fun _ => ?_))
   | exact ih0 _ _ _
   | exact LeO.none _
   | refine LeO.ite ?_ ?_
   | refine LeO.bind ?_ (fun _ => ?_)
set_option maxHeartbeats 8000000 in
set_option maxRecDepth 100000 in
theorem ref23_SameInts.calls (k : Nat) (A0 : Option Addr) (c0 : Nat) (l0 : List Int) (A1 : Option Addr) (c1 : Nat) (l1 : List Int) (r : Bool) (w : World) (hr0 : Kd.C (Kd.int .i64) w A0 l0.length l0) (hc0 : l0.length ≤ c0) (hr1 : Kd.C (Kd.int .i64) w A1 l1.length l1) (hc1 : l1.length ≤ c1) (h : ref23_SameInts.f k l0 l1 = some r) :
  Calls Try.prog 42 #[.slice A0 l0.length c0, .slice A1 l1.length c1] w fun e w' => e = .returned (.bool r) ∧ Drawn0 w w' := by
 have HR0 := Aside0.mk hr0
 have HC0 := Aside0.mk hc0
 clear hr0 hc0
 have HR1 := Aside0.mk hr1
 have HC1 := Aside0.mk hc1
 clear hr1 hc1
 have H : (if (l0.length : Int) = (l1.length : Int) then (ref23_SameInts.l0 k l0 l1 0) else (some false)) = some r := h
 clear h
 by_cases c3 : (l0.length : Int) = (l1.length : Int)
 ·rw [if_pos c3] at H
  have c3b0 : ((l0.length : Int) == (l1.length : Int)) = true := beq_iff_eq.mpr c3
  have c3b1 : ((l0.length : Int) != (l1.length : Int)) = false := bne_eq_false_iff_eq.mpr c3
  have c3b2 : (l0.length == l1.length) = true := by first | simpa using c3 | (simp at c3 ⊢; omega)
  clear c3
  have H' := Aside0.mk H
  clear H
  go_enter Try.func42, Try.ntmps42
  go_wp2
  repeat (go_quiet (fail); try go_wp2)
  go_loopg [5] k (fun kq v5 w' => ∃ (x5_1 : Int), v5 = .int .i64 x5_1 ∧ Aside0 (ref23_SameInts.l0 kq l0 l1 x5_1 = some r) ∧ Aside0 (kq ≤ k) ∧ Drawn0 w w')
  case atStart => exact ⟨(0), (by first | rfl | (simp; done) | (simp [*]; done)), H', ⟨Nat.le_refl _⟩, by repeat (first | exact Drawn0.refl _ | apply Drawn0.step)⟩
  case round =>
   clear H'; (try clear c1); (try clear p2); (try clear c3); (try clear c3b0); (try clear c3b1); (try clear c3b2)
   obtain ⟨x5_1, rfl, HA, HK1, ⟨m1, rfl⟩⟩ := hrel
   cases gk with
   | zero => exact absurd HA.out (by simp [ref23_SameInts.l0])
   | succ k1 =>
    have H := HA.out
    clear HA
    simp only [ref23_SameInts.l0] at H
    by_cases c4 : x5_1 < (l0.length : Int)
    ·rw [if_pos c4] at H
     have c4b0 : decide (x5_1 < (l0.length : Int)) = true := decide_eq_true c4
     clear c4
     by_cases c5 : 0 ≤ x5_1
     ·rw [if_pos c5] at H
      have c5b0 : decide (0 ≤ x5_1) = true := decide_eq_true c5
      clear c5
      by_cases c6 : x5_1 < (l1.length : Int)
      ·rw [if_pos c6] at H
       have c6b0 : decide (x5_1 < (l1.length : Int)) = true := decide_eq_true c6
       clear c6
       by_cases c7 : (rd l0 x5_1) = (rd l1 x5_1)
       ·rw [if_pos c7] at H
        have c7b0 : ((rd l0 x5_1) == (rd l1 x5_1)) = true := beq_iff_eq.mpr c7
        have c7b1 : ((rd l0 x5_1) != (rd l1 x5_1)) = false := bne_eq_false_iff_eq.mpr c7
        clear c7
        have H' := Aside0.mk H
        clear H
        have p742 : 0 ≤ (x5_1 : Int) := of_decide_eq_true (by first | (with_reducible assumption) | assumption)
        have q742 : x5_1 < (l0.length : Int) := of_decide_eq_true (by first | (with_reducible assumption) | assumption)
        obtain ⟨ad742, e742, hx742_0⟩ := Kd.at_int HR0.out x5_1 p742 q742
        cases e742
        replace p742 := eq_true p742
        replace q742 := eq_true q742
        have p743 : 0 ≤ (x5_1 : Int) := of_decide_eq_true (by first | (with_reducible assumption) | assumption)
        have q743 : x5_1 < (l1.length : Int) := of_decide_eq_true (by first | (with_reducible assumption) | assumption)
        obtain ⟨ad743, e743, hx743_0⟩ := Kd.at_int HR1.out x5_1 p743 q743
        cases e743
        replace p743 := eq_true p743
        replace q743 := eq_true q743
        go_wp2
        repeat (go_quiet (fail); try go_wp2)
        go_roundg k1
        case measure => have := HK1.out; omega
        case rel => exact ⟨(wrap64 (x5_1 + 1)), (by first | rfl | (simp; done) | (simp [*]; done)), H', ⟨by have := HK1.out; omega⟩, by repeat (first | exact Drawn0.refl _ | apply Drawn0.step)⟩
       ·rw [if_neg c7] at H
        have c7b0 : ((rd l0 x5_1) == (rd l1 x5_1)) = false := beq_eq_false_iff_ne.mpr c7
        have c7b1 : ((rd l0 x5_1) != (rd l1 x5_1)) = true := bne_iff_ne.mpr c7
        obtain rfl := Option.some.inj H
        have p742 : 0 ≤ (x5_1 : Int) := of_decide_eq_true (by first | (with_reducible assumption) | assumption)
        have q742 : x5_1 < (l0.length : Int) := of_decide_eq_true (by first | (with_reducible assumption) | assumption)
        obtain ⟨ad742, e742, hx742_0⟩ := Kd.at_int HR0.out x5_1 p742 q742
        cases e742
        replace p742 := eq_true p742
        replace q742 := eq_true q742
        have p743 : 0 ≤ (x5_1 : Int) := of_decide_eq_true (by first | (with_reducible assumption) | assumption)
        have q743 : x5_1 < (l1.length : Int) := of_decide_eq_true (by first | (with_reducible assumption) | assumption)
        obtain ⟨ad743, e743, hx743_0⟩ := Kd.at_int HR1.out x5_1 p743 q743
        cases e743
        replace p743 := eq_true p743
        replace q743 := eq_true q743
        go_wp2
        repeat (go_quiet (fail); try go_wp2)
        go_ret
        exact ⟨by first | rfl | (simp; done) | (simp [*]; done), by repeat (first | exact Drawn0.refl _ | apply Drawn0.step)⟩
      ·rw [if_neg c6] at H
       exact absurd H (by simp)
     ·rw [if_neg c5] at H
      exact absurd H (by simp)
    ·rw [if_neg c4] at H
     have c4b0 : decide (x5_1 < (l0.length : Int)) = false := decide_eq_false c4
     clear c4
     obtain rfl := Option.some.inj H
     go_wp2
     repeat (go_quiet (fail); try go_wp2)
     go_ret
     exact ⟨by first | rfl | (simp; done) | (simp [*]; done), by repeat (first | exact Drawn0.refl _ | apply Drawn0.step)⟩
 ·rw [if_neg c3] at H
  have c3b0 : ((l0.length : Int) == (l1.length : Int)) = false := beq_eq_false_iff_ne.mpr c3
  have c3b1 : ((l0.length : Int) != (l1.length : Int)) = true := bne_iff_ne.mpr c3
  have c3b2 : (l0.length == l1.length) = false := by first | simpa using c3 | (simp at c3 ⊢; omega)
  obtain rfl := Option.some.inj H
  go_enter Try.func42, Try.ntmps42
  go_wp2
  repeat (go_quiet (fail); try go_wp2)
  go_ret
  exact ⟨by first | rfl | (simp; done) | (simp [*]; done), by repeat (first | exact Drawn0.refl _ | apply Drawn0.step)⟩

end Go.Proofs.Ytejmjeanhlkenaa.PB

-- written by wip/myprint.py (the kit's print over hand-proved contracts)
namespace Go.Proofs.Ytejmjeanhlkenaa.PB
open Go.RowKit Go.Proofs.YtejmjeanhlkenaaW.PrintWords Go.Proofs.YtejmjeanhlkenaaW.PrintLast Go.Proofs.YtejmjeanhlkenaaW.PrintMore
attribute [local go_sem] max2_int min2_int max_two min_two max_three min_three max_four min_four   -- for this text's walks alone
set_option linter.unusedVariables false
set_option linter.unusedSimpArgs false

/-! ### ref39_sameBools: function 56 -/
def ref39_sameBools.l0 : Nat → List Bool → List Bool → Int → Option (Bool)
 | 0, _, _, _ => none
 | k + 1, x0, x1, x5 => if x5 < (x0.length : Int) then (if 0 ≤ x5 then (if x5 < (x1.length : Int) then (if ((rdOf false x0 x5) != (rdOf false x1 x5)) = true then (some false) else (ref39_sameBools.l0 k x0 x1 (wrap64 (x5 + 1)))) else (none)) else (none)) else (some true)
def ref39_sameBools.f (k : Nat) (l0 : List Bool) (l1 : List Bool) : Option (Bool) := if (l0.length : Int) = (l1.length : Int) then (ref39_sameBools.l0 k l0 l1 0) else (some false)
theorem ref39_sameBools.mono_l : ∀ k, (∀ y0 y1 y2, LeO (ref39_sameBools.l0 k y0 y1 y2) (ref39_sameBools.l0 (k + 1) y0 y1 y2))
 | 0 => fun _ _ _ r h => by simp [ref39_sameBools.l0] at h
 | k + 1 => by
  have ih0 := ref39_sameBools.mono_l k
  ·intro y0 y1 y2
   unfold ref39_sameBools.l0
   repeat' first
   | (with_reducible exact ih0 _ _ _)
   | (with_reducible exact LeO.refl _)
   | (with_reducible exact LeO.none _)
   | (with_reducible refine LeO.ite ?_ ?_)
   | (with_reducible refine LeO.bind ?_ (fun _ => ?_))
   | exact ih0 _ _ _
   | exact LeO.none _
   | refine LeO.ite ?_ ?_
   | refine LeO.bind ?_ (fun _ => ?_)
theorem ref39_sameBools.mono : ∀ a0 a1 k, LeO (ref39_sameBools.f k a0 a1) (ref39_sameBools.f (k + 1) a0 a1) := by
 intro a0 a1 k
 have ih0 := ref39_sameBools.mono_l k
 unfold ref39_sameBools.f
 repeat' first
   | (with_reducible exact ih0 _ _ _)
   | (with_reducible exact LeO.refl _)
   | (with_reducible exact LeO.none _)
   | (with_reducible refine LeO.ite ?_ ?_)
   | (with_reducible refine LeO.bind ?_ (fun _ => ?_))
   | exact ih0 _ _ _
   | exact LeO.none _
   | refine LeO.ite ?_ ?_
   | refine LeO.bind ?_ (fun _ => ?_)
set_option maxHeartbeats 8000000 in
set_option maxRecDepth 100000 in
theorem ref39_sameBools.calls (k : Nat) (A0 : Option Addr) (c0 : Nat) (l0 : List Bool) (A1 : Option Addr) (c1 : Nat) (l1 : List Bool) (r : Bool) (w : World) (hr0 : Kd.C Kd.bool w A0 l0.length l0) (hc0 : l0.length ≤ c0) (hr1 : Kd.C Kd.bool w A1 l1.length l1) (hc1 : l1.length ≤ c1) (h : ref39_sameBools.f k l0 l1 = some r) :
  Calls Try.prog 56 #[.slice A0 l0.length c0, .slice A1 l1.length c1] w fun e w' => e = .returned (.bool r) ∧ Drawn0 w w' := by
 have HR0 := Aside0.mk hr0
 have HC0 := Aside0.mk hc0
 clear hr0 hc0
 have HR1 := Aside0.mk hr1
 have HC1 := Aside0.mk hc1
 clear hr1 hc1
 have H : (if (l0.length : Int) = (l1.length : Int) then (ref39_sameBools.l0 k l0 l1 0) else (some false)) = some r := h
 clear h
 by_cases c3 : (l0.length : Int) = (l1.length : Int)
 ·rw [if_pos c3] at H
  have c3b0 : ((l0.length : Int) == (l1.length : Int)) = true := beq_iff_eq.mpr c3
  have c3b1 : ((l0.length : Int) != (l1.length : Int)) = false := bne_eq_false_iff_eq.mpr c3
  have c3b2 : (l0.length == l1.length) = true := by first | simpa using c3 | (simp at c3 ⊢; omega)
  clear c3
  have H' := Aside0.mk H
  clear H
  go_enter Try.func56, Try.ntmps56
  go_wp2
  repeat (go_quiet (fail); try go_wp2)
  go_loopg [5] k (fun kq v5 w' => ∃ (x5_1 : Int), v5 = .int .i64 x5_1 ∧ Aside0 (ref39_sameBools.l0 kq l0 l1 x5_1 = some r) ∧ Aside0 (kq ≤ k) ∧ Drawn0 w w')
  case atStart => exact ⟨(0), (by first | rfl | (simp; done) | (simp [*]; done)), H', ⟨Nat.le_refl _⟩, by repeat (first | exact Drawn0.refl _ | apply Drawn0.step)⟩
  case round =>
   clear H'; (try clear c1); (try clear p2); (try clear c3); (try clear c3b0); (try clear c3b1); (try clear c3b2)
   obtain ⟨x5_1, rfl, HA, HK1, ⟨m1, rfl⟩⟩ := hrel
   cases gk with
   | zero => exact absurd HA.out (by simp [ref39_sameBools.l0])
   | succ k1 =>
    have H := HA.out
    clear HA
    simp only [ref39_sameBools.l0] at H
    by_cases c4 : x5_1 < (l0.length : Int)
    ·rw [if_pos c4] at H
     have c4b0 : decide (x5_1 < (l0.length : Int)) = true := decide_eq_true c4
     clear c4
     by_cases c5 : 0 ≤ x5_1
     ·rw [if_pos c5] at H
      have c5b0 : decide (0 ≤ x5_1) = true := decide_eq_true c5
      clear c5
      by_cases c6 : x5_1 < (l1.length : Int)
      ·rw [if_pos c6] at H
       have c6b0 : decide (x5_1 < (l1.length : Int)) = true := decide_eq_true c6
       clear c6
       by_cases c7 : ((rdOf false l0 x5_1) != (rdOf false l1 x5_1)) = true
       ·rw [if_pos c7] at H
        have c7b0 : ((rdOf false l0 x5_1) != (rdOf false l1 x5_1)) = true := c7
        (try (have c7b1 : decide ((rdOf false l0 x5_1) = (rdOf false l1 x5_1)) = false := by simpa using c7))
        (try (have c7b2 : ((rdOf false l0 x5_1) == (rdOf false l1 x5_1)) = false := by simpa using c7))
        (try (have c7b3 : ¬ ((rdOf false l0 x5_1) = (rdOf false l1 x5_1)) := by simpa using c7))
        clear c7
        obtain rfl := Option.some.inj H
        have p744 : 0 ≤ (x5_1 : Int) := of_decide_eq_true (by first | (with_reducible assumption) | assumption)
        have q744 : x5_1 < (l0.length : Int) := of_decide_eq_true (by first | (with_reducible assumption) | assumption)
        obtain ⟨ad744, e744, hx744_0⟩ := Kd.at_bool HR0.out x5_1 p744 q744
        cases e744
        replace p744 := eq_true p744
        replace q744 := eq_true q744
        have p745 : 0 ≤ (x5_1 : Int) := of_decide_eq_true (by first | (with_reducible assumption) | assumption)
        have q745 : x5_1 < (l1.length : Int) := of_decide_eq_true (by first | (with_reducible assumption) | assumption)
        obtain ⟨ad745, e745, hx745_0⟩ := Kd.at_bool HR1.out x5_1 p745 q745
        cases e745
        replace p745 := eq_true p745
        replace q745 := eq_true q745
        go_wp2
        repeat (go_quiet (fail); try go_wp2)
        go_ret
        exact ⟨by first | rfl | (simp; done) | (simp [*]; done), by repeat (first | exact Drawn0.refl _ | apply Drawn0.step)⟩
       ·rw [if_neg c7] at H
        have c7b0 : ((rdOf false l0 x5_1) != (rdOf false l1 x5_1)) = false := by simpa using c7
        (try (have c7b1 : decide ((rdOf false l0 x5_1) = (rdOf false l1 x5_1)) = true := by simpa using c7))
        (try (have c7b2 : ((rdOf false l0 x5_1) == (rdOf false l1 x5_1)) = true := by simpa using c7))
        clear c7
        have H' := Aside0.mk H
        clear H
        have p744 : 0 ≤ (x5_1 : Int) := of_decide_eq_true (by first | (with_reducible assumption) | assumption)
        have q744 : x5_1 < (l0.length : Int) := of_decide_eq_true (by first | (with_reducible assumption) | assumption)
        obtain ⟨ad744, e744, hx744_0⟩ := Kd.at_bool HR0.out x5_1 p744 q744
        cases e744
        replace p744 := eq_true p744
        replace q744 := eq_true q744
        have p745 : 0 ≤ (x5_1 : Int) := of_decide_eq_true (by first | (with_reducible assumption) | assumption)
        have q745 : x5_1 < (l1.length : Int) := of_decide_eq_true (by first | (with_reducible assumption) | assumption)
        obtain ⟨ad745, e745, hx745_0⟩ := Kd.at_bool HR1.out x5_1 p745 q745
        cases e745
        replace p745 := eq_true p745
        replace q745 := eq_true q745
        go_wp2
        repeat (go_quiet (fail); try go_wp2)
        go_roundg k1
        case measure => have := HK1.out; omega
        case rel => exact ⟨(wrap64 (x5_1 + 1)), (by first | rfl | (simp; done) | (simp [*]; done)), H', ⟨by have := HK1.out; omega⟩, by repeat (first | exact Drawn0.refl _ | apply Drawn0.step)⟩
      ·rw [if_neg c6] at H
       exact absurd H (by simp)
     ·rw [if_neg c5] at H
      exact absurd H (by simp)
    ·rw [if_neg c4] at H
     have c4b0 : decide (x5_1 < (l0.length : Int)) = false := decide_eq_false c4
     clear c4
     obtain rfl := Option.some.inj H
     go_wp2
     repeat (go_quiet (fail); try go_wp2)
     go_ret
     exact ⟨by first | rfl | (simp; done) | (simp [*]; done), by repeat (first | exact Drawn0.refl _ | apply Drawn0.step)⟩
 ·rw [if_neg c3] at H
  have c3b0 : ((l0.length : Int) == (l1.length : Int)) = false := beq_eq_false_iff_ne.mpr c3
  have c3b1 : ((l0.length : Int) != (l1.length : Int)) = true := bne_iff_ne.mpr c3
  have c3b2 : (l0.length == l1.length) = false := by first | simpa using c3 | (simp at c3 ⊢; omega)
  obtain rfl := Option.some.inj H
  go_enter Try.func56, Try.ntmps56
  go_wp2
  repeat (go_quiet (fail); try go_wp2)
  go_ret
  exact ⟨by first | rfl | (simp; done) | (simp [*]; done), by repeat (first | exact Drawn0.refl _ | apply Drawn0.step)⟩

end Go.Proofs.Ytejmjeanhlkenaa.PB

-- written by wip/myprint.py (the kit's print over hand-proved contracts)
namespace Go.Proofs.Ytejmjeanhlkenaa.PB
open Go.RowKit Go.Proofs.YtejmjeanhlkenaaW.PrintWords Go.Proofs.YtejmjeanhlkenaaW.PrintLast Go.Proofs.YtejmjeanhlkenaaW.PrintMore
attribute [local go_sem] max2_int min2_int max_two min_two max_three min_three max_four min_four   -- for this text's walks alone
set_option linter.unusedVariables false
set_option linter.unusedSimpArgs false

/-! ### ref39_Same: function 40 -/
def ref39_Same.f (k : Nat) (a0_0 : Int) (l0_1 : List Int) (l0_2 : List Int) (l0_3 : List Bool) (l0_4 : List Bool) (a1_0 : Int) (l1_1 : List Int) (l1_2 : List Int) (l1_3 : List Bool) (l1_4 : List Bool) : Option (Bool) := if a0_0 = a1_0 then ((ref23_SameInts.f k l0_1 l1_1).bind fun t748 => (if t748 = true then ((ref23_SameInts.f k l0_2 l1_2).bind fun t749 => (if t749 = true then ((ref39_sameBools.f k l0_3 l1_3).bind fun t750 => (if t750 = true then ((ref39_sameBools.f k l0_4 l1_4).bind fun t751 => (some t751)) else (some false))) else (some false))) else (some false))) else (some false)
theorem ref39_Same.mono : ∀ a0 a1 a2 a3 a4 a5 a6 a7 a8 a9 k, LeO (ref39_Same.f k a0 a1 a2 a3 a4 a5 a6 a7 a8 a9) (ref39_Same.f (k + 1) a0 a1 a2 a3 a4 a5 a6 a7 a8 a9) := by
 intro a0 a1 a2 a3 a4 a5 a6 a7 a8 a9 k
 unfold ref39_Same.f
 repeat' first
   | (with_reducible exact ref23_SameInts.mono _ _ _)
   | (with_reducible exact ref39_sameBools.mono _ _ _)
   | (with_reducible exact LeO.refl _)
   | (with_reducible exact LeO.none _)
   | (with_reducible refine LeO.ite ?_ ?_)
   | (with_reducible refine LeO.bind ?_ (fun _ => ?_))
   | exact ref23_SameInts.mono _ _ _
   | exact ref39_sameBools.mono _ _ _
   | exact LeO.none _
   | refine LeO.ite ?_ ?_
   | refine LeO.bind ?_ (fun _ => ?_)
set_option maxHeartbeats 8000000 in
set_option maxRecDepth 100000 in
theorem ref39_Same.calls (k : Nat) (a0_0 : Int) (A0_1 : Option Addr) (c0_1 : Nat) (l0_1 : List Int) (A0_2 : Option Addr) (c0_2 : Nat) (l0_2 : List Int) (A0_3 : Option Addr) (c0_3 : Nat) (l0_3 : List Bool) (A0_4 : Option Addr) (c0_4 : Nat) (l0_4 : List Bool) (a1_0 : Int) (A1_1 : Option Addr) (c1_1 : Nat) (l1_1 : List Int) (A1_2 : Option Addr) (c1_2 : Nat) (l1_2 : List Int) (A1_3 : Option Addr) (c1_3 : Nat) (l1_3 : List Bool) (A1_4 : Option Addr) (c1_4 : Nat) (l1_4 : List Bool) (r : Bool) (w : World) (hr0_1 : Kd.C (Kd.int .i64) w A0_1 l0_1.length l0_1) (hc0_1 : l0_1.length ≤ c0_1) (hr0_2 : Kd.C (Kd.int .i64) w A0_2 l0_2.length l0_2) (hc0_2 : l0_2.length ≤ c0_2) (hr0_3 : Kd.C Kd.bool w A0_3 l0_3.length l0_3) (hc0_3 : l0_3.length ≤ c0_3) (hr0_4 : Kd.C Kd.bool w A0_4 l0_4.length l0_4) (hc0_4 : l0_4.length ≤ c0_4) (hr1_1 : Kd.C (Kd.int .i64) w A1_1 l1_1.length l1_1) (hc1_1 : l1_1.length ≤ c1_1) (hr1_2 : Kd.C (Kd.int .i64) w A1_2 l1_2.length l1_2) (hc1_2 : l1_2.length ≤ c1_2) (hr1_3 : Kd.C Kd.bool w A1_3 l1_3.length l1_3) (hc1_3 : l1_3.length ≤ c1_3) (hr1_4 : Kd.C Kd.bool w A1_4 l1_4.length l1_4) (hc1_4 : l1_4.length ≤ c1_4) (h : ref39_Same.f k a0_0 l0_1 l0_2 l0_3 l0_4 a1_0 l1_1 l1_2 l1_3 l1_4 = some r) :
  Calls Try.prog 40 #[.agg #[.int .i64 a0_0, .slice A0_1 l0_1.length c0_1, .slice A0_2 l0_2.length c0_2, .slice A0_3 l0_3.length c0_3, .slice A0_4 l0_4.length c0_4], .agg #[.int .i64 a1_0, .slice A1_1 l1_1.length c1_1, .slice A1_2 l1_2.length c1_2, .slice A1_3 l1_3.length c1_3, .slice A1_4 l1_4.length c1_4]] w fun e w' => e = .returned (.bool r) ∧ Below w.heap.size w w' := by
 have hu34 := Try.underlying34
 have HR0_1 := Aside0.mk hr0_1
 have HC0_1 := Aside0.mk hc0_1
 clear hr0_1 hc0_1
 have HR0_2 := Aside0.mk hr0_2
 have HC0_2 := Aside0.mk hc0_2
 clear hr0_2 hc0_2
 have HR0_3 := Aside0.mk hr0_3
 have HC0_3 := Aside0.mk hc0_3
 clear hr0_3 hc0_3
 have HR0_4 := Aside0.mk hr0_4
 have HC0_4 := Aside0.mk hc0_4
 clear hr0_4 hc0_4
 have HR1_1 := Aside0.mk hr1_1
 have HC1_1 := Aside0.mk hc1_1
 clear hr1_1 hc1_1
 have HR1_2 := Aside0.mk hr1_2
 have HC1_2 := Aside0.mk hc1_2
 clear hr1_2 hc1_2
 have HR1_3 := Aside0.mk hr1_3
 have HC1_3 := Aside0.mk hc1_3
 clear hr1_3 hc1_3
 have HR1_4 := Aside0.mk hr1_4
 have HC1_4 := Aside0.mk hc1_4
 clear hr1_4 hc1_4
 have HB := Aside0.mk (Below.refl w.heap.size w)
 have H : (if a0_0 = a1_0 then ((ref23_SameInts.f k l0_1 l1_1).bind fun t748 => (if t748 = true then ((ref23_SameInts.f k l0_2 l1_2).bind fun t749 => (if t749 = true then ((ref39_sameBools.f k l0_3 l1_3).bind fun t750 => (if t750 = true then ((ref39_sameBools.f k l0_4 l1_4).bind fun t751 => (some t751)) else (some false))) else (some false))) else (some false))) else (some false)) = some r := h
 clear h
 by_cases c3 : a0_0 = a1_0
 ·rw [if_pos c3] at H
  have c3b0 : (a0_0 == a1_0) = true := beq_iff_eq.mpr c3
  have c3b1 : (a0_0 != a1_0) = false := bne_eq_false_iff_eq.mpr c3
  clear c3
  replace H := Option.bind_eq_some_iff.mp H
  obtain ⟨t748, A40, H⟩ := H
  replace H : (if t748 = true then ((ref23_SameInts.f k l0_2 l1_2).bind fun t749 => (if t749 = true then ((ref39_sameBools.f k l0_3 l1_3).bind fun t750 => (if t750 = true then ((ref39_sameBools.f k l0_4 l1_4).bind fun t751 => (some t751)) else (some false))) else (some false))) else (some false)) = some r := H
  have A4 := Aside0.mk A40
  clear A40
  by_cases c5 : t748 = true
  ·subst c5
   have H1 : ((ref23_SameInts.f k l0_2 l1_2).bind fun t749 => (if t749 = true then ((ref39_sameBools.f k l0_3 l1_3).bind fun t750 => (if t750 = true then ((ref39_sameBools.f k l0_4 l1_4).bind fun t751 => (some t751)) else (some false))) else (some false))) = some r := by rw [if_pos rfl] at H; exact H
   clear H
   have H := H1
   clear H1
   replace H := Option.bind_eq_some_iff.mp H
   obtain ⟨t749, A60, H⟩ := H
   replace H : (if t749 = true then ((ref39_sameBools.f k l0_3 l1_3).bind fun t750 => (if t750 = true then ((ref39_sameBools.f k l0_4 l1_4).bind fun t751 => (some t751)) else (some false))) else (some false)) = some r := H
   have A6 := Aside0.mk A60
   clear A60
   by_cases c7 : t749 = true
   ·subst c7
    have H1 : ((ref39_sameBools.f k l0_3 l1_3).bind fun t750 => (if t750 = true then ((ref39_sameBools.f k l0_4 l1_4).bind fun t751 => (some t751)) else (some false))) = some r := by rw [if_pos rfl] at H; exact H
    clear H
    have H := H1
    clear H1
    replace H := Option.bind_eq_some_iff.mp H
    obtain ⟨t750, A80, H⟩ := H
    replace H : (if t750 = true then ((ref39_sameBools.f k l0_4 l1_4).bind fun t751 => (some t751)) else (some false)) = some r := H
    have A8 := Aside0.mk A80
    clear A80
    by_cases c9 : t750 = true
    ·subst c9
     have H1 : ((ref39_sameBools.f k l0_4 l1_4).bind fun t751 => (some t751)) = some r := by rw [if_pos rfl] at H; exact H
     clear H
     have H := H1
     clear H1
     replace H := Option.bind_eq_some_iff.mp H
     obtain ⟨t751, A100, H⟩ := H
     replace H : (some t751) = some r := H
     have A10 := Aside0.mk A100
     clear A100
     obtain rfl := Option.some.inj H
     go_enter Try.func40, Try.ntmps40
     go_wp2_with (first | ((with_reducible refine gate_dst (N := 2) rfl ?_); refine box_event ?hg (N := 2) ?hd (cs := #[.int .i64 a0_0, .slice A0_1 l0_1.length c0_1, .slice A0_2 l0_2.length c0_2, .slice A0_3 l0_3.length c0_3, .slice A0_4 l0_4.length c0_4]) (t := 34) ?hr ?_; (case hd => rfl); (case hg => rfl); (case hr => first | (go_simp; done) | (go_simp; rfl)); intro gb746 hg w11 hbox hb; have n0_ := Aside0.mk (below_step (by repeat (first | (with_reducible first | exact HB.out | apply below_alloc | apply pw_below_drewN | apply below_drew1) | exact HB.out)) hb); have n1_ := Aside0.mk (hbox); have n2_ := Aside0.mk ((by rw [hg]; exact (below_size (by repeat (first | (with_reducible first | exact HB.out | apply below_alloc | apply pw_below_drewN | apply below_drew1) | exact HB.out))) : w.heap.size ≤ gb746)); have n3_ := Aside0.mk ((by rw [hg]; exact (below_size (by repeat (first | (with_reducible first | exact HB.out | apply below_alloc | apply pw_below_drewN | apply below_drew1) | exact HB.out))) : w.heap.size ≤ gb746)); clear HB; have HB := n0_; have BK746 := n1_; have GW746 := n2_; have GE746 := n3_; clear n0_ n1_ n2_ n3_; clear hb hbox hg) | ((with_reducible refine gate_dst (N := 3) rfl ?_); refine box_event ?hg (N := 3) ?hd (cs := #[.int .i64 a1_0, .slice A1_1 l1_1.length c1_1, .slice A1_2 l1_2.length c1_2, .slice A1_3 l1_3.length c1_3, .slice A1_4 l1_4.length c1_4]) (t := 34) ?hr ?_; (case hd => rfl); (case hg => rfl); (case hr => first | (go_simp; done) | (go_simp; rfl)); intro gb747 hg w12 hbox hb; have n0_ := Aside0.mk (blk_below (g := gb746) (o := .cells #[.int .i64 a0_0, .slice A0_1 l0_1.length c0_1, .slice A0_2 l0_2.length c0_2, .slice A0_3 l0_3.length c0_3, .slice A0_4 l0_4.length c0_4] 34 (0, 0)) (by (with_reducible repeat (first | refine blk_drewN ?_ _ | refine blk_drew ?_ | refine blk_alloc ?_ _)); exact BK746.out) hb); have n1_ := Aside0.mk (below_step (by repeat (first | (with_reducible first | exact HB.out | apply below_alloc | apply pw_below_drewN | apply below_drew1 | refine below_set ?_ GE746.out) | exact HB.out)) hb); have n2_ := Aside0.mk (hbox); have n3_ := Aside0.mk ((by rw [hg]; exact (below_size (by repeat (first | (with_reducible first | exact HB.out | apply below_alloc | apply pw_below_drewN | apply below_drew1 | refine below_set ?_ GE746.out) | exact HB.out))) : w.heap.size ≤ gb747)); have n4_ := Aside0.mk ((by rw [hg]; exact (below_size (by repeat (first | (with_reducible first | exact HB.out | apply below_alloc | apply pw_below_drewN | apply below_drew1 | refine below_set ?_ GE746.out) | exact HB.out))) : w.heap.size ≤ gb747)); have n5_ := Aside0.mk ((by rw [hg]; exact Nat.ne_of_lt (blk_lt (g := gb746) (o := .cells #[.int .i64 a0_0, .slice A0_1 l0_1.length c0_1, .slice A0_2 l0_2.length c0_2, .slice A0_3 l0_3.length c0_3, .slice A0_4 l0_4.length c0_4] 34 (0, 0)) (by (with_reducible repeat (first | refine blk_drewN ?_ _ | refine blk_drew ?_ | refine blk_alloc ?_ _)); exact BK746.out)) : gb746 ≠ gb747)); have n6_ := Aside0.mk ((by rw [hg]; exact Nat.ne_of_gt (blk_lt (g := gb746) (o := .cells #[.int .i64 a0_0, .slice A0_1 l0_1.length c0_1, .slice A0_2 l0_2.length c0_2, .slice A0_3 l0_3.length c0_3, .slice A0_4 l0_4.length c0_4] 34 (0, 0)) (by (with_reducible repeat (first | refine blk_drewN ?_ _ | refine blk_drew ?_ | refine blk_alloc ?_ _)); exact BK746.out)) : gb747 ≠ gb746)); clear BK746; clear HB; have BK746 := n0_; have HB := n1_; have BK747 := n2_; have GW747 := n3_; have GE747 := n4_; have NB746_747 := n5_; have NB747_746 := n6_; clear n0_ n1_ n2_ n3_ n4_ n5_ n6_; clear hb hbox hg; have hnb13 := NB746_747.out; have hnc13 := NB747_746.out; have hcz14_0 : w12.cell? ⟨gb746, 0, none⟩ = some (.int .i64 a0_0) := (blk_cell BK746.out 0).trans rfl; have hcz14_1 : w12.cell? ⟨gb746, 1, none⟩ = some (.slice A0_1 l0_1.length c0_1) := (blk_cell BK746.out 1).trans rfl; have hcz14_2 : w12.cell? ⟨gb746, 2, none⟩ = some (.slice A0_2 l0_2.length c0_2) := (blk_cell BK746.out 2).trans rfl; have hcz14_3 : w12.cell? ⟨gb746, 3, none⟩ = some (.slice A0_3 l0_3.length c0_3) := (blk_cell BK746.out 3).trans rfl; have hcz14_4 : w12.cell? ⟨gb746, 4, none⟩ = some (.slice A0_4 l0_4.length c0_4) := (blk_cell BK746.out 4).trans rfl; have hfz14_0 := blk_frozen BK746.out 0; have hfz14_1 := blk_frozen BK746.out 1; have hfz14_2 := blk_frozen BK746.out 2; have hfz14_3 := blk_frozen BK746.out 3; have hfz14_4 := blk_frozen BK746.out 4; have hcz15_0 : w12.cell? ⟨gb747, 0, none⟩ = some (.int .i64 a1_0) := (blk_cell BK747.out 0).trans rfl; have hcz15_1 : w12.cell? ⟨gb747, 1, none⟩ = some (.slice A1_1 l1_1.length c1_1) := (blk_cell BK747.out 1).trans rfl; have hcz15_2 : w12.cell? ⟨gb747, 2, none⟩ = some (.slice A1_2 l1_2.length c1_2) := (blk_cell BK747.out 2).trans rfl; have hcz15_3 : w12.cell? ⟨gb747, 3, none⟩ = some (.slice A1_3 l1_3.length c1_3) := (blk_cell BK747.out 3).trans rfl; have hcz15_4 : w12.cell? ⟨gb747, 4, none⟩ = some (.slice A1_4 l1_4.length c1_4) := (blk_cell BK747.out 4).trans rfl; have hfz15_0 := blk_frozen BK747.out 0; have hfz15_1 := blk_frozen BK747.out 1; have hfz15_2 := blk_frozen BK747.out 2; have hfz15_3 := blk_frozen BK747.out 3; have hfz15_4 := blk_frozen BK747.out 4) | (go_at_call 42; (with_reducible refine (ref23_SameInts.calls k _ _ l0_1 _ _ l1_1 true _ ?side1 ?side2 ?side3 ?side4 A4.out).mono ?_); (case side1 => repeat (first | exact (Kd.C_below HR0_1.out HB.out) | (with_reducible refine Kd.C_alloc ?_ _) | (with_reducible refine Kd.C_drewN ?_ _) | (with_reducible refine Kd.C_drew ?_))); (case side2 => exact HC0_1.out); (case side3 => repeat (first | exact (Kd.C_below HR1_1.out HB.out) | (with_reducible refine Kd.C_alloc ?_ _) | (with_reducible refine Kd.C_drewN ?_ _) | (with_reducible refine Kd.C_drew ?_))); (case side4 => exact HC1_1.out); rintro e w' ⟨rfl, ⟨nd, rfl⟩⟩) | (go_at_call 42; (with_reducible refine (ref23_SameInts.calls k _ _ l0_2 _ _ l1_2 true _ ?side1 ?side2 ?side3 ?side4 A6.out).mono ?_); (case side1 => repeat (first | exact (Kd.C_below HR0_2.out (by repeat (first | (with_reducible first | exact HB.out | apply below_alloc | apply pw_below_drewN | apply below_drew1 | refine below_set ?_ GE746.out | refine below_set ?_ GE747.out) | exact HB.out))) | (with_reducible refine Kd.C_alloc ?_ _) | (with_reducible refine Kd.C_drewN ?_ _) | (with_reducible refine Kd.C_drew ?_))); (case side2 => exact HC0_2.out); (case side3 => repeat (first | exact (Kd.C_below HR1_2.out (by repeat (first | (with_reducible first | exact HB.out | apply below_alloc | apply pw_below_drewN | apply below_drew1 | refine below_set ?_ GE746.out | refine below_set ?_ GE747.out) | exact HB.out))) | (with_reducible refine Kd.C_alloc ?_ _) | (with_reducible refine Kd.C_drewN ?_ _) | (with_reducible refine Kd.C_drew ?_))); (case side4 => exact HC1_2.out); rintro e w' ⟨rfl, ⟨nd, rfl⟩⟩) | (go_at_call 56; (with_reducible refine (ref39_sameBools.calls k _ _ l0_3 _ _ l1_3 true _ ?side1 ?side2 ?side3 ?side4 A8.out).mono ?_); (case side1 => repeat (first | exact (Kd.C_below HR0_3.out (by repeat (first | (with_reducible first | exact HB.out | apply below_alloc | apply pw_below_drewN | apply below_drew1 | refine below_set ?_ GE746.out | refine below_set ?_ GE747.out) | exact HB.out))) | (with_reducible refine Kd.C_alloc ?_ _) | (with_reducible refine Kd.C_drewN ?_ _) | (with_reducible refine Kd.C_drew ?_))); (case side2 => exact HC0_3.out); (case side3 => repeat (first | exact (Kd.C_below HR1_3.out (by repeat (first | (with_reducible first | exact HB.out | apply below_alloc | apply pw_below_drewN | apply below_drew1 | refine below_set ?_ GE746.out | refine below_set ?_ GE747.out) | exact HB.out))) | (with_reducible refine Kd.C_alloc ?_ _) | (with_reducible refine Kd.C_drewN ?_ _) | (with_reducible refine Kd.C_drew ?_))); (case side4 => exact HC1_3.out); rintro e w' ⟨rfl, ⟨nd, rfl⟩⟩) | (go_at_call 56; (with_reducible refine (ref39_sameBools.calls k _ _ l0_4 _ _ l1_4 t751 _ ?side1 ?side2 ?side3 ?side4 A10.out).mono ?_); (case side1 => repeat (first | exact (Kd.C_below HR0_4.out (by repeat (first | (with_reducible first | exact HB.out | apply below_alloc | apply pw_below_drewN | apply below_drew1 | refine below_set ?_ GE746.out | refine below_set ?_ GE747.out) | exact HB.out))) | (with_reducible refine Kd.C_alloc ?_ _) | (with_reducible refine Kd.C_drewN ?_ _) | (with_reducible refine Kd.C_drew ?_))); (case side2 => exact HC0_4.out); (case side3 => repeat (first | exact (Kd.C_below HR1_4.out (by repeat (first | (with_reducible first | exact HB.out | apply below_alloc | apply pw_below_drewN | apply below_drew1 | refine below_set ?_ GE746.out | refine below_set ?_ GE747.out) | exact HB.out))) | (with_reducible refine Kd.C_alloc ?_ _) | (with_reducible refine Kd.C_drewN ?_ _) | (with_reducible refine Kd.C_drew ?_))); (case side4 => exact HC1_4.out); rintro e w' ⟨rfl, ⟨nd, rfl⟩⟩))
     go_ret
     exact ⟨by first | rfl | (simp [errW_none, errW_some] <;> rfl) | (simp [*, errW_none, errW_some] <;> rfl), by repeat (first | (with_reducible first | exact HB.out | apply below_alloc | apply pw_below_drewN | apply below_drew1 | refine below_set ?_ GE746.out | refine below_set ?_ GE747.out) | exact HB.out)⟩
    ·replace c9 := Bool.eq_false_iff.mpr c9
     subst c9
     have H1 : (some false) = some r := by rw [if_neg (show ¬ (false = true) by decide)] at H; exact H
     clear H
     have H := H1
     clear H1
     obtain rfl := Option.some.inj H
     go_enter Try.func40, Try.ntmps40
     go_wp2_with (first | ((with_reducible refine gate_dst (N := 2) rfl ?_); refine box_event ?hg (N := 2) ?hd (cs := #[.int .i64 a0_0, .slice A0_1 l0_1.length c0_1, .slice A0_2 l0_2.length c0_2, .slice A0_3 l0_3.length c0_3, .slice A0_4 l0_4.length c0_4]) (t := 34) ?hr ?_; (case hd => rfl); (case hg => rfl); (case hr => first | (go_simp; done) | (go_simp; rfl)); intro gb746 hg w16 hbox hb; have n0_ := Aside0.mk (below_step (by repeat (first | (with_reducible first | exact HB.out | apply below_alloc | apply pw_below_drewN | apply below_drew1) | exact HB.out)) hb); have n1_ := Aside0.mk (hbox); have n2_ := Aside0.mk ((by rw [hg]; exact (below_size (by repeat (first | (with_reducible first | exact HB.out | apply below_alloc | apply pw_below_drewN | apply below_drew1) | exact HB.out))) : w.heap.size ≤ gb746)); have n3_ := Aside0.mk ((by rw [hg]; exact (below_size (by repeat (first | (with_reducible first | exact HB.out | apply below_alloc | apply pw_below_drewN | apply below_drew1) | exact HB.out))) : w.heap.size ≤ gb746)); clear HB; have HB := n0_; have BK746 := n1_; have GW746 := n2_; have GE746 := n3_; clear n0_ n1_ n2_ n3_; clear hb hbox hg) | ((with_reducible refine gate_dst (N := 3) rfl ?_); refine box_event ?hg (N := 3) ?hd (cs := #[.int .i64 a1_0, .slice A1_1 l1_1.length c1_1, .slice A1_2 l1_2.length c1_2, .slice A1_3 l1_3.length c1_3, .slice A1_4 l1_4.length c1_4]) (t := 34) ?hr ?_; (case hd => rfl); (case hg => rfl); (case hr => first | (go_simp; done) | (go_simp; rfl)); intro gb747 hg w17 hbox hb; have n0_ := Aside0.mk (blk_below (g := gb746) (o := .cells #[.int .i64 a0_0, .slice A0_1 l0_1.length c0_1, .slice A0_2 l0_2.length c0_2, .slice A0_3 l0_3.length c0_3, .slice A0_4 l0_4.length c0_4] 34 (0, 0)) (by (with_reducible repeat (first | refine blk_drewN ?_ _ | refine blk_drew ?_ | refine blk_alloc ?_ _)); exact BK746.out) hb); have n1_ := Aside0.mk (below_step (by repeat (first | (with_reducible first | exact HB.out | apply below_alloc | apply pw_below_drewN | apply below_drew1 | refine below_set ?_ GE746.out) | exact HB.out)) hb); have n2_ := Aside0.mk (hbox); have n3_ := Aside0.mk ((by rw [hg]; exact (below_size (by repeat (first | (with_reducible first | exact HB.out | apply below_alloc | apply pw_below_drewN | apply below_drew1 | refine below_set ?_ GE746.out) | exact HB.out))) : w.heap.size ≤ gb747)); have n4_ := Aside0.mk ((by rw [hg]; exact (below_size (by repeat (first | (with_reducible first | exact HB.out | apply below_alloc | apply pw_below_drewN | apply below_drew1 | refine below_set ?_ GE746.out) | exact HB.out))) : w.heap.size ≤ gb747)); have n5_ := Aside0.mk ((by rw [hg]; exact Nat.ne_of_lt (blk_lt (g := gb746) (o := .cells #[.int .i64 a0_0, .slice A0_1 l0_1.length c0_1, .slice A0_2 l0_2.length c0_2, .slice A0_3 l0_3.length c0_3, .slice A0_4 l0_4.length c0_4] 34 (0, 0)) (by (with_reducible repeat (first | refine blk_drewN ?_ _ | refine blk_drew ?_ | refine blk_alloc ?_ _)); exact BK746.out)) : gb746 ≠ gb747)); have n6_ := Aside0.mk ((by rw [hg]; exact Nat.ne_of_gt (blk_lt (g := gb746) (o := .cells #[.int .i64 a0_0, .slice A0_1 l0_1.length c0_1, .slice A0_2 l0_2.length c0_2, .slice A0_3 l0_3.length c0_3, .slice A0_4 l0_4.length c0_4] 34 (0, 0)) (by (with_reducible repeat (first | refine blk_drewN ?_ _ | refine blk_drew ?_ | refine blk_alloc ?_ _)); exact BK746.out)) : gb747 ≠ gb746)); clear BK746; clear HB; have BK746 := n0_; have HB := n1_; have BK747 := n2_; have GW747 := n3_; have GE747 := n4_; have NB746_747 := n5_; have NB747_746 := n6_; clear n0_ n1_ n2_ n3_ n4_ n5_ n6_; clear hb hbox hg; have hnb18 := NB746_747.out; have hnc18 := NB747_746.out; have hcz19_0 : w17.cell? ⟨gb746, 0, none⟩ = some (.int .i64 a0_0) := (blk_cell BK746.out 0).trans rfl; have hcz19_1 : w17.cell? ⟨gb746, 1, none⟩ = some (.slice A0_1 l0_1.length c0_1) := (blk_cell BK746.out 1).trans rfl; have hcz19_2 : w17.cell? ⟨gb746, 2, none⟩ = some (.slice A0_2 l0_2.length c0_2) := (blk_cell BK746.out 2).trans rfl; have hcz19_3 : w17.cell? ⟨gb746, 3, none⟩ = some (.slice A0_3 l0_3.length c0_3) := (blk_cell BK746.out 3).trans rfl; have hcz19_4 : w17.cell? ⟨gb746, 4, none⟩ = some (.slice A0_4 l0_4.length c0_4) := (blk_cell BK746.out 4).trans rfl; have hfz19_0 := blk_frozen BK746.out 0; have hfz19_1 := blk_frozen BK746.out 1; have hfz19_2 := blk_frozen BK746.out 2; have hfz19_3 := blk_frozen BK746.out 3; have hfz19_4 := blk_frozen BK746.out 4; have hcz20_0 : w17.cell? ⟨gb747, 0, none⟩ = some (.int .i64 a1_0) := (blk_cell BK747.out 0).trans rfl; have hcz20_1 : w17.cell? ⟨gb747, 1, none⟩ = some (.slice A1_1 l1_1.length c1_1) := (blk_cell BK747.out 1).trans rfl; have hcz20_2 : w17.cell? ⟨gb747, 2, none⟩ = some (.slice A1_2 l1_2.length c1_2) := (blk_cell BK747.out 2).trans rfl; have hcz20_3 : w17.cell? ⟨gb747, 3, none⟩ = some (.slice A1_3 l1_3.length c1_3) := (blk_cell BK747.out 3).trans rfl; have hcz20_4 : w17.cell? ⟨gb747, 4, none⟩ = some (.slice A1_4 l1_4.length c1_4) := (blk_cell BK747.out 4).trans rfl; have hfz20_0 := blk_frozen BK747.out 0; have hfz20_1 := blk_frozen BK747.out 1; have hfz20_2 := blk_frozen BK747.out 2; have hfz20_3 := blk_frozen BK747.out 3; have hfz20_4 := blk_frozen BK747.out 4) | (go_at_call 42; (with_reducible refine (ref23_SameInts.calls k _ _ l0_1 _ _ l1_1 true _ ?side1 ?side2 ?side3 ?side4 A4.out).mono ?_); (case side1 => repeat (first | exact (Kd.C_below HR0_1.out HB.out) | (with_reducible refine Kd.C_alloc ?_ _) | (with_reducible refine Kd.C_drewN ?_ _) | (with_reducible refine Kd.C_drew ?_))); (case side2 => exact HC0_1.out); (case side3 => repeat (first | exact (Kd.C_below HR1_1.out HB.out) | (with_reducible refine Kd.C_alloc ?_ _) | (with_reducible refine Kd.C_drewN ?_ _) | (with_reducible refine Kd.C_drew ?_))); (case side4 => exact HC1_1.out); rintro e w' ⟨rfl, ⟨nd, rfl⟩⟩) | (go_at_call 42; (with_reducible refine (ref23_SameInts.calls k _ _ l0_2 _ _ l1_2 true _ ?side1 ?side2 ?side3 ?side4 A6.out).mono ?_); (case side1 => repeat (first | exact (Kd.C_below HR0_2.out (by repeat (first | (with_reducible first | exact HB.out | apply below_alloc | apply pw_below_drewN | apply below_drew1 | refine below_set ?_ GE746.out | refine below_set ?_ GE747.out) | exact HB.out))) | (with_reducible refine Kd.C_alloc ?_ _) | (with_reducible refine Kd.C_drewN ?_ _) | (with_reducible refine Kd.C_drew ?_))); (case side2 => exact HC0_2.out); (case side3 => repeat (first | exact (Kd.C_below HR1_2.out (by repeat (first | (with_reducible first | exact HB.out | apply below_alloc | apply pw_below_drewN | apply below_drew1 | refine below_set ?_ GE746.out | refine below_set ?_ GE747.out) | exact HB.out))) | (with_reducible refine Kd.C_alloc ?_ _) | (with_reducible refine Kd.C_drewN ?_ _) | (with_reducible refine Kd.C_drew ?_))); (case side4 => exact HC1_2.out); rintro e w' ⟨rfl, ⟨nd, rfl⟩⟩) | (go_at_call 56; (with_reducible refine (ref39_sameBools.calls k _ _ l0_3 _ _ l1_3 false _ ?side1 ?side2 ?side3 ?side4 A8.out).mono ?_); (case side1 => repeat (first | exact (Kd.C_below HR0_3.out (by repeat (first | (with_reducible first | exact HB.out | apply below_alloc | apply pw_below_drewN | apply below_drew1 | refine below_set ?_ GE746.out | refine below_set ?_ GE747.out) | exact HB.out))) | (with_reducible refine Kd.C_alloc ?_ _) | (with_reducible refine Kd.C_drewN ?_ _) | (with_reducible refine Kd.C_drew ?_))); (case side2 => exact HC0_3.out); (case side3 => repeat (first | exact (Kd.C_below HR1_3.out (by repeat (first | (with_reducible first | exact HB.out | apply below_alloc | apply pw_below_drewN | apply below_drew1 | refine below_set ?_ GE746.out | refine below_set ?_ GE747.out) | exact HB.out))) | (with_reducible refine Kd.C_alloc ?_ _) | (with_reducible refine Kd.C_drewN ?_ _) | (with_reducible refine Kd.C_drew ?_))); (case side4 => exact HC1_3.out); rintro e w' ⟨rfl, ⟨nd, rfl⟩⟩))
     go_ret
     exact ⟨by first | rfl | (simp [errW_none, errW_some] <;> rfl) | (simp [*, errW_none, errW_some] <;> rfl), by repeat (first | (with_reducible first | exact HB.out | apply below_alloc | apply pw_below_drewN | apply below_drew1 | refine below_set ?_ GE746.out | refine below_set ?_ GE747.out) | exact HB.out)⟩
   ·replace c7 := Bool.eq_false_iff.mpr c7
    subst c7
    have H1 : (some false) = some r := by rw [if_neg (show ¬ (false = true) by decide)] at H; exact H
    clear H
    have H := H1
    clear H1
    obtain rfl := Option.some.inj H
    go_enter Try.func40, Try.ntmps40
    go_wp2_with (first | ((with_reducible refine gate_dst (N := 2) rfl ?_); refine box_event ?hg (N := 2) ?hd (cs := #[.int .i64 a0_0, .slice A0_1 l0_1.length c0_1, .slice A0_2 l0_2.length c0_2, .slice A0_3 l0_3.length c0_3, .slice A0_4 l0_4.length c0_4]) (t := 34) ?hr ?_; (case hd => rfl); (case hg => rfl); (case hr => first | (go_simp; done) | (go_simp; rfl)); intro gb746 hg w21 hbox hb; have n0_ := Aside0.mk (below_step (by repeat (first | (with_reducible first | exact HB.out | apply below_alloc | apply pw_below_drewN | apply below_drew1) | exact HB.out)) hb); have n1_ := Aside0.mk (hbox); have n2_ := Aside0.mk ((by rw [hg]; exact (below_size (by repeat (first | (with_reducible first | exact HB.out | apply below_alloc | apply pw_below_drewN | apply below_drew1) | exact HB.out))) : w.heap.size ≤ gb746)); have n3_ := Aside0.mk ((by rw [hg]; exact (below_size (by repeat (first | (with_reducible first | exact HB.out | apply below_alloc | apply pw_below_drewN | apply below_drew1) | exact HB.out))) : w.heap.size ≤ gb746)); clear HB; have HB := n0_; have BK746 := n1_; have GW746 := n2_; have GE746 := n3_; clear n0_ n1_ n2_ n3_; clear hb hbox hg) | ((with_reducible refine gate_dst (N := 3) rfl ?_); refine box_event ?hg (N := 3) ?hd (cs := #[.int .i64 a1_0, .slice A1_1 l1_1.length c1_1, .slice A1_2 l1_2.length c1_2, .slice A1_3 l1_3.length c1_3, .slice A1_4 l1_4.length c1_4]) (t := 34) ?hr ?_; (case hd => rfl); (case hg => rfl); (case hr => first | (go_simp; done) | (go_simp; rfl)); intro gb747 hg w22 hbox hb; have n0_ := Aside0.mk (blk_below (g := gb746) (o := .cells #[.int .i64 a0_0, .slice A0_1 l0_1.length c0_1, .slice A0_2 l0_2.length c0_2, .slice A0_3 l0_3.length c0_3, .slice A0_4 l0_4.length c0_4] 34 (0, 0)) (by (with_reducible repeat (first | refine blk_drewN ?_ _ | refine blk_drew ?_ | refine blk_alloc ?_ _)); exact BK746.out) hb); have n1_ := Aside0.mk (below_step (by repeat (first | (with_reducible first | exact HB.out | apply below_alloc | apply pw_below_drewN | apply below_drew1 | refine below_set ?_ GE746.out) | exact HB.out)) hb); have n2_ := Aside0.mk (hbox); have n3_ := Aside0.mk ((by rw [hg]; exact (below_size (by repeat (first | (with_reducible first | exact HB.out | apply below_alloc | apply pw_below_drewN | apply below_drew1 | refine below_set ?_ GE746.out) | exact HB.out))) : w.heap.size ≤ gb747)); have n4_ := Aside0.mk ((by rw [hg]; exact (below_size (by repeat (first | (with_reducible first | exact HB.out | apply below_alloc | apply pw_below_drewN | apply below_drew1 | refine below_set ?_ GE746.out) | exact HB.out))) : w.heap.size ≤ gb747)); have n5_ := Aside0.mk ((by rw [hg]; exact Nat.ne_of_lt (blk_lt (g := gb746) (o := .cells #[.int .i64 a0_0, .slice A0_1 l0_1.length c0_1, .slice A0_2 l0_2.length c0_2, .slice A0_3 l0_3.length c0_3, .slice A0_4 l0_4.length c0_4] 34 (0, 0)) (by (with_reducible repeat (first | refine blk_drewN ?_ _ | refine blk_drew ?_ | refine blk_alloc ?_ _)); exact BK746.out)) : gb746 ≠ gb747)); have n6_ := Aside0.mk ((by rw [hg]; exact Nat.ne_of_gt (blk_lt (g := gb746) (o := .cells #[.int .i64 a0_0, .slice A0_1 l0_1.length c0_1, .slice A0_2 l0_2.length c0_2, .slice A0_3 l0_3.length c0_3, .slice A0_4 l0_4.length c0_4] 34 (0, 0)) (by (with_reducible repeat (first | refine blk_drewN ?_ _ | refine blk_drew ?_ | refine blk_alloc ?_ _)); exact BK746.out)) : gb747 ≠ gb746)); clear BK746; clear HB; have BK746 := n0_; have HB := n1_; have BK747 := n2_; have GW747 := n3_; have GE747 := n4_; have NB746_747 := n5_; have NB747_746 := n6_; clear n0_ n1_ n2_ n3_ n4_ n5_ n6_; clear hb hbox hg; have hnb23 := NB746_747.out; have hnc23 := NB747_746.out; have hcz24_0 : w22.cell? ⟨gb746, 0, none⟩ = some (.int .i64 a0_0) := (blk_cell BK746.out 0).trans rfl; have hcz24_1 : w22.cell? ⟨gb746, 1, none⟩ = some (.slice A0_1 l0_1.length c0_1) := (blk_cell BK746.out 1).trans rfl; have hcz24_2 : w22.cell? ⟨gb746, 2, none⟩ = some (.slice A0_2 l0_2.length c0_2) := (blk_cell BK746.out 2).trans rfl; have hcz24_3 : w22.cell? ⟨gb746, 3, none⟩ = some (.slice A0_3 l0_3.length c0_3) := (blk_cell BK746.out 3).trans rfl; have hcz24_4 : w22.cell? ⟨gb746, 4, none⟩ = some (.slice A0_4 l0_4.length c0_4) := (blk_cell BK746.out 4).trans rfl; have hfz24_0 := blk_frozen BK746.out 0; have hfz24_1 := blk_frozen BK746.out 1; have hfz24_2 := blk_frozen BK746.out 2; have hfz24_3 := blk_frozen BK746.out 3; have hfz24_4 := blk_frozen BK746.out 4; have hcz25_0 : w22.cell? ⟨gb747, 0, none⟩ = some (.int .i64 a1_0) := (blk_cell BK747.out 0).trans rfl; have hcz25_1 : w22.cell? ⟨gb747, 1, none⟩ = some (.slice A1_1 l1_1.length c1_1) := (blk_cell BK747.out 1).trans rfl; have hcz25_2 : w22.cell? ⟨gb747, 2, none⟩ = some (.slice A1_2 l1_2.length c1_2) := (blk_cell BK747.out 2).trans rfl; have hcz25_3 : w22.cell? ⟨gb747, 3, none⟩ = some (.slice A1_3 l1_3.length c1_3) := (blk_cell BK747.out 3).trans rfl; have hcz25_4 : w22.cell? ⟨gb747, 4, none⟩ = some (.slice A1_4 l1_4.length c1_4) := (blk_cell BK747.out 4).trans rfl; have hfz25_0 := blk_frozen BK747.out 0; have hfz25_1 := blk_frozen BK747.out 1; have hfz25_2 := blk_frozen BK747.out 2; have hfz25_3 := blk_frozen BK747.out 3; have hfz25_4 := blk_frozen BK747.out 4) | (go_at_call 42; (with_reducible refine (ref23_SameInts.calls k _ _ l0_1 _ _ l1_1 true _ ?side1 ?side2 ?side3 ?side4 A4.out).mono ?_); (case side1 => repeat (first | exact (Kd.C_below HR0_1.out HB.out) | (with_reducible refine Kd.C_alloc ?_ _) | (with_reducible refine Kd.C_drewN ?_ _) | (with_reducible refine Kd.C_drew ?_))); (case side2 => exact HC0_1.out); (case side3 => repeat (first | exact (Kd.C_below HR1_1.out HB.out) | (with_reducible refine Kd.C_alloc ?_ _) | (with_reducible refine Kd.C_drewN ?_ _) | (with_reducible refine Kd.C_drew ?_))); (case side4 => exact HC1_1.out); rintro e w' ⟨rfl, ⟨nd, rfl⟩⟩) | (go_at_call 42; (with_reducible refine (ref23_SameInts.calls k _ _ l0_2 _ _ l1_2 false _ ?side1 ?side2 ?side3 ?side4 A6.out).mono ?_); (case side1 => repeat (first | exact (Kd.C_below HR0_2.out (by repeat (first | (with_reducible first | exact HB.out | apply below_alloc | apply pw_below_drewN | apply below_drew1 | refine below_set ?_ GE746.out | refine below_set ?_ GE747.out) | exact HB.out))) | (with_reducible refine Kd.C_alloc ?_ _) | (with_reducible refine Kd.C_drewN ?_ _) | (with_reducible refine Kd.C_drew ?_))); (case side2 => exact HC0_2.out); (case side3 => repeat (first | exact (Kd.C_below HR1_2.out (by repeat (first | (with_reducible first | exact HB.out | apply below_alloc | apply pw_below_drewN | apply below_drew1 | refine below_set ?_ GE746.out | refine below_set ?_ GE747.out) | exact HB.out))) | (with_reducible refine Kd.C_alloc ?_ _) | (with_reducible refine Kd.C_drewN ?_ _) | (with_reducible refine Kd.C_drew ?_))); (case side4 => exact HC1_2.out); rintro e w' ⟨rfl, ⟨nd, rfl⟩⟩))
    go_ret
    exact ⟨by first | rfl | (simp [errW_none, errW_some] <;> rfl) | (simp [*, errW_none, errW_some] <;> rfl), by repeat (first | (with_reducible first | exact HB.out | apply below_alloc | apply pw_below_drewN | apply below_drew1 | refine below_set ?_ GE746.out | refine below_set ?_ GE747.out) | exact HB.out)⟩
  ·replace c5 := Bool.eq_false_iff.mpr c5
   subst c5
   have H1 : (some false) = some r := by rw [if_neg (show ¬ (false = true) by decide)] at H; exact H
   clear H
   have H := H1
   clear H1
   obtain rfl := Option.some.inj H
   go_enter Try.func40, Try.ntmps40
   go_wp2_with (first | ((with_reducible refine gate_dst (N := 2) rfl ?_); refine box_event ?hg (N := 2) ?hd (cs := #[.int .i64 a0_0, .slice A0_1 l0_1.length c0_1, .slice A0_2 l0_2.length c0_2, .slice A0_3 l0_3.length c0_3, .slice A0_4 l0_4.length c0_4]) (t := 34) ?hr ?_; (case hd => rfl); (case hg => rfl); (case hr => first | (go_simp; done) | (go_simp; rfl)); intro gb746 hg w26 hbox hb; have n0_ := Aside0.mk (below_step (by repeat (first | (with_reducible first | exact HB.out | apply below_alloc | apply pw_below_drewN | apply below_drew1) | exact HB.out)) hb); have n1_ := Aside0.mk (hbox); have n2_ := Aside0.mk ((by rw [hg]; exact (below_size (by repeat (first | (with_reducible first | exact HB.out | apply below_alloc | apply pw_below_drewN | apply below_drew1) | exact HB.out))) : w.heap.size ≤ gb746)); have n3_ := Aside0.mk ((by rw [hg]; exact (below_size (by repeat (first | (with_reducible first | exact HB.out | apply below_alloc | apply pw_below_drewN | apply below_drew1) | exact HB.out))) : w.heap.size ≤ gb746)); clear HB; have HB := n0_; have BK746 := n1_; have GW746 := n2_; have GE746 := n3_; clear n0_ n1_ n2_ n3_; clear hb hbox hg) | ((with_reducible refine gate_dst (N := 3) rfl ?_); refine box_event ?hg (N := 3) ?hd (cs := #[.int .i64 a1_0, .slice A1_1 l1_1.length c1_1, .slice A1_2 l1_2.length c1_2, .slice A1_3 l1_3.length c1_3, .slice A1_4 l1_4.length c1_4]) (t := 34) ?hr ?_; (case hd => rfl); (case hg => rfl); (case hr => first | (go_simp; done) | (go_simp; rfl)); intro gb747 hg w27 hbox hb; have n0_ := Aside0.mk (blk_below (g := gb746) (o := .cells #[.int .i64 a0_0, .slice A0_1 l0_1.length c0_1, .slice A0_2 l0_2.length c0_2, .slice A0_3 l0_3.length c0_3, .slice A0_4 l0_4.length c0_4] 34 (0, 0)) (by (with_reducible repeat (first | refine blk_drewN ?_ _ | refine blk_drew ?_ | refine blk_alloc ?_ _)); exact BK746.out) hb); have n1_ := Aside0.mk (below_step (by repeat (first | (with_reducible first | exact HB.out | apply below_alloc | apply pw_below_drewN | apply below_drew1 | refine below_set ?_ GE746.out) | exact HB.out)) hb); have n2_ := Aside0.mk (hbox); have n3_ := Aside0.mk ((by rw [hg]; exact (below_size (by repeat (first | (with_reducible first | exact HB.out | apply below_alloc | apply pw_below_drewN | apply below_drew1 | refine below_set ?_ GE746.out) | exact HB.out))) : w.heap.size ≤ gb747)); have n4_ := Aside0.mk ((by rw [hg]; exact (below_size (by repeat (first | (with_reducible first | exact HB.out | apply below_alloc | apply pw_below_drewN | apply below_drew1 | refine below_set ?_ GE746.out) | exact HB.out))) : w.heap.size ≤ gb747)); have n5_ := Aside0.mk ((by rw [hg]; exact Nat.ne_of_lt (blk_lt (g := gb746) (o := .cells #[.int .i64 a0_0, .slice A0_1 l0_1.length c0_1, .slice A0_2 l0_2.length c0_2, .slice A0_3 l0_3.length c0_3, .slice A0_4 l0_4.length c0_4] 34 (0, 0)) (by (with_reducible repeat (first | refine blk_drewN ?_ _ | refine blk_drew ?_ | refine blk_alloc ?_ _)); exact BK746.out)) : gb746 ≠ gb747)); have n6_ := Aside0.mk ((by rw [hg]; exact Nat.ne_of_gt (blk_lt (g := gb746) (o := .cells #[.int .i64 a0_0, .slice A0_1 l0_1.length c0_1, .slice A0_2 l0_2.length c0_2, .slice A0_3 l0_3.length c0_3, .slice A0_4 l0_4.length c0_4] 34 (0, 0)) (by (with_reducible repeat (first | refine blk_drewN ?_ _ | refine blk_drew ?_ | refine blk_alloc ?_ _)); exact BK746.out)) : gb747 ≠ gb746)); clear BK746; clear HB; have BK746 := n0_; have HB := n1_; have BK747 := n2_; have GW747 := n3_; have GE747 := n4_; have NB746_747 := n5_; have NB747_746 := n6_; clear n0_ n1_ n2_ n3_ n4_ n5_ n6_; clear hb hbox hg; have hnb28 := NB746_747.out; have hnc28 := NB747_746.out; have hcz29_0 : w27.cell? ⟨gb746, 0, none⟩ = some (.int .i64 a0_0) := (blk_cell BK746.out 0).trans rfl; have hcz29_1 : w27.cell? ⟨gb746, 1, none⟩ = some (.slice A0_1 l0_1.length c0_1) := (blk_cell BK746.out 1).trans rfl; have hcz29_2 : w27.cell? ⟨gb746, 2, none⟩ = some (.slice A0_2 l0_2.length c0_2) := (blk_cell BK746.out 2).trans rfl; have hcz29_3 : w27.cell? ⟨gb746, 3, none⟩ = some (.slice A0_3 l0_3.length c0_3) := (blk_cell BK746.out 3).trans rfl; have hcz29_4 : w27.cell? ⟨gb746, 4, none⟩ = some (.slice A0_4 l0_4.length c0_4) := (blk_cell BK746.out 4).trans rfl; have hfz29_0 := blk_frozen BK746.out 0; have hfz29_1 := blk_frozen BK746.out 1; have hfz29_2 := blk_frozen BK746.out 2; have hfz29_3 := blk_frozen BK746.out 3; have hfz29_4 := blk_frozen BK746.out 4; have hcz30_0 : w27.cell? ⟨gb747, 0, none⟩ = some (.int .i64 a1_0) := (blk_cell BK747.out 0).trans rfl; have hcz30_1 : w27.cell? ⟨gb747, 1, none⟩ = some (.slice A1_1 l1_1.length c1_1) := (blk_cell BK747.out 1).trans rfl; have hcz30_2 : w27.cell? ⟨gb747, 2, none⟩ = some (.slice A1_2 l1_2.length c1_2) := (blk_cell BK747.out 2).trans rfl; have hcz30_3 : w27.cell? ⟨gb747, 3, none⟩ = some (.slice A1_3 l1_3.length c1_3) := (blk_cell BK747.out 3).trans rfl; have hcz30_4 : w27.cell? ⟨gb747, 4, none⟩ = some (.slice A1_4 l1_4.length c1_4) := (blk_cell BK747.out 4).trans rfl; have hfz30_0 := blk_frozen BK747.out 0; have hfz30_1 := blk_frozen BK747.out 1; have hfz30_2 := blk_frozen BK747.out 2; have hfz30_3 := blk_frozen BK747.out 3; have hfz30_4 := blk_frozen BK747.out 4) | (go_at_call 42; (with_reducible refine (ref23_SameInts.calls k _ _ l0_1 _ _ l1_1 false _ ?side1 ?side2 ?side3 ?side4 A4.out).mono ?_); (case side1 => repeat (first | exact (Kd.C_below HR0_1.out HB.out) | (with_reducible refine Kd.C_alloc ?_ _) | (with_reducible refine Kd.C_drewN ?_ _) | (with_reducible refine Kd.C_drew ?_))); (case side2 => exact HC0_1.out); (case side3 => repeat (first | exact (Kd.C_below HR1_1.out HB.out) | (with_reducible refine Kd.C_alloc ?_ _) | (with_reducible refine Kd.C_drewN ?_ _) | (with_reducible refine Kd.C_drew ?_))); (case side4 => exact HC1_1.out); rintro e w' ⟨rfl, ⟨nd, rfl⟩⟩))
   go_ret
   exact ⟨by first | rfl | (simp [errW_none, errW_some] <;> rfl) | (simp [*, errW_none, errW_some] <;> rfl), by repeat (first | (with_reducible first | exact HB.out | apply below_alloc | apply pw_below_drewN | apply below_drew1 | refine below_set ?_ GE746.out | refine below_set ?_ GE747.out) | exact HB.out)⟩
 ·rw [if_neg c3] at H
  have c3b0 : (a0_0 == a1_0) = false := beq_eq_false_iff_ne.mpr c3
  have c3b1 : (a0_0 != a1_0) = true := bne_iff_ne.mpr c3
  obtain rfl := Option.some.inj H
  go_enter Try.func40, Try.ntmps40
  go_wp2_with (first | ((with_reducible refine gate_dst (N := 2) rfl ?_); refine box_event ?hg (N := 2) ?hd (cs := #[.int .i64 a0_0, .slice A0_1 l0_1.length c0_1, .slice A0_2 l0_2.length c0_2, .slice A0_3 l0_3.length c0_3, .slice A0_4 l0_4.length c0_4]) (t := 34) ?hr ?_; (case hd => rfl); (case hg => rfl); (case hr => first | (go_simp; done) | (go_simp; rfl)); intro gb746 hg w31 hbox hb; have n0_ := Aside0.mk (below_step (by repeat (first | (with_reducible first | exact HB.out | apply below_alloc | apply pw_below_drewN | apply below_drew1) | exact HB.out)) hb); have n1_ := Aside0.mk (hbox); have n2_ := Aside0.mk ((by rw [hg]; exact (below_size (by repeat (first | (with_reducible first | exact HB.out | apply below_alloc | apply pw_below_drewN | apply below_drew1) | exact HB.out))) : w.heap.size ≤ gb746)); have n3_ := Aside0.mk ((by rw [hg]; exact (below_size (by repeat (first | (with_reducible first | exact HB.out | apply below_alloc | apply pw_below_drewN | apply below_drew1) | exact HB.out))) : w.heap.size ≤ gb746)); clear HB; have HB := n0_; have BK746 := n1_; have GW746 := n2_; have GE746 := n3_; clear n0_ n1_ n2_ n3_; clear hb hbox hg) | ((with_reducible refine gate_dst (N := 3) rfl ?_); refine box_event ?hg (N := 3) ?hd (cs := #[.int .i64 a1_0, .slice A1_1 l1_1.length c1_1, .slice A1_2 l1_2.length c1_2, .slice A1_3 l1_3.length c1_3, .slice A1_4 l1_4.length c1_4]) (t := 34) ?hr ?_; (case hd => rfl); (case hg => rfl); (case hr => first | (go_simp; done) | (go_simp; rfl)); intro gb747 hg w32 hbox hb; have n0_ := Aside0.mk (blk_below (g := gb746) (o := .cells #[.int .i64 a0_0, .slice A0_1 l0_1.length c0_1, .slice A0_2 l0_2.length c0_2, .slice A0_3 l0_3.length c0_3, .slice A0_4 l0_4.length c0_4] 34 (0, 0)) (by (with_reducible repeat (first | refine blk_drewN ?_ _ | refine blk_drew ?_ | refine blk_alloc ?_ _)); exact BK746.out) hb); have n1_ := Aside0.mk (below_step (by repeat (first | (with_reducible first | exact HB.out | apply below_alloc | apply pw_below_drewN | apply below_drew1 | refine below_set ?_ GE746.out) | exact HB.out)) hb); have n2_ := Aside0.mk (hbox); have n3_ := Aside0.mk ((by rw [hg]; exact (below_size (by repeat (first | (with_reducible first | exact HB.out | apply below_alloc | apply pw_below_drewN | apply below_drew1 | refine below_set ?_ GE746.out) | exact HB.out))) : w.heap.size ≤ gb747)); have n4_ := Aside0.mk ((by rw [hg]; exact (below_size (by repeat (first | (with_reducible first | exact HB.out | apply below_alloc | apply pw_below_drewN | apply below_drew1 | refine below_set ?_ GE746.out) | exact HB.out))) : w.heap.size ≤ gb747)); have n5_ := Aside0.mk ((by rw [hg]; exact Nat.ne_of_lt (blk_lt (g := gb746) (o := .cells #[.int .i64 a0_0, .slice A0_1 l0_1.length c0_1, .slice A0_2 l0_2.length c0_2, .slice A0_3 l0_3.length c0_3, .slice A0_4 l0_4.length c0_4] 34 (0, 0)) (by (with_reducible repeat (first | refine blk_drewN ?_ _ | refine blk_drew ?_ | refine blk_alloc ?_ _)); exact BK746.out)) : gb746 ≠ gb747)); have n6_ := Aside0.mk ((by rw [hg]; exact Nat.ne_of_gt (blk_lt (g := gb746) (o := .cells #[.int .i64 a0_0, .slice A0_1 l0_1.length c0_1, .slice A0_2 l0_2.length c0_2, .slice A0_3 l0_3.length c0_3, .slice A0_4 l0_4.length c0_4] 34 (0, 0)) (by (with_reducible repeat (first | refine blk_drewN ?_ _ | refine blk_drew ?_ | refine blk_alloc ?_ _)); exact BK746.out)) : gb747 ≠ gb746)); clear BK746; clear HB; have BK746 := n0_; have HB := n1_; have BK747 := n2_; have GW747 := n3_; have GE747 := n4_; have NB746_747 := n5_; have NB747_746 := n6_; clear n0_ n1_ n2_ n3_ n4_ n5_ n6_; clear hb hbox hg; have hnb33 := NB746_747.out; have hnc33 := NB747_746.out; have hcz34_0 : w32.cell? ⟨gb746, 0, none⟩ = some (.int .i64 a0_0) := (blk_cell BK746.out 0).trans rfl; have hcz34_1 : w32.cell? ⟨gb746, 1, none⟩ = some (.slice A0_1 l0_1.length c0_1) := (blk_cell BK746.out 1).trans rfl; have hcz34_2 : w32.cell? ⟨gb746, 2, none⟩ = some (.slice A0_2 l0_2.length c0_2) := (blk_cell BK746.out 2).trans rfl; have hcz34_3 : w32.cell? ⟨gb746, 3, none⟩ = some (.slice A0_3 l0_3.length c0_3) := (blk_cell BK746.out 3).trans rfl; have hcz34_4 : w32.cell? ⟨gb746, 4, none⟩ = some (.slice A0_4 l0_4.length c0_4) := (blk_cell BK746.out 4).trans rfl; have hfz34_0 := blk_frozen BK746.out 0; have hfz34_1 := blk_frozen BK746.out 1; have hfz34_2 := blk_frozen BK746.out 2; have hfz34_3 := blk_frozen BK746.out 3; have hfz34_4 := blk_frozen BK746.out 4; have hcz35_0 : w32.cell? ⟨gb747, 0, none⟩ = some (.int .i64 a1_0) := (blk_cell BK747.out 0).trans rfl; have hcz35_1 : w32.cell? ⟨gb747, 1, none⟩ = some (.slice A1_1 l1_1.length c1_1) := (blk_cell BK747.out 1).trans rfl; have hcz35_2 : w32.cell? ⟨gb747, 2, none⟩ = some (.slice A1_2 l1_2.length c1_2) := (blk_cell BK747.out 2).trans rfl; have hcz35_3 : w32.cell? ⟨gb747, 3, none⟩ = some (.slice A1_3 l1_3.length c1_3) := (blk_cell BK747.out 3).trans rfl; have hcz35_4 : w32.cell? ⟨gb747, 4, none⟩ = some (.slice A1_4 l1_4.length c1_4) := (blk_cell BK747.out 4).trans rfl; have hfz35_0 := blk_frozen BK747.out 0; have hfz35_1 := blk_frozen BK747.out 1; have hfz35_2 := blk_frozen BK747.out 2; have hfz35_3 := blk_frozen BK747.out 3; have hfz35_4 := blk_frozen BK747.out 4))
  go_ret
  exact ⟨by first | rfl | (simp [errW_none, errW_some] <;> rfl) | (simp [*, errW_none, errW_some] <;> rfl), by repeat (first | (with_reducible first | exact HB.out | apply below_alloc | apply pw_below_drewN | apply below_drew1 | refine below_set ?_ GE746.out | refine below_set ?_ GE747.out) | exact HB.out)⟩

end Go.Proofs.Ytejmjeanhlkenaa.PB

-- written by wip/myprint.py (the kit's print over hand-proved contracts)
namespace Go.Proofs.Ytejmjeanhlkenaa.PB
open Go.RowKit Go.Proofs.YtejmjeanhlkenaaW.PrintWords Go.Proofs.YtejmjeanhlkenaaW.PrintLast Go.Proofs.YtejmjeanhlkenaaW.PrintMore
attribute [local go_sem] max2_int min2_int max_two min_two max_three min_three max_four min_four   -- for this text's walks alone
set_option linter.unusedVariables false
set_option linter.unusedSimpArgs false

/-! ### ref39_Copy: function 23 -/
def ref39_Copy.f (a0_0 : Int) (l0_1 : List Int) (l0_2 : List Int) (l0_3 : List Bool) (l0_4 : List Bool) : Option (Int × List Int × List Int × List Bool × List Bool) := if ([] : List Int).length + l0_1.length < 17592186044416 then (if ([] : List Int).length + l0_2.length < 17592186044416 then (if ([] : List Bool).length + l0_3.length < 140737488355328 then (if ([] : List Bool).length + l0_4.length < 140737488355328 then (some (a0_0, (([] : List Int) ++ l0_1), (([] : List Int) ++ l0_2), (([] : List Bool) ++ l0_3), (([] : List Bool) ++ l0_4))) else (none)) else (none)) else (none)) else (none)
def ref39_Copy.T1 : Bool × List (List Nat × List Nat) := (true, [([], []), ([0], [0]), ([], []), ([2], [2]), ([3], [3]), ([], []), ([5], [5]), ([6, 4], [6]), ([], []), ([8], [8]), ([9, 7], [9]), ([], []), ([11], [11]), ([12, 10], [12]), ([1, 4, 7, 10, 13], [1, 4, 7, 10, 13]), ([14, 13, 0, 1, 2, 3, 4, 5, 6, 7, 8, 9, 10, 11, 12, 13, 14], [14])])
def ref39_Copy.B1 : List Nat := [0, 1, 0, 4, 12, 0, 32, 124, 0, 256, 1020, 0, 2048, 8188, 16383, 32767]
theorem ref39_Copy.tab1 : rtab .any (opsOf Try.f23 1) = ref39_Copy.T1 := by kernel_rfl
theorem ref39_Copy.bits1 : waitsOk ref39_Copy.T1.2 ref39_Copy.B1 = true := by kernel_rfl
set_option maxHeartbeats 8000000 in
set_option maxRecDepth 100000 in
theorem ref39_Copy.calls (a0_0 : Int) (A0_1 : Option Addr) (c0_1 : Nat) (l0_1 : List Int) (A0_2 : Option Addr) (c0_2 : Nat) (l0_2 : List Int) (A0_3 : Option Addr) (c0_3 : Nat) (l0_3 : List Bool) (A0_4 : Option Addr) (c0_4 : Nat) (l0_4 : List Bool) (r1 : Int) (r2 : List Int) (r3 : List Int) (r4 : List Bool) (r5 : List Bool) (w : World) (hr0_1 : Kd.C (Kd.int .i64) w A0_1 l0_1.length l0_1) (hc0_1 : l0_1.length ≤ c0_1) (hr0_2 : Kd.C (Kd.int .i64) w A0_2 l0_2.length l0_2) (hc0_2 : l0_2.length ≤ c0_2) (hr0_3 : Kd.C Kd.bool w A0_3 l0_3.length l0_3) (hc0_3 : l0_3.length ≤ c0_3) (hr0_4 : Kd.C Kd.bool w A0_4 l0_4.length l0_4) (hc0_4 : l0_4.length ≤ c0_4) (h : ref39_Copy.f a0_0 l0_1 l0_2 l0_3 l0_4 = some (r1, r2, r3, r4, r5)) :
  Calls Try.prog 23 #[.agg #[.int .i64 a0_0, .slice A0_1 l0_1.length c0_1, .slice A0_2 l0_2.length c0_2, .slice A0_3 l0_3.length c0_3, .slice A0_4 l0_4.length c0_4]] w fun e w' => ∃ v1_ v2_ v3_ v4_ : Value, e = .returned (.agg #[.int .i64 r1, v1_, v2_, v3_, v4_]) ∧ Kd.R (Kd.int .i64) 3 w' w.heap.size (fun k_ => some k_ ≠ (v2_ : Value).ownBlock) v1_ r2 ∧ Kd.R (Kd.int .i64) 3 w' w.heap.size (fun k_ => some k_ ≠ (v1_ : Value).ownBlock) v2_ r3 ∧ Kd.R Kd.bool 4 w' w.heap.size (fun k_ => some k_ ≠ (v4_ : Value).ownBlock) v3_ r4 ∧ Kd.R Kd.bool 4 w' w.heap.size (fun k_ => some k_ ≠ (v3_ : Value).ownBlock) v4_ r5 ∧ Below w.heap.size w w' := by
 have hu34 := Try.underlying34
 have HR0_1 := Aside0.mk hr0_1
 have HC0_1 := Aside0.mk hc0_1
 clear hr0_1 hc0_1
 have HR0_2 := Aside0.mk hr0_2
 have HC0_2 := Aside0.mk hc0_2
 clear hr0_2 hc0_2
 have HR0_3 := Aside0.mk hr0_3
 have HC0_3 := Aside0.mk hc0_3
 clear hr0_3 hc0_3
 have HR0_4 := Aside0.mk hr0_4
 have HC0_4 := Aside0.mk hc0_4
 clear hr0_4 hc0_4
 have HB := Aside0.mk (Below.refl w.heap.size w)
 have H : (if ([] : List Int).length + l0_1.length < 17592186044416 then (if ([] : List Int).length + l0_2.length < 17592186044416 then (if ([] : List Bool).length + l0_3.length < 140737488355328 then (if ([] : List Bool).length + l0_4.length < 140737488355328 then (some (a0_0, (([] : List Int) ++ l0_1), (([] : List Int) ++ l0_2), (([] : List Bool) ++ l0_3), (([] : List Bool) ++ l0_4))) else (none)) else (none)) else (none)) else (none)) = some (r1, r2, r3, r4, r5) := h
 clear h
 by_cases c2 : ([] : List Int).length + l0_1.length < 17592186044416
 ·rw [if_pos c2] at H
  have LMc2 := Aside0.mk c2
  clear c2
  obtain ⟨y346, hy346⟩ : ∃ y_ : List Int, y_ = (([] : List Int) ++ l0_1) := ⟨_, rfl⟩
  replace H : (if ([] : List Int).length + l0_2.length < 17592186044416 then (if ([] : List Bool).length + l0_3.length < 140737488355328 then (if ([] : List Bool).length + l0_4.length < 140737488355328 then (some (a0_0, y346, (([] : List Int) ++ l0_2), (([] : List Bool) ++ l0_3), (([] : List Bool) ++ l0_4))) else (none)) else (none)) else (none)) = some (r1, r2, r3, r4, r5) := by first | (rw [hy346]; with_reducible exact H) | (have H2_ := (Option.bind_some _ _).symm.trans H; rw [hy346]; with_reducible exact H2_) | (have H2_ := (Option.bind_some _ _).symm.trans H; with_reducible exact H2_) | with_reducible exact H | (rw [hy346]; exact H) | exact H
  have Ny346 := Aside0.mk hy346
  clear hy346
  by_cases c3 : ([] : List Int).length + l0_2.length < 17592186044416
  ·rw [if_pos c3] at H
   have LMc3 := Aside0.mk c3
   clear c3
   obtain ⟨y349, hy349⟩ : ∃ y_ : List Int, y_ = (([] : List Int) ++ l0_2) := ⟨_, rfl⟩
   replace H : (if ([] : List Bool).length + l0_3.length < 140737488355328 then (if ([] : List Bool).length + l0_4.length < 140737488355328 then (some (a0_0, y346, y349, (([] : List Bool) ++ l0_3), (([] : List Bool) ++ l0_4))) else (none)) else (none)) = some (r1, r2, r3, r4, r5) := by first | (rw [hy349]; with_reducible exact H) | (have H2_ := (Option.bind_some _ _).symm.trans H; rw [hy349]; with_reducible exact H2_) | (have H2_ := (Option.bind_some _ _).symm.trans H; with_reducible exact H2_) | with_reducible exact H | (rw [hy349]; exact H) | exact H
   have Ny349 := Aside0.mk hy349
   clear hy349
   by_cases c4 : ([] : List Bool).length + l0_3.length < 140737488355328
   ·rw [if_pos c4] at H
    have LMc4 := Aside0.mk c4
    clear c4
    obtain ⟨y352, hy352⟩ : ∃ y_ : List Bool, y_ = (([] : List Bool) ++ l0_3) := ⟨_, rfl⟩
    replace H : (if ([] : List Bool).length + l0_4.length < 140737488355328 then (some (a0_0, y346, y349, y352, (([] : List Bool) ++ l0_4))) else (none)) = some (r1, r2, r3, r4, r5) := by first | (rw [hy352]; with_reducible exact H) | (have H2_ := (Option.bind_some _ _).symm.trans H; rw [hy352]; with_reducible exact H2_) | (have H2_ := (Option.bind_some _ _).symm.trans H; with_reducible exact H2_) | with_reducible exact H | (rw [hy352]; exact H) | exact H
    have Ny352 := Aside0.mk hy352
    clear hy352
    by_cases c5 : ([] : List Bool).length + l0_4.length < 140737488355328
    ·rw [if_pos c5] at H
     have LMc5 := Aside0.mk c5
     clear c5
     obtain ⟨y355, hy355⟩ : ∃ y_ : List Bool, y_ = (([] : List Bool) ++ l0_4) := ⟨_, rfl⟩
     replace H : (some (a0_0, y346, y349, y352, y355)) = some (r1, r2, r3, r4, r5) := by first | (rw [hy355]; with_reducible exact H) | (have H2_ := (Option.bind_some _ _).symm.trans H; rw [hy355]; with_reducible exact H2_) | (have H2_ := (Option.bind_some _ _).symm.trans H; with_reducible exact H2_) | with_reducible exact H | (rw [hy355]; exact H) | exact H
     have Ny355 := Aside0.mk hy355
     clear hy355
     simp only [Option.some.injEq, Prod.mk.injEq] at H
     obtain ⟨rfl, rfl, rfl, rfl, rfl⟩ := H
     go_enter Try.func23, Try.ntmps23
     try go_wp2_with (first | ((with_reducible refine gate_dst (N := 1) rfl ?_); refine box_event ?hg (N := 1) ?hd (cs := #[.int .i64 a0_0, .slice A0_1 l0_1.length c0_1, .slice A0_2 l0_2.length c0_2, .slice A0_3 l0_3.length c0_3, .slice A0_4 l0_4.length c0_4]) (t := 34) ?hr ?_; (case hd => rfl); (case hg => rfl); (case hr => first | (go_simp; done) | (go_simp; rfl)); intro gb344 hg w6 hbox hb; have n0_ := Aside0.mk (below_step (by repeat (first | (with_reducible first | exact HB.out | apply below_alloc | apply pw_below_drewN | apply below_drew1) | exact HB.out)) hb); have n1_ := Aside0.mk (hbox); have n2_ := Aside0.mk ((by rw [hg]; exact (below_size (by repeat (first | (with_reducible first | exact HB.out | apply below_alloc | apply pw_below_drewN | apply below_drew1) | exact HB.out))) : w.heap.size ≤ gb344)); have n3_ := Aside0.mk ((by rw [hg]; exact (below_size (by repeat (first | (with_reducible first | exact HB.out | apply below_alloc | apply pw_below_drewN | apply below_drew1) | exact HB.out))) : w.heap.size ≤ gb344)); clear HB; have HB := n0_; have BK344 := n1_; have GW344 := n2_; have GE344 := n3_; clear n0_ n1_ n2_ n3_; clear hb hbox hg) | ((with_reducible refine gate_dst (N := 2) rfl ?_); refine box_event ?hg (N := 2) ?hd (cs := #[.int .i64 0, .slice none 0 0, .slice none 0 0, .slice none 0 0, .slice none 0 0]) (t := 34) ?hr ?_; (case hd => rfl); (case hg => rfl); (case hr => first | (go_simp; done) | (go_simp; rfl)); intro gb345 hg w7 hbox hb; have n0_ := Aside0.mk (blk_below (g := gb344) (o := .cells #[.int .i64 a0_0, .slice A0_1 l0_1.length c0_1, .slice A0_2 l0_2.length c0_2, .slice A0_3 l0_3.length c0_3, .slice A0_4 l0_4.length c0_4] 34 (0, 0)) (by (with_reducible repeat (first | refine blk_drewN ?_ _ | refine blk_drew ?_ | refine blk_alloc ?_ _)); exact BK344.out) hb); have n1_ := Aside0.mk (below_step (by repeat (first | (with_reducible first | exact HB.out | apply below_alloc | apply pw_below_drewN | apply below_drew1 | refine below_set ?_ GE344.out) | exact HB.out)) hb); have n2_ := Aside0.mk (hbox); have n3_ := Aside0.mk ((by rw [hg]; exact (below_size (by repeat (first | (with_reducible first | exact HB.out | apply below_alloc | apply pw_below_drewN | apply below_drew1 | refine below_set ?_ GE344.out) | exact HB.out))) : w.heap.size ≤ gb345)); have n4_ := Aside0.mk ((by rw [hg]; exact (below_size (by repeat (first | (with_reducible first | exact HB.out | apply below_alloc | apply pw_below_drewN | apply below_drew1 | refine below_set ?_ GE344.out) | exact HB.out))) : w.heap.size ≤ gb345)); have n5_ := Aside0.mk ((by rw [hg]; exact Nat.ne_of_lt (blk_lt (g := gb344) (o := .cells #[.int .i64 a0_0, .slice A0_1 l0_1.length c0_1, .slice A0_2 l0_2.length c0_2, .slice A0_3 l0_3.length c0_3, .slice A0_4 l0_4.length c0_4] 34 (0, 0)) (by (with_reducible repeat (first | refine blk_drewN ?_ _ | refine blk_drew ?_ | refine blk_alloc ?_ _)); exact BK344.out)) : gb344 ≠ gb345)); have n6_ := Aside0.mk ((by rw [hg]; exact Nat.ne_of_gt (blk_lt (g := gb344) (o := .cells #[.int .i64 a0_0, .slice A0_1 l0_1.length c0_1, .slice A0_2 l0_2.length c0_2, .slice A0_3 l0_3.length c0_3, .slice A0_4 l0_4.length c0_4] 34 (0, 0)) (by (with_reducible repeat (first | refine blk_drewN ?_ _ | refine blk_drew ?_ | refine blk_alloc ?_ _)); exact BK344.out)) : gb345 ≠ gb344)); clear BK344; clear HB; have BK344 := n0_; have HB := n1_; have BK345 := n2_; have GW345 := n3_; have GE345 := n4_; have NB344_345 := n5_; have NB345_344 := n6_; clear n0_ n1_ n2_ n3_ n4_ n5_ n6_; clear hb hbox hg))
     have n0_ := Aside0.mk (blk_drew BK344.out)
     have n1_ := Aside0.mk (blk_drew BK345.out)
     have n2_ := Aside0.mk (below_drew1 HB.out)
     clear BK344; clear BK345; clear HB; have BK344 := n0_; have BK345 := n1_; have HB := n2_
     clear n0_ n1_ n2_
     refine start_ (n := 16) (S := fun w' => w'.cell? ⟨gb344, 0, none⟩ = some (.int .i64 a0_0) ∧ w'.cell? ⟨gb344, 1, none⟩ = some (.slice A0_1 l0_1.length c0_1) ∧ w'.cell? ⟨gb344, 2, none⟩ = some (.slice A0_2 l0_2.length c0_2) ∧ w'.cell? ⟨gb344, 3, none⟩ = some (.slice A0_3 l0_3.length c0_3) ∧ w'.cell? ⟨gb344, 4, none⟩ = some (.slice A0_4 l0_4.length c0_4)) (ds := []) D16m0 (by kernel_rfl) rfl rfl ⟨(blk_cell BK344.out 0).trans rfl, (blk_cell BK344.out 1).trans rfl, (blk_cell BK344.out 2).trans rfl, (blk_cell BK344.out 3).trans rfl, (blk_cell BK344.out 4).trans rfl⟩ (fun hHeld => ?_); refine with_tabW ref39_Copy.tab1 ref39_Copy.bits1 (fun HT_ HW_ => ?_)
     generalize w7.drew = w8 at BK344 BK345 HB hHeld ⊢
     refine pure_ (i := 0) (N := some 3) (v := ?_) (a' := ?_) D16m1 rfl rfl (any_of HT_.out (by kernel_rfl)) (fun _ _ _ h => h) (Or.inl ⟨by rfl, ?_⟩) ?_ ?_
     rotate_left; ·intro w'; go_simp; with_reducible rfl
     rotate_left; ·simp only [Act.put, sZ1, sZ2, sZ3, i64_w, i32_w]; rfl
     refine pure_ (i := 2) (N := some 5) (v := ?_) (a' := ?_) D16m5 rfl rfl (any_of HT_.out (by kernel_rfl)) (fun _ _ _ h => h) (Or.inl ⟨by rfl, ?_⟩) ?_ ?_
     rotate_left; ·intro w'; go_simp; with_reducible rfl
     rotate_left; ·simp only [Act.put, sZ1, sZ2, sZ3, i64_w, i32_w]; rfl
     refine pure_ (i := 5) (N := some 8) (v := ?_) (a' := ?_) D16m25 rfl rfl (any_of HT_.out (by kernel_rfl)) (fun _ _ _ h => h) (Or.inl ⟨by rfl, ?_⟩) ?_ ?_
     rotate_left; ·intro w'; go_simp; with_reducible rfl
     rotate_left; ·simp only [Act.put, sZ1, sZ2, sZ3, i64_w, i32_w]; rfl
     refine pure_ (i := 8) (N := some 11) (v := ?_) (a' := ?_) D16m125 rfl rfl (any_of HT_.out (by kernel_rfl)) (fun _ _ _ h => h) (Or.inl ⟨by rfl, ?_⟩) ?_ ?_
     rotate_left; ·intro w'; go_simp; with_reducible rfl
     rotate_left; ·simp only [Act.put, sZ1, sZ2, sZ3, i64_w, i32_w]; rfl
     refine pure_ (i := 11) (N := some 14) (v := ?_) (a' := ?_) D16m925 rfl rfl (any_of HT_.out (by kernel_rfl)) (fun _ _ _ h => h) (Or.inl ⟨by rfl, ?_⟩) ?_ ?_
     rotate_left; ·intro w'; go_simp; with_reducible rfl
     rotate_left; ·simp only [Act.put, sZ1, sZ2, sZ3, i64_w, i32_w]; rfl
     refine take_ (i := 1) (N := some 4) (v := ?_) (a' := ?_) D16m927 rfl rfl (take_ofW HT_.out HW_.out (by kernel_rfl)) (fun _ _ _ h => h) (Or.inl ⟨by rfl, ?_⟩) hHeld ?_ ?_
     rotate_left; ·rintro w' ⟨s0, s1, s2, s3, s4⟩; go_simp; with_reducible rfl
     rotate_left; ·simp only [Act.put, sZ1, sZ2, sZ3, i64_w, i32_w]; rfl
     refine take_ (i := 3) (N := some 6) (v := ?_) (a' := ?_) D16m92f rfl rfl (take_ofW HT_.out HW_.out (by kernel_rfl)) (fun _ _ _ h => h) (Or.inl ⟨by rfl, ?_⟩) hHeld ?_ ?_
     rotate_left; ·rintro w' ⟨s0, s1, s2, s3, s4⟩; go_simp; with_reducible rfl
     rotate_left; ·simp only [Act.put, sZ1, sZ2, sZ3, i64_w, i32_w]; rfl
     refine take_ (i := 6) (N := some 9) (v := ?_) (a' := ?_) D16m96f rfl rfl (take_ofW HT_.out HW_.out (by kernel_rfl)) (fun _ _ _ h => h) (Or.inl ⟨by rfl, ?_⟩) hHeld ?_ ?_
     rotate_left; ·rintro w' ⟨s0, s1, s2, s3, s4⟩; go_simp; with_reducible rfl
     rotate_left; ·simp only [Act.put, sZ1, sZ2, sZ3, i64_w, i32_w]; rfl
     refine take_ (i := 9) (N := some 12) (v := ?_) (a' := ?_) D16mb6f rfl rfl (take_ofW HT_.out HW_.out (by kernel_rfl)) (fun _ _ _ h => h) (Or.inl ⟨by rfl, ?_⟩) hHeld ?_ ?_
     rotate_left; ·rintro w' ⟨s0, s1, s2, s3, s4⟩; go_simp; with_reducible rfl
     rotate_left; ·simp only [Act.put, sZ1, sZ2, sZ3, i64_w, i32_w]; rfl
     refine take_ (i := 12) (N := some 15) (v := ?_) (a' := ?_) D16m1b6f rfl rfl (take_ofW HT_.out HW_.out (by kernel_rfl)) (fun _ _ _ h => h) (Or.inl ⟨by rfl, ?_⟩) hHeld ?_ ?_
     rotate_left; ·rintro w' ⟨s0, s1, s2, s3, s4⟩; go_simp; with_reducible rfl
     rotate_left; ·simp only [Act.put, sZ1, sZ2, sZ3, i64_w, i32_w]; rfl
     refine one_ (i := 4) (N := some 7) D16m1b7f rfl rfl (one_of HT_.out (by kernel_rfl)) (by decide) (fun K hK => ?_)
     refine Kd.R_append_rows_step (Kd.int .i64) (w0 := w) w.heap.size (by rfl) (.const (.slice none 0 0)) (.tmp 6) 22 3 (.int .i64 0) 8 rfl Try.underlying22 info3 rfl (by decide) (by omega) (.slice none 0 0) ([] : List Int) l0_1 _ _ _ (fun _ => True) (fun _ => False) rfl rfl ?aO ?aR (fun _ _ h => h) (fun _ h => h.elim) ?aF ?aB ?aS ?aL ?_
     (case aR => repeat (first | exact (Kd.C_below HR0_1.out HB.out) | (with_reducible refine Kd.C_alloc ?_ _) | (with_reducible refine Kd.C_drewN ?_ _) | (with_reducible refine Kd.C_drew ?_)))
     (case aB => exact (by repeat (first | (with_reducible first | exact HB.out | apply below_alloc | apply pw_below_drewN | apply below_drew1 | refine below_set ?_ GE344.out | refine below_set ?_ GE345.out) | exact HB.out)))
     (case aF => exact (fun _ _ => trivial))
     (case aO => exact ((Kd.R_nil _ _ _ _ (fun _ => True))))
     (case aS => exact (below_size (by repeat (first | (with_reducible first | exact HB.out | apply below_alloc | apply pw_below_drewN | apply below_drew1 | refine below_set ?_ GE344.out | refine below_set ?_ GE345.out) | exact HB.out))))
     (case aL => have := LMc2.out; omega)
     intro v347 w9 ho hb hg hat
     rw [← Ny346.out] at ho
     have n0_ := Aside0.mk (blk_grown (g := gb344) (o := .cells #[.int .i64 a0_0, .slice A0_1 l0_1.length c0_1, .slice A0_2 l0_2.length c0_2, .slice A0_3 l0_3.length c0_3, .slice A0_4 l0_4.length c0_4] 34 (0, 0)) (by (with_reducible repeat (first | refine blk_drewN ?_ _ | refine blk_drew ?_ | refine blk_alloc ?_ _)); exact BK344.out) hg (by simp [Value.ownBlock]))
     have n1_ := Aside0.mk (blk_grown (g := gb345) (o := .cells #[.int .i64 0, .slice none 0 0, .slice none 0 0, .slice none 0 0, .slice none 0 0] 34 (0, 0)) (by (with_reducible repeat (first | refine blk_drewN ?_ _ | refine blk_drew ?_ | refine blk_alloc ?_ _)); exact BK345.out) hg (by simp [Value.ownBlock]))
     have n2_ := Aside0.mk (hb)
     have n3_ := Aside0.mk (ho)
     clear BK344; clear BK345; clear HB; have BK344 := n0_; have BK345 := n1_; have HB := n2_; have HO348 := n3_
     clear n0_ n1_ n2_ n3_
     clear ho hb hg hat
     refine hK.out _ _ ⟨(blk_cell BK344.out 0).trans rfl, (blk_cell BK344.out 1).trans rfl, (blk_cell BK344.out 2).trans rfl, (blk_cell BK344.out 3).trans rfl, (blk_cell BK344.out 4).trans rfl⟩ (fun hHeld => ?_)
     clear hK K
     refine norm_ (a' := ?_) ?_ ?_
     rotate_left
     ·show Act.put _ (some 7) _ = _
      simp only [Act.put, sZ1, sZ2, sZ3, i64_w, i32_w]
      rfl
     refine one_ (i := 7) (N := some 10) D16m1bff rfl rfl (one_of HT_.out (by kernel_rfl)) (by decide) (fun K hK => ?_)
     refine Kd.R_append_rows_step (Kd.int .i64) (w0 := w) w.heap.size (by rfl) (.const (.slice none 0 0)) (.tmp 9) 22 3 (.int .i64 0) 8 rfl Try.underlying22 info3 rfl (by decide) (by omega) (.slice none 0 0) ([] : List Int) l0_2 _ _ _ (fun k_ => some k_ ≠ (v347 : Value).ownBlock) (fun _ => False) rfl rfl ?aO ?aR (fun _ _ h => h) (fun _ h => h.elim) ?aF ?aB ?aS ?aL ?_
     (case aR => repeat (first | exact (Kd.C_below HR0_2.out HB.out) | (with_reducible refine Kd.C_alloc ?_ _) | (with_reducible refine Kd.C_drewN ?_ _) | (with_reducible refine Kd.C_drew ?_)))
     (case aB => exact (by repeat (first | (with_reducible first | exact HB.out | apply below_alloc | apply pw_below_drewN | apply below_drew1 | refine below_set ?_ GE344.out | refine below_set ?_ GE345.out) | exact HB.out)))
     (case aF => exact (fun k_ hk => Kd.fresh' (Kd.R_lt (by (with_reducible repeat (first | apply Kd.R_alloc | apply Kd.R_drewN | apply Kd.R_drew)); exact HO348.out)) k_ hk))
     (case aO => exact ((Kd.R_nil _ _ _ _ (fun k_ => some k_ ≠ (v347 : Value).ownBlock))))
     (case aS => exact (below_size (by repeat (first | (with_reducible first | exact HB.out | apply below_alloc | apply pw_below_drewN | apply below_drew1 | refine below_set ?_ GE344.out | refine below_set ?_ GE345.out) | exact HB.out))))
     (case aL => have := LMc3.out; omega)
     intro v350 w10 ho hb hg hat
     rw [← Ny349.out] at ho
     have n0_ := Aside0.mk (blk_grown (g := gb344) (o := .cells #[.int .i64 a0_0, .slice A0_1 l0_1.length c0_1, .slice A0_2 l0_2.length c0_2, .slice A0_3 l0_3.length c0_3, .slice A0_4 l0_4.length c0_4] 34 (0, 0)) (by (with_reducible repeat (first | refine blk_drewN ?_ _ | refine blk_drew ?_ | refine blk_alloc ?_ _)); exact BK344.out) hg (by simp [Value.ownBlock]))
     have n1_ := Aside0.mk (blk_grown (g := gb345) (o := .cells #[.int .i64 0, .slice none 0 0, .slice none 0 0, .slice none 0 0, .slice none 0 0] 34 (0, 0)) (by (with_reducible repeat (first | refine blk_drewN ?_ _ | refine blk_drew ?_ | refine blk_alloc ?_ _)); exact BK345.out) hg (by simp [Value.ownBlock]))
     have n2_ := Aside0.mk (Kd.R_after (Kd.R_apart_nil (by (with_reducible repeat (first | apply Kd.R_alloc | apply Kd.R_drewN | apply Kd.R_drew)); exact HO348.out)) hg hat)
     have n3_ := Aside0.mk (hb)
     have n4_ := Aside0.mk (ho)
     clear BK344; clear BK345; clear HO348; clear HB; have BK344 := n0_; have BK345 := n1_; have HO348 := n2_; have HB := n3_; have HO351 := n4_
     clear n0_ n1_ n2_ n3_ n4_
     clear ho hb hg hat
     refine hK.out _ _ ⟨(blk_cell BK344.out 0).trans rfl, (blk_cell BK344.out 1).trans rfl, (blk_cell BK344.out 2).trans rfl, (blk_cell BK344.out 3).trans rfl, (blk_cell BK344.out 4).trans rfl⟩ (fun hHeld => ?_)
     clear hK K
     refine norm_ (a' := ?_) ?_ ?_
     rotate_left
     ·show Act.put _ (some 10) _ = _
      simp only [Act.put, sZ1, sZ2, sZ3, i64_w, i32_w]
      rfl
     refine one_ (i := 10) (N := some 13) D16m1fff rfl rfl (one_of HT_.out (by kernel_rfl)) (by decide) (fun K hK => ?_)
     refine Kd.R_append_rows_step Kd.bool (w0 := w) w.heap.size (by rfl) (.const (.slice none 0 0)) (.tmp 12) 32 4 (.bool false) 1 rfl Try.underlying32 info4 rfl (by decide) (by omega) (.slice none 0 0) ([] : List Bool) l0_3 _ _ _ (fun _ => True) (fun _ => False) rfl rfl ?aO ?aR (fun _ _ h => h) (fun _ h => h.elim) ?aF ?aB ?aS ?aL ?_
     (case aR => repeat (first | exact (Kd.C_below HR0_3.out HB.out) | (with_reducible refine Kd.C_alloc ?_ _) | (with_reducible refine Kd.C_drewN ?_ _) | (with_reducible refine Kd.C_drew ?_)))
     (case aB => exact (by repeat (first | (with_reducible first | exact HB.out | apply below_alloc | apply pw_below_drewN | apply below_drew1 | refine below_set ?_ GE344.out | refine below_set ?_ GE345.out) | exact HB.out)))
     (case aF => exact (fun _ _ => trivial))
     (case aO => exact ((Kd.R_nil _ _ _ _ (fun _ => True))))
     (case aS => exact (below_size (by repeat (first | (with_reducible first | exact HB.out | apply below_alloc | apply pw_below_drewN | apply below_drew1 | refine below_set ?_ GE344.out | refine below_set ?_ GE345.out) | exact HB.out))))
     (case aL => have := LMc4.out; omega)
     intro v353 w11 ho hb hg hat
     rw [← Ny352.out] at ho
     have n0_ := Aside0.mk (blk_grown (g := gb344) (o := .cells #[.int .i64 a0_0, .slice A0_1 l0_1.length c0_1, .slice A0_2 l0_2.length c0_2, .slice A0_3 l0_3.length c0_3, .slice A0_4 l0_4.length c0_4] 34 (0, 0)) (by (with_reducible repeat (first | refine blk_drewN ?_ _ | refine blk_drew ?_ | refine blk_alloc ?_ _)); exact BK344.out) hg (by simp [Value.ownBlock]))
     have n1_ := Aside0.mk (blk_grown (g := gb345) (o := .cells #[.int .i64 0, .slice none 0 0, .slice none 0 0, .slice none 0 0, .slice none 0 0] 34 (0, 0)) (by (with_reducible repeat (first | refine blk_drewN ?_ _ | refine blk_drew ?_ | refine blk_alloc ?_ _)); exact BK345.out) hg (by simp [Value.ownBlock]))
     have n2_ := Aside0.mk (Kd.R_grown (by (with_reducible repeat (first | apply Kd.R_alloc | apply Kd.R_drewN | apply Kd.R_drew)); exact HO348.out) hg (fun _ _ => by simp [Value.ownBlock]))
     have n3_ := Aside0.mk (Kd.R_grown (by (with_reducible repeat (first | apply Kd.R_alloc | apply Kd.R_drewN | apply Kd.R_drew)); exact HO351.out) hg (fun _ _ => by simp [Value.ownBlock]))
     have n4_ := Aside0.mk (hb)
     have n5_ := Aside0.mk (ho)
     clear BK344; clear BK345; clear HO348; clear HO351; clear HB; have BK344 := n0_; have BK345 := n1_; have HO348 := n2_; have HO351 := n3_; have HB := n4_; have HO354 := n5_
     clear n0_ n1_ n2_ n3_ n4_ n5_
     clear ho hb hg hat
     refine hK.out _ _ ⟨(blk_cell BK344.out 0).trans rfl, (blk_cell BK344.out 1).trans rfl, (blk_cell BK344.out 2).trans rfl, (blk_cell BK344.out 3).trans rfl, (blk_cell BK344.out 4).trans rfl⟩ (fun hHeld => ?_)
     clear hK K
     refine norm_ (a' := ?_) ?_ ?_
     rotate_left
     ·show Act.put _ (some 13) _ = _
      simp only [Act.put, sZ1, sZ2, sZ3, i64_w, i32_w]
      rfl
     refine one_ (i := 13) (N := some 16) D16m3fff rfl rfl (one_of HT_.out (by kernel_rfl)) (by decide) (fun K hK => ?_)
     refine Kd.R_append_rows_step Kd.bool (w0 := w) w.heap.size (by rfl) (.const (.slice none 0 0)) (.tmp 15) 32 4 (.bool false) 1 rfl Try.underlying32 info4 rfl (by decide) (by omega) (.slice none 0 0) ([] : List Bool) l0_4 _ _ _ (fun k_ => some k_ ≠ (v353 : Value).ownBlock) (fun _ => False) rfl rfl ?aO ?aR (fun _ _ h => h) (fun _ h => h.elim) ?aF ?aB ?aS ?aL ?_
     (case aR => repeat (first | exact (Kd.C_below HR0_4.out HB.out) | (with_reducible refine Kd.C_alloc ?_ _) | (with_reducible refine Kd.C_drewN ?_ _) | (with_reducible refine Kd.C_drew ?_)))
     (case aB => exact (by repeat (first | (with_reducible first | exact HB.out | apply below_alloc | apply pw_below_drewN | apply below_drew1 | refine below_set ?_ GE344.out | refine below_set ?_ GE345.out) | exact HB.out)))
     (case aF => exact (fun k_ hk => Kd.fresh' (Kd.R_lt (by (with_reducible repeat (first | apply Kd.R_alloc | apply Kd.R_drewN | apply Kd.R_drew)); exact HO354.out)) k_ hk))
     (case aO => exact ((Kd.R_nil _ _ _ _ (fun k_ => some k_ ≠ (v353 : Value).ownBlock))))
     (case aS => exact (below_size (by repeat (first | (with_reducible first | exact HB.out | apply below_alloc | apply pw_below_drewN | apply below_drew1 | refine below_set ?_ GE344.out | refine below_set ?_ GE345.out) | exact HB.out))))
     (case aL => have := LMc5.out; omega)
     intro v356 w12 ho hb hg hat
     rw [← Ny355.out] at ho
     have n0_ := Aside0.mk (blk_grown (g := gb344) (o := .cells #[.int .i64 a0_0, .slice A0_1 l0_1.length c0_1, .slice A0_2 l0_2.length c0_2, .slice A0_3 l0_3.length c0_3, .slice A0_4 l0_4.length c0_4] 34 (0, 0)) (by (with_reducible repeat (first | refine blk_drewN ?_ _ | refine blk_drew ?_ | refine blk_alloc ?_ _)); exact BK344.out) hg (by simp [Value.ownBlock]))
     have n1_ := Aside0.mk (blk_grown (g := gb345) (o := .cells #[.int .i64 0, .slice none 0 0, .slice none 0 0, .slice none 0 0, .slice none 0 0] 34 (0, 0)) (by (with_reducible repeat (first | refine blk_drewN ?_ _ | refine blk_drew ?_ | refine blk_alloc ?_ _)); exact BK345.out) hg (by simp [Value.ownBlock]))
     have n2_ := Aside0.mk (Kd.R_grown (by (with_reducible repeat (first | apply Kd.R_alloc | apply Kd.R_drewN | apply Kd.R_drew)); exact HO348.out) hg (fun _ _ => by simp [Value.ownBlock]))
     have n3_ := Aside0.mk (Kd.R_grown (by (with_reducible repeat (first | apply Kd.R_alloc | apply Kd.R_drewN | apply Kd.R_drew)); exact HO351.out) hg (fun _ _ => by simp [Value.ownBlock]))
     have n4_ := Aside0.mk (Kd.R_after (Kd.R_apart_nil (by (with_reducible repeat (first | apply Kd.R_alloc | apply Kd.R_drewN | apply Kd.R_drew)); exact HO354.out)) hg hat)
     have n5_ := Aside0.mk (hb)
     have n6_ := Aside0.mk (ho)
     clear BK344; clear BK345; clear HO348; clear HO351; clear HO354; clear HB; have BK344 := n0_; have BK345 := n1_; have HO348 := n2_; have HO351 := n3_; have HO354 := n4_; have HB := n5_; have HO357 := n6_
     clear n0_ n1_ n2_ n3_ n4_ n5_ n6_
     clear ho hb hg hat
     obtain ⟨Ao13, co13, eo13⟩ := Kd.R_slice HO357.out
     (first | subst eo13 | (injection eo13 with f1_ f2_ f3_; have f4_ := f1_.symm; have f5_ := f3_.symm; clear f1_ f2_ f3_; subst f4_; subst f5_))
     obtain ⟨Ao14, co14, eo14⟩ := Kd.R_slice HO354.out
     (first | subst eo14 | (injection eo14 with f1_ f2_ f3_; have f4_ := f1_.symm; have f5_ := f3_.symm; clear f1_ f2_ f3_; subst f4_; subst f5_))
     obtain ⟨Ao15, co15, eo15⟩ := Kd.R_slice HO351.out
     (first | subst eo15 | (injection eo15 with f1_ f2_ f3_; have f4_ := f1_.symm; have f5_ := f3_.symm; clear f1_ f2_ f3_; subst f4_; subst f5_))
     obtain ⟨Ao16, co16, eo16⟩ := Kd.R_slice HO348.out
     (first | subst eo16 | (injection eo16 with f1_ f2_ f3_; have f4_ := f1_.symm; have f5_ := f3_.symm; clear f1_ f2_ f3_; subst f4_; subst f5_))
     refine hK.out _ _ ⟨(blk_cell BK344.out 0).trans rfl, (blk_cell BK344.out 1).trans rfl, (blk_cell BK344.out 2).trans rfl, (blk_cell BK344.out 3).trans rfl, (blk_cell BK344.out 4).trans rfl⟩ (fun hHeld => ?_)
     clear hK K
     refine norm_ (a' := ?_) ?_ ?_
     rotate_left
     ·show Act.put _ (some 16) _ = _
      simp only [Act.put, sZ1, sZ2, sZ3, i64_w, i32_w]
      rfl
     refine pure_ (i := 14) (N := some 17) (v := ?_) (a' := ?_) D16m7fff rfl rfl (any_of HT_.out (by kernel_rfl)) (fun _ _ _ h => h) (Or.inl ⟨by rfl, ?_⟩) ?_ ?_
     rotate_left; ·intro w'; go_simp; with_reducible rfl
     rotate_left; ·simp only [Act.put, sZ1, sZ2, sZ3, i64_w, i32_w]; rfl
     refine one_ (i := 15) (N := none) D16mffff rfl rfl (one_of HT_.out (by kernel_rfl)) (by decide) (fun K hK => ?_)
     have hs17 : w12.cell? ⟨gb345, 0, none⟩ = some (.int .i64 0) := (blk_cell BK345.out 0).trans rfl
     have hfs17 := blk_frozen BK345.out 0
     have hns17_0 := NB344_345.out
     have hms17_0 := NB345_344.out
     have hs18 : w12.cell? ⟨gb345, 1, none⟩ = some (.slice none 0 0) := (blk_cell BK345.out 1).trans rfl
     have hfs18 := blk_frozen BK345.out 1
     have hns18_0 := NB344_345.out
     have hms18_0 := NB345_344.out
     have hs19 : w12.cell? ⟨gb345, 2, none⟩ = some (.slice none 0 0) := (blk_cell BK345.out 2).trans rfl
     have hfs19 := blk_frozen BK345.out 2
     have hns19_0 := NB344_345.out
     have hms19_0 := NB345_344.out
     have hs20 : w12.cell? ⟨gb345, 3, none⟩ = some (.slice none 0 0) := (blk_cell BK345.out 3).trans rfl
     have hfs20 := blk_frozen BK345.out 3
     have hns20_0 := NB344_345.out
     have hms20_0 := NB345_344.out
     have hs21 : w12.cell? ⟨gb345, 4, none⟩ = some (.slice none 0 0) := (blk_cell BK345.out 4).trans rfl
     have hfs21 := blk_frozen BK345.out 4
     have hns21_0 := NB344_345.out
     have hms21_0 := NB345_344.out
     refine skip_ (w1 := ?_) (by rfl) rfl ?_ ?_
     rotate_left
     ·go_simp
      rfl
     refine hK.out _ _ ⟨((cell_far (p := ⟨gb345, _, none⟩) NB344_345.out _).trans (((cell_far (p := ⟨gb345, _, none⟩) NB344_345.out _).trans (((cell_far (p := ⟨gb345, _, none⟩) NB344_345.out _).trans (((cell_far (p := ⟨gb345, _, none⟩) NB344_345.out _).trans (((cell_far (p := ⟨gb345, _, none⟩) NB344_345.out _).trans (hHeld.1)))))))))), ((cell_far (p := ⟨gb345, _, none⟩) NB344_345.out _).trans (((cell_far (p := ⟨gb345, _, none⟩) NB344_345.out _).trans (((cell_far (p := ⟨gb345, _, none⟩) NB344_345.out _).trans (((cell_far (p := ⟨gb345, _, none⟩) NB344_345.out _).trans (((cell_far (p := ⟨gb345, _, none⟩) NB344_345.out _).trans (hHeld.2.1)))))))))), ((cell_far (p := ⟨gb345, _, none⟩) NB344_345.out _).trans (((cell_far (p := ⟨gb345, _, none⟩) NB344_345.out _).trans (((cell_far (p := ⟨gb345, _, none⟩) NB344_345.out _).trans (((cell_far (p := ⟨gb345, _, none⟩) NB344_345.out _).trans (((cell_far (p := ⟨gb345, _, none⟩) NB344_345.out _).trans (hHeld.2.2.1)))))))))), ((cell_far (p := ⟨gb345, _, none⟩) NB344_345.out _).trans (((cell_far (p := ⟨gb345, _, none⟩) NB344_345.out _).trans (((cell_far (p := ⟨gb345, _, none⟩) NB344_345.out _).trans (((cell_far (p := ⟨gb345, _, none⟩) NB344_345.out _).trans (((cell_far (p := ⟨gb345, _, none⟩) NB344_345.out _).trans (hHeld.2.2.2.1)))))))))), ((cell_far (p := ⟨gb345, _, none⟩) NB344_345.out _).trans (((cell_far (p := ⟨gb345, _, none⟩) NB344_345.out _).trans (((cell_far (p := ⟨gb345, _, none⟩) NB344_345.out _).trans (((cell_far (p := ⟨gb345, _, none⟩) NB344_345.out _).trans (((cell_far (p := ⟨gb345, _, none⟩) NB344_345.out _).trans (hHeld.2.2.2.2))))))))))⟩ (fun hHeld => ?_)
     clear hK K
     refine done_ (done_of HT_.out (by kernel_rfl)) ?_
     try go_wp2
     refine bodyPost_ret (results_cell_row rfl _ _ gb345 34 #[.int .i64 a0_0, .slice Ao16 y346.length co16, .slice Ao15 y349.length co15, .slice Ao14 y352.length co14, .slice Ao13 y355.length co13] (0, 0) _ rfl (by (with_reducible repeat (first | refine blk_drewN ?_ _ | refine blk_drew ?_ | refine blk_alloc ?_ _)); refine blk_put (cs := #[.int .i64 a0_0, .slice Ao16 y346.length co16, .slice Ao15 y349.length co15, .slice Ao14 y352.length co14, .slice none 0 0]) ?_ 4 _ rfl; (with_reducible repeat (first | refine blk_drewN ?_ _ | refine blk_drew ?_ | refine blk_alloc ?_ _)); refine blk_put (cs := #[.int .i64 a0_0, .slice Ao16 y346.length co16, .slice Ao15 y349.length co15, .slice none 0 0, .slice none 0 0]) ?_ 3 _ rfl; (with_reducible repeat (first | refine blk_drewN ?_ _ | refine blk_drew ?_ | refine blk_alloc ?_ _)); refine blk_put (cs := #[.int .i64 a0_0, .slice Ao16 y346.length co16, .slice none 0 0, .slice none 0 0, .slice none 0 0]) ?_ 2 _ rfl; (with_reducible repeat (first | refine blk_drewN ?_ _ | refine blk_drew ?_ | refine blk_alloc ?_ _)); refine blk_put (cs := #[.int .i64 a0_0, .slice none 0 0, .slice none 0 0, .slice none 0 0, .slice none 0 0]) ?_ 1 _ rfl; (with_reducible repeat (first | refine blk_drewN ?_ _ | refine blk_drew ?_ | refine blk_alloc ?_ _)); refine blk_put (cs := #[.int .i64 0, .slice none 0 0, .slice none 0 0, .slice none 0 0, .slice none 0 0]) ?_ 0 _ rfl; (with_reducible repeat (first | refine blk_drewN ?_ _ | refine blk_drew ?_ | refine blk_alloc ?_ _)); exact BK345.out) Try.underlying34 rfl (by kernel_rfl)) rfl ?_
     exact ⟨_, _, _, _, by first | rfl | (simp [errW_none, errW_some] <;> rfl) | (simp [*, errW_none, errW_some] <;> rfl), by (with_reducible repeat (first | apply Kd.R_alloc | apply Kd.R_drewN | apply Kd.R_drew)); exact Kd.R_mono (Kd.R_far (p := ⟨gb345, 4, none⟩) (Kd.R_far (p := ⟨gb345, 3, none⟩) (Kd.R_far (p := ⟨gb345, 2, none⟩) (Kd.R_far (p := ⟨gb345, 1, none⟩) (Kd.R_far (p := ⟨gb345, 0, none⟩) (Kd.R_types HO348.out BK345.out (by decide)) (fun _ hk => hk.2) (.int .i64 a0_0)) (fun _ hk => hk.2) (.slice Ao16 y346.length co16)) (fun _ hk => hk.2) (.slice Ao15 y349.length co15)) (fun _ hk => hk.2) (.slice Ao14 y352.length co14)) (fun _ hk => hk.2) (.slice Ao13 y355.length co13)) (fun _ hk => hk.1.2), by (with_reducible repeat (first | apply Kd.R_alloc | apply Kd.R_drewN | apply Kd.R_drew)); exact Kd.R_mono (Kd.R_far (p := ⟨gb345, 4, none⟩) (Kd.R_far (p := ⟨gb345, 3, none⟩) (Kd.R_far (p := ⟨gb345, 2, none⟩) (Kd.R_far (p := ⟨gb345, 1, none⟩) (Kd.R_far (p := ⟨gb345, 0, none⟩) (Kd.R_types HO351.out BK345.out (by decide)) (fun _ hk => hk.2) (.int .i64 a0_0)) (fun _ hk => hk.2) (.slice Ao16 y346.length co16)) (fun _ hk => hk.2) (.slice Ao15 y349.length co15)) (fun _ hk => hk.2) (.slice Ao14 y352.length co14)) (fun _ hk => hk.2) (.slice Ao13 y355.length co13)) (fun _ hk => hk.1), by (with_reducible repeat (first | apply Kd.R_alloc | apply Kd.R_drewN | apply Kd.R_drew)); exact Kd.R_mono (Kd.R_far (p := ⟨gb345, 4, none⟩) (Kd.R_far (p := ⟨gb345, 3, none⟩) (Kd.R_far (p := ⟨gb345, 2, none⟩) (Kd.R_far (p := ⟨gb345, 1, none⟩) (Kd.R_far (p := ⟨gb345, 0, none⟩) (Kd.R_types HO354.out BK345.out (by decide)) (fun _ hk => hk.2) (.int .i64 a0_0)) (fun _ hk => hk.2) (.slice Ao16 y346.length co16)) (fun _ hk => hk.2) (.slice Ao15 y349.length co15)) (fun _ hk => hk.2) (.slice Ao14 y352.length co14)) (fun _ hk => hk.2) (.slice Ao13 y355.length co13)) (fun _ hk => hk.1.2), by (with_reducible repeat (first | apply Kd.R_alloc | apply Kd.R_drewN | apply Kd.R_drew)); exact Kd.R_mono (Kd.R_far (p := ⟨gb345, 4, none⟩) (Kd.R_far (p := ⟨gb345, 3, none⟩) (Kd.R_far (p := ⟨gb345, 2, none⟩) (Kd.R_far (p := ⟨gb345, 1, none⟩) (Kd.R_far (p := ⟨gb345, 0, none⟩) (Kd.R_types HO357.out BK345.out (by decide)) (fun _ hk => hk.2) (.int .i64 a0_0)) (fun _ hk => hk.2) (.slice Ao16 y346.length co16)) (fun _ hk => hk.2) (.slice Ao15 y349.length co15)) (fun _ hk => hk.2) (.slice Ao14 y352.length co14)) (fun _ hk => hk.2) (.slice Ao13 y355.length co13)) (fun _ hk => hk.1), by repeat (first | (with_reducible first | exact HB.out | apply below_alloc | apply pw_below_drewN | apply below_drew1 | refine below_set ?_ GE344.out | refine below_set ?_ GE345.out) | exact HB.out)⟩
    ·rw [if_neg c5] at H
     exact absurd H (by simp)
   ·rw [if_neg c4] at H
    exact absurd H (by simp)
  ·rw [if_neg c3] at H
   exact absurd H (by simp)
 ·rw [if_neg c2] at H
  exact absurd H (by simp)

end Go.Proofs.Ytejmjeanhlkenaa.PB
