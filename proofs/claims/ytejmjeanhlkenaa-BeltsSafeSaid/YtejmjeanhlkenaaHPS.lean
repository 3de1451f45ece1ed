/- A belt that begins to run was warned of: what is kept of the times. No program in sight. -/
import Derived.Test.YtejmjeanhlkenaaHPA
namespace Go.Proofs.Ytejmjeanhlkenaa.HandA
open Go.RowKit Go.Proofs.Ytejmjeanhlkenaa.PB Go.Proofs.YtejmjeanhlkenaaW.PrintWords Go.Proofs.YtejmjeanhlkenaaW.PrintLast
set_option linter.unusedVariables false
set_option linter.unusedSimpArgs false
/-- Each belt that is warned of has its time written down. -/
def Wok (l : List S31) (X : Ln) (Wd : List Int) : Prop := Wd.length = l.length ∧ ∀ k : Nat, k < l.length → rd X.st (k : Int) = 1 → rd Wd (k : Int) = rd X.si (k : Int)
/-- .. and of those from n on, each that runs ran before, or was warned of for its time. -/
def Chk (l : List S31) (X0 Y : Ln) (Wd : List Int) (n : Nat) : Prop := Wd.length = l.length ∧ ∀ k : Nat, k < l.length → (rd Y.st (k : Int) = 1 → rd Wd (k : Int) = rd Y.si (k : Int)) ∧ (n ≤ k → rd Y.st (k : Int) = 2 → rd X0.st (k : Int) ≠ 2 → 0 ≤ rd Wd (k : Int) ∧ rd Wd (k : Int) + warn l (k : Int) ≤ Y.tm)
variable {l : List S31} {X X0 Y : Ln} {Wd : List Int}
theorem Chk.wok {n : Nat} (h : Chk l X0 Y Wd n) : Wok l Y Wd := ⟨h.1, fun k hk => (h.2 k hk).1⟩
theorem Chk.next {n : Nat} (h : Chk l X0 Y Wd n) : Chk l X0 Y Wd (n + 1) := ⟨h.1, fun k hk => ⟨(h.2 k hk).1, fun hn => (h.2 k hk).2 (by omega)⟩⟩
theorem Chk.clear {n : Nat} (h : Chk l X0 Y Wd n) (hn : n < l.length) (h0 : rd Y.st (n : Int) = 0) : Chk l X0 Y (Wd.set n (-1)) (n + 1) := by
  obtain ⟨e, h⟩ := h
  refine ⟨by rw [List.length_set]; exact e, fun k hk => ⟨fun h1 => ?_, fun hk2 => ?_⟩⟩
  · rw [rd_setAt (by omega), if_neg (fun e => by subst e; omega)]
    exact (h k hk).1 h1
  · rw [rd_setAt (by omega), if_neg (by omega)]
    exact (h k hk).2 (by omega)
theorem Wok.zero {Wd : List Int} (hw : Wd.length = l.length) : Wok l (zeroLn l.length) Wd := ⟨hw, fun k hk h1 => by
  have : rd (zeroLn l.length).st (k : Int) = 0 := by simp [zeroLn, rd, List.getElem?_replicate, hk]
  omega⟩
theorem Wok.step (h : Wok l X Wd) (hs : ∀ k : Nat, k < l.length → (rd Y.st (k : Int) = 1 → rd X.st (k : Int) = 1 ∧ rd Y.si (k : Int) = rd X.si (k : Int)) ∧ (rd Y.st (k : Int) = 2 → rd X.st (k : Int) = 2 ∨ (rd X.st (k : Int) = 1 ∧ 0 ≤ rd X.si (k : Int) ∧ rd X.si (k : Int) + warn l (k : Int) ≤ Y.tm))) : Chk l X Y Wd 0 := by
  refine ⟨h.1, fun k hk => ⟨fun h1 => ?_, fun _ h2 h3 => ?_⟩⟩
  · obtain ⟨a, b⟩ := (hs k hk).1 h1
    rw [b]
    exact h.2 k hk a
  · rcases (hs k hk).2 h2 with a | ⟨a, b, c⟩
    · exact absurd a h3
    · rw [h.2 k hk a]
      exact ⟨b, c⟩
theorem Wok.same (h : Wok l X Wd) (h1 : Y.st = X.st) (h2 : Y.si = X.si) : Chk l X Y Wd 0 :=
  h.step fun k hk => by
    rw [h1, h2]
    exact ⟨fun a => ⟨a, rfl⟩, fun a => .inl a⟩
theorem Wok.stops (hv : Vl l X) (h : Wok l X Wd) (i : Int) (h1 : Y.st = (stopF l i X).st) (h2 : Y.si = (stopF l i X).si) : Chk l X Y Wd 0 := by
  obtain ⟨e1, e2, e3, e4⟩ := hv.len
  refine h.step fun k hk => ?_
  have hst : rd (stopF l i X).st (k : Int) = if k < l.length ∧ hit l i k = true then 0 else rd X.st (k : Int) := rd_mapIdx (by omega)
  have hsi : rd (stopF l i X).si (k : Int) = if k < l.length ∧ hit l i k = true ∧ X.st.getD k 0 ≠ 0 then X.tm else rd X.si (k : Int) := rd_mapIdx (by omega)
  rw [h1, h2, hst, hsi]
  by_cases hh : hit l i (k : Int) = true
  · rw [if_pos ⟨hk, hh⟩]
    exact ⟨fun a => absurd a (by omega), fun a => absurd a (by omega)⟩
  · rw [if_neg (fun q => hh q.2), if_neg (fun q => hh q.2.1)]
    exact ⟨fun a => ⟨a, rfl⟩, fun a => .inl a⟩
theorem Wok.waits (hv : Vl l X) (h : Wok l X Wd) (t : Int) : Chk l X (waitG l X t).1 Wd 0 := by
  unfold waitG
  split
  · exact h.same rfl rfl
  · split
    · exact h.same rfl rfl
    · rename_i ht
      obtain ⟨e1, e2, e3, e4⟩ := hv.len
      refine h.step fun k hk => ?_
      have hst : rd (waitN l t l.length X).st (k : Int) = if k < l.length ∧ rd X.st (k : Int) = 1 ∧ X.si.getD k 0 + warn l k ≤ t then 2 else rd X.st (k : Int) := rd_mapIdx (by omega)
      have hsi : rd (waitN l t l.length X).si (k : Int) = if k < l.length ∧ X.st.getD k 0 = 1 ∧ rd X.si (k : Int) + warn l k ≤ t then rd X.si (k : Int) + warn l k else rd X.si (k : Int) := rd_mapIdx (by omega)
      have g1 : X.st.getD k 0 = rd X.st (k : Int) := by simp [rd]
      have g2 : X.si.getD k 0 = rd X.si (k : Int) := by simp [rd]
      have htm : (waitN l t l.length X).tm = t := rfl
      have hb := (hv.row (k : Int) (by omega) (by omega)).2.1
      rw [g2] at hst
      rw [g1] at hsi
      rw [hst, hsi, htm]
      by_cases hh : rd X.st (k : Int) = 1 ∧ rd X.si (k : Int) + warn l k ≤ t
      · rw [if_pos ⟨hk, hh⟩]
        exact ⟨fun a => absurd a (by omega), fun _ => .inr ⟨hh.1, hb.1, hh.2⟩⟩
      · rw [if_neg (fun q => hh q.2), if_neg (fun q => hh q.2)]
        exact ⟨fun a => ⟨a, rfl⟩, fun a => .inl a⟩
theorem Wok.stopG (hv : Vl l X) (h : Wok l X Wd) (i : Int) : Chk l X (stopG l X i).1 Wd 0 := by
  unfold HandA.stopG
  split
  · exact h.same rfl rfl
  · exact h.stops hv i rfl rfl
theorem Wok.pullG (hv : Vl l X) (h : Wok l X Wd) (i : Int) : Chk l X (pullG l X i).1 Wd 0 := by
  unfold HandA.pullG
  split
  · exact h.same rfl rfl
  · exact h.stops hv i rfl rfl
theorem Wok.restG (hv : Vl l X) (h : Wok l X Wd) (i : Int) : Chk l X (restG l X i).1 Wd 0 := by
  unfold HandA.restG
  split
  · exact h.same rfl rfl
  · split
    · exact h.same rfl rfl
    · exact h.same rfl rfl
theorem Wok.holdG (hv : Vl l X) (h : Wok l X Wd) (i : Int) (b : Bool) : Chk l X (holdG l X i b).1 Wd 0 := by
  unfold HandA.holdG
  split
  · exact h.same rfl rfl
  · unfold holdF
    split
    · exact h.stops hv i rfl rfl
    · exact h.same rfl rfl
/-- Start begins to warn, or changes nothing. -/
theorem start_two (l : List S31) (X : Ln) (i : Nat) : (∃ e, e ≠ 0 ∧ startF l X (i : Int) = (X, e)) ∨ (startF l X (i : Int) = (begun X i, 0) ∧ rd X.st (i : Int) = 0) := by
  unfold startF
  split
  · rename_i h
    exact .inl ⟨_, h, rfl⟩
  · split
    · exact .inl ⟨10, by omega, rfl⟩
    · rename_i h0
      split
      · exact .inl ⟨51, by omega, rfl⟩
      · split
        · exact .inl ⟨10, by omega, rfl⟩
        · exact .inr ⟨by rw [Int.toNat_natCast]; rfl, Decidable.not_not.1 h0⟩
theorem Wok.begun {i : Nat} (hv : Vl l X) (h : Wok l X Wd) (hi : i < l.length) (h0 : rd X.st (i : Int) = 0) : Chk l X (begun X i) (Wd.set i X.tm) 0 := by
  obtain ⟨e1, e2, e3, e4⟩ := hv.len
  have hw := h.1
  refine ⟨by rw [List.length_set]; exact hw, fun k hk => ?_⟩
  have hst : rd (HandA.begun X i).st (k : Int) = if k = i then 1 else rd X.st (k : Int) := rd_setAt (by omega)
  have hsi : rd (HandA.begun X i).si (k : Int) = if k = i then X.tm else rd X.si (k : Int) := rd_setAt (by omega)
  rw [hst, hsi, rd_setAt (by omega)]
  by_cases e : k = i
  · rw [if_pos e, if_pos e, if_pos e]
    exact ⟨fun _ => rfl, fun _ a => absurd a (by omega)⟩
  · rw [if_neg e, if_neg e, if_neg e]
    exact ⟨h.2 k hk, fun _ a b => absurd a b⟩
end Go.Proofs.Ytejmjeanhlkenaa.HandA
