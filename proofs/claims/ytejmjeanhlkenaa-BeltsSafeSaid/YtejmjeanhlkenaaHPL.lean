/- What the functions do to a valid line: it stays valid. No program in sight. -/
import Derived.Test.YtejmjeanhlkenaaCI
namespace Go.Proofs.Ytejmjeanhlkenaa.HandA
open Go.RowKit Go.Proofs.Ytejmjeanhlkenaa.PB Go.Proofs.YtejmjeanhlkenaaW.PrintWords Go.Proofs.YtejmjeanhlkenaaW.PrintLast
set_option linter.unusedVariables false
set_option linter.unusedSimpArgs false
theorem thr_less {l : List S31} {i : Int} : ∀ (n m : Nat) (j : Int), n ≤ m → ends l n j = true → thr l m j i = true → thr l n j i = true := by
  intro n
  induction n with
  | zero =>
    intro m j hm he ht
    have hj : j < 0 := by simpa [ends] using he
    cases m with
    | zero => exact ht
    | succ m =>
      simp only [thr, Bool.and_eq_true, decide_eq_true_eq] at ht
      omega
  | succ n ih =>
    intro m j hm he ht
    obtain ⟨m, rfl⟩ : ∃ q, m = q + 1 := ⟨m - 1, by omega⟩
    simp only [thr, Bool.and_eq_true, decide_eq_true_eq, Bool.or_eq_true] at ht ⊢
    obtain ⟨hj, h⟩ := ht
    refine ⟨hj, ?_⟩
    rcases h with h | h
    · exact .inl h
    · obtain ⟨q, hq, he'⟩ := ends_step he hj
      have : q = n := by omega
      subst this
      exact .inr (ih m _ (by omega) he' h)
theorem hit_up {l : List S31} (hs : Snd l) {i k : Int} (k0 : 0 ≤ k) (k1 : k < l.length) (hu : 0 ≤ up l k) (h : hit l i (up l k) = true) : hit l i k = true := by
  have hu1 : up l k < l.length := (hs.inb k k0 k1).2
  have he : ends l l.length (up l k) = true := ends_up hs k0 k1
  obtain ⟨m, hm, he2⟩ := ends_step he hu
  unfold hit at h ⊢
  rw [Bool.or_eq_true] at h ⊢
  refine .inr ?_
  unfold throwsF
  rw [hm]
  simp only [thr, Bool.and_eq_true, decide_eq_true_eq, Bool.or_eq_true]
  refine ⟨hu, ?_⟩
  rcases h with h | h
  · exact .inl h
  · unfold throwsF at h
    exact .inr (thr_less m l.length _ (by omega) he2 h)
theorem rd_mapIdx {f : Nat → Int → Int} {xs : List Int} {k : Nat} (h : k < xs.length) : rd (xs.mapIdx f) (k : Int) = f k (rd xs (k : Int)) := by
  simp [rd, h]
theorem rd_setAt {xs : List Int} {i k : Nat} {v : Int} (h : i < xs.length) : rd (xs.set i v) (k : Int) = if k = i then v else rd xs (k : Int) := by
  by_cases e : k = i
  · subst e
    simp [rd, h]
  · rw [if_neg e]
    simp [rd, List.getElem?_set, Ne.symm e]
theorem rdOf_setAt {xs : List Bool} {i k : Nat} {v : Bool} (h : i < xs.length) : rdOf false (xs.set i v) (k : Int) = if k = i then v else rdOf false xs (k : Int) := by
  by_cases e : k = i
  · subst e
    simp [rdOf, h]
  · rw [if_neg e]
    simp [rdOf, List.getElem?_set, Ne.symm e]
/-- Validity, by the belts' numbers. -/
theorem vl_of {l : List S31} {x : Ln} (hs : Snd l) (hl : Lens x l.length) (ht : 0 ≤ x.tm ∧ x.tm ≤ 2147483648) (hr : ∀ k : Nat, k < l.length → LineOk l x (k : Int)) : Vl l x :=
  ⟨hs, hl, ht, fun i h0 h1 => by
    obtain ⟨k, rfl⟩ : ∃ k : Nat, i = (k : Int) := ⟨i.toNat, by omega⟩
    exact hr k (by omega)⟩
theorem up_nat {l : List S31} {x : Ln} (h : Vl l x) {k : Nat} (hk : k < l.length) (hu : 0 ≤ up l k) : ∃ u : Nat, up l k = (u : Int) ∧ u < l.length ∧ u ≠ k := by
  have h1 := (h.snd.inb (k : Int) (by omega) (by omega)).2
  have h2 := h.snd.self (k : Int) (by omega) (by omega)
  exact ⟨(up l k).toNat, by omega, by omega, by omega⟩
theorem stopF_vl {l : List S31} {x : Ln} (i : Int) (h : Vl l x) : Vl l (stopF l i x) := by
  obtain ⟨e1, e2, e3, e4⟩ := h.len
  refine vl_of h.snd ⟨by simp [stopF, stopN, stopSt, e1], by simp [stopF, stopN, stopSi, e2], e3, e4⟩ h.tm fun k hk => ?_
  have hst : ∀ u : Nat, u < l.length → rd (stopF l i x).st (u : Int) = if u < l.length ∧ hit l i u = true then 0 else rd x.st (u : Int) := fun u hu => rd_mapIdx (by omega)
  have hsi : rd (stopF l i x).si (k : Int) = if k < l.length ∧ hit l i k = true ∧ x.st.getD k 0 ≠ 0 then x.tm else rd x.si (k : Int) := rd_mapIdx (by omega)
  obtain ⟨⟨a1, a2⟩, ⟨b1, b2⟩, c⟩ := h.row (k : Int) (by omega) (by omega)
  have htm := h.tm
  refine ⟨?_, ?_, fun hne => ?_⟩
  · rw [hst k hk]; split <;> omega
  · rw [hsi]; show 0 ≤ _ ∧ _ ≤ x.tm; split <;> omega
  · rw [hst k hk] at hne
    by_cases hh : k < l.length ∧ hit l i k = true
    · rw [if_pos hh] at hne; exact absurd rfl hne
    · rw [if_neg hh] at hne
      obtain ⟨c1, c2, c3⟩ := c hne
      refine ⟨c1, c2, fun hu => ?_⟩
      obtain ⟨u, hu1, hu2, -⟩ := up_nat h hk hu
      have := c3 hu
      rw [hu1] at this ⊢
      rw [hst u hu2, if_neg]
      · exact this
      · rintro ⟨-, hhu⟩
        rw [← hu1] at hhu
        exact hh ⟨hk, hit_up h.snd (by omega) (by omega) hu hhu⟩
theorem waitN_vl {l : List S31} {x : Ln} {t : Int} (h : Vl l x) (h1 : x.tm ≤ t) (h2 : t ≤ 2147483648) : Vl l (waitN l t l.length x) := by
  obtain ⟨e1, e2, e3, e4⟩ := h.len
  have htm := h.tm
  refine vl_of h.snd ⟨by simp [waitN, waitSt, e1], by simp [waitN, waitSi, e2], e3, e4⟩ ⟨by show 0 ≤ t; omega, h2⟩ fun k hk => ?_
  have hst : ∀ u : Nat, u < l.length → rd (waitN l t l.length x).st (u : Int) = if u < l.length ∧ rd x.st (u : Int) = 1 ∧ x.si.getD u 0 + warn l u ≤ t then 2 else rd x.st (u : Int) := fun u hu => rd_mapIdx (by omega)
  have hsi : rd (waitN l t l.length x).si (k : Int) = if k < l.length ∧ x.st.getD k 0 = 1 ∧ rd x.si (k : Int) + warn l k ≤ t then rd x.si (k : Int) + warn l k else rd x.si (k : Int) := rd_mapIdx (by omega)
  obtain ⟨⟨a1, a2⟩, ⟨b1, b2⟩, c⟩ := h.row (k : Int) (by omega) (by omega)
  have hw := h.snd.wn (k : Int) (by omega) (by omega)
  refine ⟨?_, ?_, fun hne => ?_⟩
  · rw [hst k hk]; split <;> omega
  · rw [hsi]; show 0 ≤ _ ∧ _ ≤ t; split <;> omega
  · have hne' : rd x.st (k : Int) ≠ 0 := by
      rw [hst k hk] at hne
      intro h0
      rw [if_neg (by omega)] at hne
      exact hne h0
    obtain ⟨c1, c2, c3⟩ := c hne'
    refine ⟨c1, c2, fun hu => ?_⟩
    obtain ⟨u, hu1, hu2, -⟩ := up_nat h hk hu
    have := c3 hu
    rw [hu1] at this ⊢
    rw [hst u hu2, if_neg (by omega)]
    exact this
theorem setT_vl {l : List S31} {x : Ln} {i : Nat} {b : Bool} (h : Vl l x) (hi : i < l.length) (h0 : rd x.st (i : Int) = 0 ∨ b = false) : Vl l { x with pu := x.pu.set i b } ∧ Vl l { x with he := x.he.set i b } := by
  obtain ⟨e1, e2, e3, e4⟩ := h.len
  constructor
  · refine vl_of h.snd ⟨e1, e2, by simp [e3], e4⟩ h.tm fun k hk => ?_
    obtain ⟨a, b', c⟩ := h.row (k : Int) (by omega) (by omega)
    refine ⟨a, b', fun hne => ?_⟩
    obtain ⟨c1, c2, c3⟩ := c hne
    refine ⟨?_, c2, c3⟩
    show rdOf false (x.pu.set i b) (k : Int) = false
    rw [rdOf_setAt (by omega)]
    split
    · rename_i e
      subst e
      rcases h0 with h0 | h0
      · exact absurd h0 hne
      · exact h0
    · exact c1
  · refine vl_of h.snd ⟨e1, e2, e3, by simp [e4]⟩ h.tm fun k hk => ?_
    obtain ⟨a, b', c⟩ := h.row (k : Int) (by omega) (by omega)
    refine ⟨a, b', fun hne => ?_⟩
    obtain ⟨c1, c2, c3⟩ := c hne
    refine ⟨c1, ?_, c3⟩
    show rdOf false (x.he.set i b) (k : Int) = false
    rw [rdOf_setAt (by omega)]
    split
    · rename_i e
      subst e
      rcases h0 with h0 | h0
      · exact absurd h0 hne
      · exact h0
    · exact c2
theorem stopF_at {l : List S31} {x : Ln} {i : Nat} (h : Vl l x) (hi : i < l.length) : rd (stopF l (i : Int) x).st (i : Int) = 0 := by
  have : rd (stopF l (i : Int) x).st (i : Int) = if i < l.length ∧ hit l (i : Int) (i : Int) = true then 0 else rd x.st (i : Int) := rd_mapIdx (by have := h.len.e1; omega)
  rw [this, if_pos ⟨hi, by simp [hit]⟩]
theorem start_vl {l : List S31} {x : Ln} {i : Nat} (h : Vl l x) (hi : i < l.length) (h0 : rd x.st (i : Int) = 0) (hp : rdOf false x.pu (i : Int) = false) (hh : rdOf false x.he (i : Int) = false) (hu : 0 ≤ up l i → rd x.st (up l i) = 2) :
    Vl l { x with st := x.st.set i 1, si := x.si.set i x.tm } := by
  obtain ⟨e1, e2, e3, e4⟩ := h.len
  have htm := h.tm
  refine vl_of h.snd ⟨by simp [e1], by simp [e2], e3, e4⟩ h.tm fun k hk => ?_
  obtain ⟨⟨a1, a2⟩, ⟨b1, b2⟩, c⟩ := h.row (k : Int) (by omega) (by omega)
  refine ⟨?_, ?_, fun hne => ?_⟩
  · show 0 ≤ rd (x.st.set i 1) (k : Int) ∧ rd (x.st.set i 1) (k : Int) ≤ 2
    rw [rd_setAt (by omega)]; split <;> omega
  · show 0 ≤ rd (x.si.set i x.tm) (k : Int) ∧ rd (x.si.set i x.tm) (k : Int) ≤ x.tm
    rw [rd_setAt (by omega)]; split <;> omega
  · have hne' : rd (x.st.set i 1) (k : Int) ≠ 0 := hne
    rw [rd_setAt (by omega)] at hne'
    have key : rdOf false x.pu (k : Int) = false ∧ rdOf false x.he (k : Int) = false ∧ (0 ≤ up l (k : Int) → rd x.st (up l (k : Int)) = 2) := by
      by_cases e : k = i
      · subst e; exact ⟨hp, hh, hu⟩
      · rw [if_neg e] at hne'; exact c hne'
    refine ⟨key.1, key.2.1, fun hu0 => ?_⟩
    obtain ⟨u, hu1, hu2, -⟩ := up_nat h hk hu0
    have := key.2.2 hu0
    show rd (x.st.set i 1) (up l (k : Int)) = 2
    rw [hu1] at this ⊢
    rw [rd_setAt (by omega), if_neg (fun e => by subst e; omega)]
    exact this
/-- Every function keeps a line valid. -/
theorem startG_vl {l : List S31} {x : Ln} (i : Int) (h : Vl l x) : Vl l (startF l x i).1 := by
  unfold startF
  split
  · exact h
  · rename_i hc
    obtain ⟨-, i0, i1⟩ := chk_zero (Decidable.not_not.1 hc)
    obtain ⟨n, rfl⟩ : ∃ n : Nat, i = (n : Int) := ⟨i.toNat, by omega⟩
    split
    · exact h
    · rename_i h0
      split
      · exact h
      · rename_i hp
        split
        · exact h
        · rename_i hu
          rw [Int.toNat_natCast]
          refine start_vl h (by omega) (Decidable.not_not.1 h0) ?_ ?_ fun q => ?_
          · cases hq : rdOf false x.pu (n : Int) with
            | false => rfl
            | true => exact absurd (.inl hq) hp
          · cases hq : rdOf false x.he (n : Int) with
            | false => rfl
            | true => exact absurd (.inr hq) hp
          · exact Decidable.not_not.1 fun hq => hu ⟨q, hq⟩
theorem waitG_vl {l : List S31} {x : Ln} (t : Int) (h : Vl l x) : Vl l (waitG l x t).1 := by
  unfold waitG
  split
  · exact h
  · split
    · exact h
    · rename_i ht
      have ht := Decidable.not_not.1 ht
      exact waitN_vl h ht.1 ht.2
theorem stopG_vl {l : List S31} {x : Ln} (i : Int) (h : Vl l x) : Vl l (stopG l x i).1 := by
  unfold stopG
  split
  · exact h
  · exact stopF_vl i h
theorem pullG_vl {l : List S31} {x : Ln} (i : Int) (h : Vl l x) : Vl l (pullG l x i).1 := by
  unfold pullG
  split
  · exact h
  · rename_i hc
    obtain ⟨-, i0, i1⟩ := chk_zero (Decidable.not_not.1 hc)
    obtain ⟨n, rfl⟩ : ∃ n : Nat, i = (n : Int) := ⟨i.toNat, by omega⟩
    unfold pullF
    rw [Int.toNat_natCast]
    exact (setT_vl (stopF_vl (n : Int) h) (by omega) (.inl (stopF_at h (by omega)))).1
theorem restG_vl {l : List S31} {x : Ln} (i : Int) (h : Vl l x) : Vl l (restG l x i).1 := by
  unfold restG
  split
  · exact h
  · rename_i hc
    obtain ⟨-, i0, i1⟩ := chk_zero (Decidable.not_not.1 hc)
    obtain ⟨n, rfl⟩ : ∃ n : Nat, i = (n : Int) := ⟨i.toNat, by omega⟩
    split
    · exact h
    · unfold restF
      rw [Int.toNat_natCast]
      exact (setT_vl h (by omega) (.inr rfl)).1
theorem holdG_vl {l : List S31} {x : Ln} (i : Int) (b : Bool) (h : Vl l x) : Vl l (holdG l x i b).1 := by
  unfold holdG
  split
  · exact h
  · rename_i hc
    obtain ⟨-, i0, i1⟩ := chk_zero (Decidable.not_not.1 hc)
    obtain ⟨n, rfl⟩ : ∃ n : Nat, i = (n : Int) := ⟨i.toNat, by omega⟩
    unfold holdF
    rw [Int.toNat_natCast]
    split
    · exact (setT_vl (stopF_vl (n : Int) h) (by omega) (.inl (stopF_at h (by omega)))).2
    · exact (setT_vl h (by omega) (.inr rfl)).2
end Go.Proofs.Ytejmjeanhlkenaa.HandA
