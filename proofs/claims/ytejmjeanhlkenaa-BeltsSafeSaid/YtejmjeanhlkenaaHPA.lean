/- Belts that grow one by one: sound; and what starting them one after the other comes to. No program in sight. -/
import Derived.Test.YtejmjeanhlkenaaHPL
import Derived.Test.YtejmjeanhlkenaaCN
namespace Go.Proofs.Ytejmjeanhlkenaa.HandA
open Go.RowKit Go.Proofs.Ytejmjeanhlkenaa.PB Go.Proofs.YtejmjeanhlkenaaW.PrintWords Go.Proofs.YtejmjeanhlkenaaW.PrintLast
set_option linter.unusedVariables false
set_option linter.unusedSimpArgs false
/-- Each belt throws onto an earlier one, or onto none, and is warned of for at most twenty. -/
def Grown (l : List S31) : Prop := ∀ k : Nat, k < l.length → (-1 ≤ up l k ∧ up l k < k) ∧ (0 ≤ warn l k ∧ warn l k ≤ 20)
theorem Grown.nil : Grown [] := fun k hk => by simp at hk
theorem up_push {l : List S31} {b : S31} {k : Nat} : (k < l.length → up (l ++ [b]) k = up l k ∧ warn (l ++ [b]) k = warn l k) ∧ (k = l.length → up (l ++ [b]) k = b.f0 ∧ warn (l ++ [b]) k = b.f1) := by
  constructor
  · intro h
    simp [up, warn, rd_T31, List.getElem?_append_left h]
  · rintro rfl
    simp [up, warn, rd_T31]
theorem Grown.push {l : List S31} {b : S31} (h : Grown l) (h0 : -1 ≤ b.f0 ∧ b.f0 < l.length) (h1 : 0 ≤ b.f1 ∧ b.f1 ≤ 20) : Grown (l ++ [b]) := by
  intro k hk
  simp only [List.length_append, List.length_cons, List.length_nil] at hk
  by_cases e : k < l.length
  · obtain ⟨e1, e2⟩ := (up_push (b := b)).1 e
    rw [e1, e2]
    exact h k e
  · have e : k = l.length := by omega
    obtain ⟨e1, e2⟩ := (up_push (b := b)).2 e
    rw [e1, e2, e]
    exact ⟨h0, h1⟩
theorem Grown.ends {l : List S31} (h : Grown l) : ∀ k : Nat, k < l.length → ends l (k + 1) (k : Int) = true := by
  intro k
  induction k using Nat.strongRecOn with
  | _ k ih =>
    intro hk
    obtain ⟨⟨u0, u1⟩, -⟩ := h k hk
    simp only [HandA.ends, Bool.or_eq_true]
    refine .inr ?_
    by_cases hu : up l k < 0
    · exact ends_neg hu
    · obtain ⟨u, hu2⟩ : ∃ u : Nat, up l k = (u : Int) := ⟨(up l k).toNat, by omega⟩
      rw [hu2]
      exact ends_more (by omega) (ih u (by omega) (by omega))
theorem Grown.snd {l : List S31} (h : Grown l) (h1 : 1 ≤ l.length) (h2 : l.length ≤ 24) : Snd l := by
  have nat : ∀ i : Int, 0 ≤ i → i < l.length → ∃ k : Nat, i = (k : Int) ∧ k < l.length := fun i i0 i1 => ⟨i.toNat, by omega, by omega⟩
  refine ⟨⟨h1, h2⟩, ?_, ?_, ?_, ?_⟩
  · intro i i0 i1
    obtain ⟨k, rfl, hk⟩ := nat i i0 i1
    have := (h k hk).1
    omega
  · intro i i0 i1
    obtain ⟨k, rfl, hk⟩ := nat i i0 i1
    have := (h k hk).1
    omega
  · intro i i0 i1
    obtain ⟨k, rfl, hk⟩ := nat i i0 i1
    have := (h k hk).2
    omega
  · intro i i0 i1
    obtain ⟨k, rfl, hk⟩ := nat i i0 i1
    exact ends_more (by omega) (h.ends k hk)
theorem zero_vl {l : List S31} (hs : Snd l) : Vl l (zeroLn l.length) := by
  refine vl_of hs ⟨by simp [zeroLn], by simp [zeroLn], by simp [zeroLn], by simp [zeroLn]⟩ ⟨by simp [zeroLn], by simp [zeroLn]⟩ fun k hk => ?_
  have r0 : rd (zeroLn l.length).st (k : Int) = 0 := by simp [zeroLn, rd, List.getElem?_replicate, hk]
  have r1 : rd (zeroLn l.length).si (k : Int) = 0 := by simp [zeroLn, rd, List.getElem?_replicate, hk]
  refine ⟨by omega, ⟨by omega, ?_⟩, fun hne => absurd r0 hne⟩
  rw [r1]
  show (0 : Int) ≤ 0
  omega
/-- The first belts run, the others stand; none is pulled or held. -/
structure Goes (l : List S31) (i : Nat) (x : Ln) : Prop where
  vl : Vl l x
  on : ∀ j : Nat, j < i → rd x.st j = 2
  off : ∀ j : Nat, i ≤ j → j < l.length → rd x.st j = 0
  pu : ∀ j : Nat, j < l.length → rdOf false x.pu j = false
  he : ∀ j : Nat, j < l.length → rdOf false x.he j = false
  tm : x.tm ≤ 20 * i
theorem goes_zero {l : List S31} (hs : Snd l) : Goes l 0 (zeroLn l.length) := by
  refine ⟨zero_vl hs, fun j hj => absurd hj (by omega), fun j _ hj => ?_, fun j hj => ?_, fun j hj => ?_, by simp [zeroLn]⟩
  · simp [zeroLn, rd, List.getElem?_replicate, hj]
  · simp [zeroLn, rdOf, List.getElem?_replicate, hj]
  · simp [zeroLn, rdOf, List.getElem?_replicate, hj]
/-- A belt is started. -/
def begun (x : Ln) (i : Nat) : Ln := { x with st := x.st.set i 1, si := x.si.set i x.tm }
theorem goes_start {l : List S31} {i : Nat} {x : Ln} (hg : Grown l) (h : Goes l i x) (hi : i < l.length) : startF l x (i : Int) = (begun x i, 0) := by
  have hc : chk l x (i : Int) = 0 := by
    unfold chk
    rw [if_pos (vlB_iff.2 h.vl), if_pos ⟨by omega, by omega⟩]
  unfold startF
  rw [if_neg (by rw [hc]; simp), if_neg (by rw [h.off i (by omega) hi]; simp), if_neg (by rw [h.pu i hi, h.he i hi]; simp), if_neg]
  · rw [Int.toNat_natCast]
    rfl
  · rintro ⟨hu, hne⟩
    obtain ⟨u, hu2⟩ : ∃ u : Nat, up l i = (u : Int) := ⟨(up l i).toNat, by omega⟩
    have := (hg i hi).1.2
    rw [hu2] at hne
    exact hne (h.on u (by omega))
theorem begun_vl {l : List S31} {i : Nat} {x : Ln} (hg : Grown l) (h : Goes l i x) (hi : i < l.length) : Vl l (begun x i) :=
  start_vl h.vl hi (h.off i (by omega) hi) (h.pu i hi) (h.he i hi) fun hu => by
    obtain ⟨u, hu2⟩ : ∃ u : Nat, up l i = (u : Int) := ⟨(up l i).toNat, by omega⟩
    have := (hg i hi).1.2
    rw [hu2]
    exact h.on u (by omega)
theorem goes_wait {l : List S31} {i : Nat} {x : Ln} (hg : Grown l) (h : Goes l i x) (hi : i < l.length) (h24 : l.length ≤ 24) :
    waitG l (begun x i) (x.tm + warn l i) = (waitN l (x.tm + warn l i) l.length (begun x i), 0) ∧ Goes l (i + 1) (waitN l (x.tm + warn l i) l.length (begun x i)) := by
  have hv := begun_vl hg h hi
  have hw := (hg i hi).2
  have htm := h.tm
  have ht0 := h.vl.tm
  have e1 := h.vl.len.e1
  have e2 := h.vl.len.e2
  have hb : (begun x i).tm ≤ x.tm + warn l i ∧ x.tm + warn l i ≤ 2147483648 := ⟨by show x.tm ≤ _; omega, by omega⟩
  have hst : ∀ u : Nat, u < l.length → rd (waitN l (x.tm + warn l i) l.length (begun x i)).st (u : Int) = if u < l.length ∧ rd (begun x i).st (u : Int) = 1 ∧ (begun x i).si.getD u 0 + warn l u ≤ x.tm + warn l i then 2 else rd (begun x i).st (u : Int) :=
    fun u hu => rd_mapIdx (by show u < (x.st.set i 1).length; rw [List.length_set]; omega)
  have hset : ∀ u : Nat, rd (begun x i).st (u : Int) = if u = i then 1 else rd x.st (u : Int) := fun u => rd_setAt (by omega)
  have hsi : (begun x i).si.getD i 0 = x.tm := by
    have : rd (begun x i).si (i : Int) = if i = i then x.tm else rd x.si (i : Int) := rd_setAt (by omega)
    rw [if_pos rfl] at this
    simpa [rd] using this
  refine ⟨?_, waitN_vl hv hb.1 hb.2, fun j hj => ?_, fun j hj hj2 => ?_, h.pu, h.he, ?_⟩
  · unfold waitG
    rw [if_neg (by rw [vlB_iff.2 hv]; simp), if_neg (fun hn => hn hb)]
  · rw [hst j (by omega), hset j]
    by_cases e : j = i
    · subst e
      rw [if_pos rfl, if_pos ⟨hi, rfl, by rw [hsi]; omega⟩]
    · rw [if_neg e, h.on j (by omega), if_neg (by omega)]
  · rw [hst j hj2, hset j, if_neg (show ¬ j = i by omega), h.off j (by omega) hj2, if_neg (by omega)]
  · show x.tm + warn l i ≤ _
    omega
/-- Of belts which all run a pulled cord stops those that throw onto it, and it. -/
theorem goes_pull {l : List S31} {x : Ln} {k : Nat} (h : Goes l l.length x) (hk : k < l.length) : pullG l x (k : Int) = (pullF l (k : Int) x, 0) ∧ (pullF l (k : Int) x).st.length = l.length ∧ ∀ j : Nat, j < l.length → rd (pullF l (k : Int) x).st (j : Int) = if hit l (k : Int) (j : Int) = true then 0 else 2 := by
  have hc : chk l x (k : Int) = 0 := by
    unfold chk
    rw [if_pos (vlB_iff.2 h.vl), if_pos ⟨by omega, by omega⟩]
  have e1 := h.vl.len.e1
  refine ⟨?_, by simp [pullF, stopF, stopN, stopSt, e1], fun j hj => ?_⟩
  · unfold pullG
    rw [if_neg (by rw [hc]; simp)]
  · have : rd (pullF l (k : Int) x).st (j : Int) = if j < l.length ∧ hit l (k : Int) (j : Int) = true then 0 else rd x.st (j : Int) := rd_mapIdx (by omega)
    rw [this, h.on j hj]
    by_cases hh : hit l (k : Int) (j : Int) = true
    · rw [if_pos ⟨hj, hh⟩, if_pos hh]
    · rw [if_neg (fun q => hh q.2), if_neg hh]
end Go.Proofs.Ytejmjeanhlkenaa.HandA
