import Derived.Test.YtejmjeanhlkenaaCP18
import Derived.Test.YtejmjeanhlkenaaCJ
/- The reference's Above and stop in plain words: the belts that throw onto one; a line with those stopped. -/
namespace Go.Proofs.Ytejmjeanhlkenaa.HandA
set_option linter.unusedSimpArgs false
set_option linter.unusedVariables false
open Go.RowKit Go.Proofs.Ytejmjeanhlkenaa.PB Go.Proofs.YtejmjeanhlkenaaW.PrintWords
theorem thr_fuel {l : List S31} {o : Int} : ∀ {n m : Nat} {j : Int}, ends l n j = true → n ≤ m → thr l m j o = thr l n j o := by
  intro n
  induction n with
  | zero =>
    intro m j h hm
    have hj : j < 0 := by simpa [ends] using h
    rw [thr_neg (by omega), thr_neg (by omega)]
  | succ n ih =>
    intro m j h hm
    obtain ⟨m, rfl⟩ : ∃ q, m = q + 1 := ⟨m - 1, by omega⟩
    by_cases hj : 0 ≤ j
    · obtain ⟨q, hq, he⟩ := ends_step h hj
      have : n = q := by omega
      subst this
      by_cases ho : j = o
      · rw [thr_hit hj ho, thr_hit hj ho]
      · rw [thr_step hj ho, thr_step hj ho]
        exact ih he (by omega)
    · rw [thr_neg hj, thr_neg hj]
theorem reach_ends {l : List S31} {i : Int} : ∀ {n q : Nat} {j : Int}, thr l n j i = true → ends l q j = true → ∃ p, p ≤ q ∧ ends l p i = true := by
  intro n
  induction n with
  | zero => intro q j h; simp [thr] at h
  | succ n ih =>
    intro q j h he
    simp only [thr, Bool.and_eq_true, decide_eq_true_eq, Bool.or_eq_true, beq_iff_eq] at h
    obtain ⟨h0, h | h⟩ := h
    · exact ⟨q, Nat.le_refl _, by rw [← h]; exact he⟩
    · obtain ⟨m, hm, he2⟩ := ends_step he h0
      obtain ⟨p, hp, h3⟩ := ih h he2
      exact ⟨p, by omega, h3⟩
theorem no_return {l : List S31} {i : Int} (h0 : 0 ≤ i) {m : Nat} (he : ends l m i = true) (n : Nat) : thr l n (up l i) i = false := by
  have least : ∀ n, ends l n i = true → ∃ m, ends l m i = true ∧ ∀ q, q < m → ends l q i = false := by
    intro n
    induction n with
    | zero => intro h; exact ⟨0, h, fun q hq => by omega⟩
    | succ n ih =>
      intro h
      by_cases hn : ends l n i = true
      · exact ih hn
      · refine ⟨n + 1, h, fun q hq => ?_⟩
        cases hb : ends l q i with
        | false => rfl
        | true => exact absurd (ends_more (by omega) hb) hn
  obtain ⟨m, hm, hlt⟩ := least m he
  obtain ⟨q, hq, hu⟩ := ends_step hm h0
  cases hb : thr l n (up l i) i with
  | false => rfl
  | true =>
    obtain ⟨p, hp, h3⟩ := reach_ends hb hu
    have := hlt p (by omega)
    rw [h3] at this
    cases this
/-- The belts that throw onto a belt, rising. -/
def abN (l : List S31) (i : Int) (n : Nat) : List Int := ((List.range n).filter fun k : Nat => throwsF l (k : Int) i).map fun k : Nat => (k : Int)
theorem abN_succ (l : List S31) (i : Int) (n : Nat) : abN l i (n + 1) = abN l i n ++ (if throwsF l n i = true then [(n : Int)] else []) := by
  unfold abN
  rw [List.range_succ, List.filter_append, List.map_append]
  congr 1
  by_cases h : throwsF l n i = true
  · simp [h]
  · simp [h]
theorem abN_len (l : List S31) (i : Int) (n : Nat) : (abN l i n).length ≤ n := by
  unfold abN
  have := List.length_filter_le (fun k : Nat => throwsF l (k : Int) i) (List.range n)
  simpa using this
open Classical in
noncomputable def aboveF (l : List S31) (i : Int) : List Int := if Snd l ∧ 0 ≤ i ∧ i < l.length then abN l i l.length else []
theorem ab1_ev (l : List S31) (hs : Snd l) (i : Int) (i0 : 0 ≤ i) (i1 : i < l.length) (kk : Nat) (r : List Int) : ∀ (n : Nat) (j : Int) (acc : List Int), acc.length + n ≤ 1000 → -1 ≤ j → j < l.length → ends l n j = true →
    Ev (fun k => ref39_Above.l0 k l i (acc ++ (if thr l n j i = true then [(kk : Int)] else [])) (wrap64 ((kk : Int) + 1))) r → Ev (fun k => ref39_Above.l1 k l i acc kk j) r := by
  intro n
  induction n with
  | zero =>
    intro j acc ha h0 h1 he hE
    have hj : j < 0 := by simpa [ends] using he
    rw [thr_neg (by omega)] at hE
    refine Ev.step (f := fun k => ref39_Above.l0 k l i acc (wrap64 ((kk : Int) + 1))) (fun k => ?_) (by simpa using hE)
    simp only [ref39_Above.l1]
    rw [if_neg (by omega)]
  | succ n ih =>
    intro j acc ha h0 h1 he hE
    by_cases hj : 0 ≤ j
    · obtain ⟨m, hm, he2⟩ := ends_step he hj
      have : n = m := by omega
      subst this
      have hu := hs.inb j hj h1
      by_cases ho : j = i
      · rw [thr_hit hj ho] at hE
        have hno : thr l n (up l j) i = false := by rw [ho]; exact no_return i0 (hs.en i i0 i1) n
        refine Ev.step (f := fun k => ref39_Above.l1 k l i (acc ++ [(kk : Int)]) kk (up l j)) (fun k => ?_) ?_
        · simp only [ref39_Above.l1]
          rw [if_pos (by omega), if_pos ho, if_pos (by omega), if_pos hj, if_pos h1]
          rfl
        · refine ih (up l j) (acc ++ [(kk : Int)]) (by simp; omega) hu.1 hu.2 he2 ?_
          rw [hno]
          simpa using hE
      · rw [thr_step hj ho] at hE
        refine Ev.step (f := fun k => ref39_Above.l1 k l i acc kk (up l j)) (fun k => ?_) (ih (up l j) acc (by omega) hu.1 hu.2 he2 hE)
        simp only [ref39_Above.l1]
        rw [if_pos (by omega), if_neg ho, if_pos hj, if_pos h1]
        rfl
    · rw [thr_neg hj] at hE
      refine Ev.step (f := fun k => ref39_Above.l0 k l i acc (wrap64 ((kk : Int) + 1))) (fun k => ?_) (by simpa using hE)
      simp only [ref39_Above.l1]
      rw [if_neg (by omega)]
theorem ab0_ev (l : List S31) (hs : Snd l) (i : Int) (i0 : 0 ≤ i) (i1 : i < l.length) : ∀ (d n : Nat), n + d = l.length → Ev (fun k => ref39_Above.l0 k l i (abN l i n) (n : Int)) (abN l i l.length) := by
  intro d
  have hl := hs.len
  induction d with
  | zero =>
    intro n hn
    obtain rfl : n = l.length := by omega
    refine Ev.step (f := fun _ => some (abN l i l.length)) (fun k => ?_) (Ev.now _)
    simp only [ref39_Above.l0]
    rw [if_neg (by omega)]
  | succ d ih =>
    intro n hn
    have hal := abN_len l i n
    have hu := hs.inb n (by omega) (by omega)
    refine Ev.step (f := fun k => ref39_Above.l1 k l i (abN l i n) (n : Int) (up l n)) (fun k => ?_) (ab1_ev l hs i i0 i1 n _ l.length (up l n) (abN l i n) (by omega) hu.1 hu.2 (ends_up hs (by omega) (by omega)) ?_)
    · simp only [ref39_Above.l0]
      rw [if_pos (by omega), if_pos (by omega)]
      rfl
    · have := ih (n + 1) (by omega)
      rw [abN_succ] at this
      have hw : wrap64 ((n : Int) + 1) = ((n + 1 : Nat) : Int) := by rw [w64 (by omega) (by omega)]; omega
      rw [hw]
      exact this
theorem rabove_ev (l : List S31) (hfit : Fit l.length) (i : Int) : Ev (fun k => ref39_Above.f k l i) (aboveF l i) := by
  obtain ⟨b, hb, hiff⟩ := rsound_ev l hfit
  have bad : ∀ (h : ¬ (Snd l ∧ 0 ≤ i ∧ i < l.length)), Ev (fun k => ref39_Above.j0 k l i true) (aboveF l i) := fun h => by
    unfold aboveF
    rw [if_neg h]
    refine Ev.step (f := fun _ => some []) (fun k => ?_) (Ev.now _)
    simp [ref39_Above.j0]
  unfold ref39_Above.f
  refine Ev.bind hb ?_
  by_cases h1 : b = true
  · simp only [if_pos h1]
    by_cases h2 : i < 0
    · simp only [if_pos h2]
      exact bad (by omega)
    · simp only [if_neg h2]
      by_cases h3 : i ≥ l.length
      · rw [decide_eq_true h3]
        exact bad (by omega)
      · rw [decide_eq_false h3]
        unfold aboveF
        have hs := hiff.1 h1
        rw [if_pos ⟨hs, by omega, by omega⟩]
        refine Ev.step (f := fun k => ref39_Above.l0 k l i (abN l i 0) ((0 : Nat) : Int)) (fun k => ?_) (ab0_ev l hs i (by omega) (by omega) l.length 0 (by omega))
        simp [ref39_Above.j0, abN]
  · simp only [if_neg h1]
    exact bad (fun h => h1 (hiff.2 h.1))
/-- One belt is stopped. -/
def stop1 (k : Int) (x : Ln) : Ln := if rd x.st k = 0 then x else { x with st := x.st.set k.toNat 0, si := x.si.set k.toNat x.tm }
def stopL (ks : List Int) (x : Ln) : Ln := ks.foldl (fun x k => stop1 k x) x
theorem stop1_lens {k : Int} {x : Ln} {N : Nat} (h : Lens x N) : Lens (stop1 k x) N := by
  unfold stop1
  split
  · exact h
  · exact ⟨by simp [h.e1], by simp [h.e2], h.e3, h.e4⟩
theorem stopL_ev (ks : List Int) (N : Nat) (hN : N ≤ 1000) (hlen : ks.length ≤ 1000) (hks : ∀ k ∈ ks, 0 ≤ k ∧ k < N) : ∀ (d n : Nat) (x : Ln), Lens x N → n + d = ks.length →
    Ev (fun k => ref39_stop.l0 k ks (n : Int) x.tm x.st x.si x.pu x.he) ((stopL (ks.drop n) x).tm, (stopL (ks.drop n) x).st, (stopL (ks.drop n) x).si, (stopL (ks.drop n) x).pu, (stopL (ks.drop n) x).he) := by
  intro d
  induction d with
  | zero =>
    intro n x hx hn
    rw [List.drop_of_length_le (by omega)]
    refine Ev.step (f := fun _ => some (x.tm, x.st, x.si, x.pu, x.he)) (fun k => ?_) (Ev.now _)
    simp only [ref39_stop.l0]
    rw [if_neg (by omega)]
  | succ d ih =>
    intro n x hx hn
    have hlt : n < ks.length := by omega
    rw [List.drop_eq_getElem_cons hlt]
    have hk := hks ks[n] (List.getElem_mem hlt)
    have hr : rd ks (n : Int) = ks[n] := (rd_get hlt).symm
    have hw : wrap64 ((n : Int) + 1) = ((n + 1 : Nat) : Int) := by rw [w64 (by omega) (by omega)]; omega
    have := ih (n + 1) (stop1 ks[n] x) (stop1_lens hx) (by omega)
    have e1 := hx.e1
    have e2 := hx.e2
    refine Ev.step (f := fun k => ref39_stop.l0 k ks ((n + 1 : Nat) : Int) (stop1 ks[n] x).tm (stop1 ks[n] x).st (stop1 ks[n] x).si (stop1 ks[n] x).pu (stop1 ks[n] x).he) (fun k => ?_) this
    simp only [ref39_stop.l0]
    rw [if_pos (by omega), if_pos (by omega), hr, if_pos hk.1, if_pos (by omega), hw]
    unfold stop1
    by_cases hz : rd x.st ks[n] = 0
    · rw [if_pos hz, if_pos hz]
    · rw [if_neg hz, if_neg hz, if_pos (by omega)]
theorem rd_set (xs : List Int) (k : Int) (v : Int) (j : Nat) (hk : 0 ≤ k) (hj : j < xs.length) : rd (xs.set k.toNat v) (j : Int) = if k = j then v else rd xs j := by
  simp only [rd, Int.toNat_natCast, List.getD_eq_getElem?_getD, List.getElem?_set]
  by_cases h : k = j
  · have : k.toNat = j := by omega
    rw [if_pos h, if_pos this]
    simp [this, hj]
  · have : k.toNat ≠ j := by omega
    rw [if_neg h, if_neg this]
theorem stopL_rd {N : Nat} : ∀ (ks : List Int) (x : Ln), Lens x N → (∀ k ∈ ks, 0 ≤ k ∧ k < N) → Lens (stopL ks x) N ∧ (stopL ks x).tm = x.tm ∧ (stopL ks x).pu = x.pu ∧ (stopL ks x).he = x.he ∧
    ∀ j : Nat, j < N → rd (stopL ks x).st j = (if (j : Int) ∈ ks then 0 else rd x.st j) ∧ rd (stopL ks x).si j = (if (j : Int) ∈ ks ∧ rd x.st j ≠ 0 then x.tm else rd x.si j) := by
  intro ks
  induction ks with
  | nil => intro x hx _; exact ⟨hx, rfl, rfl, rfl, fun j hj => by simp [stopL]⟩
  | cons a ks ih =>
    intro x hx hks
    have ha := hks a List.mem_cons_self
    obtain ⟨p1, p2, p3, p4, p5⟩ := ih (stop1 a x) (stop1_lens hx) (fun k hk => hks k (List.mem_cons_of_mem _ hk))
    have t1 : (stop1 a x).tm = x.tm := by unfold stop1; split <;> rfl
    have t2 : (stop1 a x).pu = x.pu := by unfold stop1; split <;> rfl
    have t3 : (stop1 a x).he = x.he := by unfold stop1; split <;> rfl
    refine ⟨p1, p2.trans t1, p3.trans t2, p4.trans t3, fun j hj => ?_⟩
    obtain ⟨q1, q2⟩ := p5 j hj
    show rd (stopL ks (stop1 a x)).st j = _ ∧ rd (stopL ks (stop1 a x)).si j = _
    rw [q1, q2, t1]
    have e1 := hx.e1
    have e2 := hx.e2
    have s1 : rd (stop1 a x).st j = if a = j then 0 else rd x.st j := by
      unfold stop1
      by_cases hz : rd x.st a = 0
      · rw [if_pos hz]
        by_cases haj : a = j
        · rw [if_pos haj, ← haj]; exact hz
        · rw [if_neg haj]
      · rw [if_neg hz]
        exact rd_set _ _ _ _ ha.1 (by omega)
    have s2 : rd (stop1 a x).si j = if a = j ∧ rd x.st j ≠ 0 then x.tm else rd x.si j := by
      unfold stop1
      by_cases hz : rd x.st a = 0
      · rw [if_pos hz]
        by_cases haj : a = j
        · rw [if_neg (by rintro ⟨_, h⟩; rw [haj] at hz; exact h hz)]
        · rw [if_neg (by rintro ⟨h, _⟩; exact haj h)]
      · rw [if_neg hz]
        show rd (x.si.set a.toNat x.tm) j = _
        rw [rd_set _ _ _ _ ha.1 (by omega)]
        by_cases haj : a = j
        · rw [if_pos haj, if_pos ⟨haj, by rw [← haj]; exact hz⟩]
        · rw [if_neg haj, if_neg (by rintro ⟨h, _⟩; exact haj h)]
    rw [s1, s2]
    by_cases haj : a = j
    · subst haj
      by_cases hz : rd x.st j = 0 <;> simp [hz]
    · have haj' : ¬ (j : Int) = a := fun h => haj h.symm
      simp [haj, haj']
theorem ext_rd {xs ys : List Int} (hl : xs.length = ys.length) (h : ∀ j : Nat, j < xs.length → rd xs j = rd ys j) : xs = ys := by
  apply List.ext_getElem hl
  intro j h1 h2
  rw [rd_get h1, rd_get h2]
  exact h j h1
theorem mem_abN (l : List S31) (i : Int) (n j : Nat) : (j : Int) ∈ abN l i n ↔ j < n ∧ throwsF l j i = true := by
  unfold abN
  simp only [List.mem_map, List.mem_filter, List.mem_range]
  constructor
  · rintro ⟨a, ⟨h1, h2⟩, h3⟩
    have : a = j := by omega
    subst this
    exact ⟨h1, h2⟩
  · rintro ⟨h1, h2⟩
    exact ⟨j, ⟨h1, h2⟩, rfl⟩
theorem rd_stop (l : List S31) (i : Int) (n : Nat) (x : Ln) (j : Nat) (hj : j < x.st.length) : rd (stopN l i n x).st j = if j < n ∧ hit l i j = true then 0 else rd x.st j := by
  simp [stopN, stopSt, rd, List.getD_eq_getElem?_getD, List.getElem?_mapIdx, hj]
theorem rd_stop2 (l : List S31) (i : Int) (n : Nat) (x : Ln) (j : Nat) (hj : j < x.si.length) : rd (stopN l i n x).si j = if j < n ∧ hit l i j = true ∧ rd x.st j ≠ 0 then x.tm else rd x.si j := by
  simp [stopN, stopSi, rd, List.getD_eq_getElem?_getD, List.getElem?_mapIdx, hj]
theorem stopL_eq {l : List S31} {i : Int} {x : Ln} (hs : Snd l) (hx : Lens x l.length) (i0 : 0 ≤ i) (i1 : i < l.length) : stopL (abN l i l.length ++ [i]) x = stopF l i x := by
  have hks : ∀ k ∈ abN l i l.length ++ [i], 0 ≤ k ∧ k < l.length := by
    intro k hk
    rcases List.mem_append.1 hk with h | h
    · unfold abN at h
      simp only [List.mem_map, List.mem_filter, List.mem_range] at h
      obtain ⟨a, ⟨h1, _⟩, rfl⟩ := h
      omega
    · rw [List.mem_singleton.1 h]; exact ⟨i0, i1⟩
  obtain ⟨p1, p2, p3, p4, p5⟩ := stopL_rd _ x hx hks
  have q := stop_lens (l := l) (i := i) (n := l.length) hx
  have hm : ∀ j : Nat, j < l.length → ((j : Int) ∈ abN l i l.length ++ [i] ↔ j < l.length ∧ hit l i j = true) := by
    intro j hj
    rw [List.mem_append, mem_abN, List.mem_singleton]
    unfold hit
    simp only [Bool.or_eq_true, beq_iff_eq]
    constructor
    · rintro (⟨a, b⟩ | a)
      · exact ⟨a, .inr b⟩
      · exact ⟨hj, .inl a⟩
    · rintro ⟨a, b | b⟩
      · exact .inr b
      · exact .inl ⟨a, b⟩
  have e1 : (stopL (abN l i l.length ++ [i]) x).st = (stopF l i x).st := by
    refine ext_rd (by rw [p1.e1]; exact q.e1.symm) (fun j hj => ?_)
    rw [p1.e1] at hj
    rw [(p5 j hj).1]
    show _ = rd (stopN l i l.length x).st j
    rw [rd_stop l i l.length x j (by rw [hx.e1]; exact hj)]
    by_cases h : (j : Int) ∈ abN l i l.length ++ [i]
    · rw [if_pos h, if_pos ((hm j hj).1 h)]
    · rw [if_neg h, if_neg (fun h2 => h ((hm j hj).2 h2))]
  have e2 : (stopL (abN l i l.length ++ [i]) x).si = (stopF l i x).si := by
    refine ext_rd (by rw [p1.e2]; exact q.e2.symm) (fun j hj => ?_)
    rw [p1.e2] at hj
    rw [(p5 j hj).2]
    show _ = rd (stopN l i l.length x).si j
    rw [rd_stop2 l i l.length x j (by rw [hx.e2]; exact hj)]
    by_cases h : (j : Int) ∈ abN l i l.length ++ [i] ∧ rd x.st j ≠ 0
    · rw [if_pos h, if_pos ⟨hj, ((hm j hj).1 h.1).2, h.2⟩]
    · rw [if_neg h, if_neg (fun h2 => h ⟨(hm j hj).2 ⟨h2.1, h2.2.1⟩, h2.2.2⟩)]
  have : ∀ a b : Ln, a.tm = b.tm → a.st = b.st → a.si = b.si → a.pu = b.pu → a.he = b.he → a = b := by
    rintro ⟨⟩ ⟨⟩ h1 h2 h3 h4 h5
    simp_all
  exact this _ _ p2 e1 e2 p3 p4
theorem rstop_ev {l : List S31} {i : Int} {x : Ln} (hs : Snd l) (hx : Lens x l.length) (i0 : 0 ≤ i) (i1 : i < l.length) :
    Ev (fun k => ref39_stop.f k l x.tm x.st x.si x.pu x.he i) ((stopF l i x).tm, (stopF l i x).st, (stopF l i x).si, (stopF l i x).pu, (stopF l i x).he) := by
  have hl := hs.len
  have ha := abN_len l i l.length
  unfold ref39_stop.f
  have hc : ref39_Copy.f x.tm x.st x.si x.pu x.he = some (x.tm, x.st, x.si, x.pu, x.he) := by
    obtain ⟨e1, e2, e3, e4⟩ := hx
    unfold ref39_Copy.f
    rw [if_pos (by simp; omega), if_pos (by simp; omega), if_pos (by simp; omega), if_pos (by simp; omega)]
    rfl
  simp only [hc, Option.bind_some]
  have hA := rabove_ev l (by unfold Fit; omega) i
  unfold aboveF at hA
  rw [if_pos ⟨hs, i0, i1⟩] at hA
  refine Ev.bind hA ?_
  simp only [if_pos (show (abN l i l.length).length < 17592186044416 by omega)]
  have := stopL_ev (abN l i l.length ++ [i]) l.length (by omega) (by simp; omega) (by
    intro k hk
    rcases List.mem_append.1 hk with h | h
    · unfold abN at h
      simp only [List.mem_map, List.mem_filter, List.mem_range] at h
      obtain ⟨a, ⟨h1, _⟩, rfl⟩ := h
      omega
    · rw [List.mem_singleton.1 h]; exact ⟨i0, i1⟩) (abN l i l.length ++ [i]).length 0 x hx (by omega)
  rw [List.drop_zero, stopL_eq hs hx i0 i1] at this
  exact this
theorem rstop_calls (l : List S31) (A : Option Addr) (c : Nat) (x : Ln) (a : La) (i : Int) (w : World) (hl : Kd.C k31 w A l.length l) (hc : l.length ≤ c) (hs : Snd l) (hx : LC w a x) (hn : Lens x l.length) (i0 : 0 ≤ i) (i1 : i < l.length) :
    Calls Try.prog 58 #[.slice A l.length c, .agg #[.int .i64 x.tm, .slice a.A1 x.st.length a.c1, .slice a.A2 x.si.length a.c2, .slice a.A3 x.pu.length a.c3, .slice a.A4 x.he.length a.c4], .int .i64 i] w (GivesL w (stopF l i x)) := by
  obtain ⟨k, hk⟩ := (rstop_ev hs hn i0 i1).rounds
  refine (ref39_stop.calls k A c l x.tm a.A1 a.c1 x.st a.A2 a.c2 x.si a.A3 a.c3 x.pu a.A4 a.c4 x.he i _ _ _ _ _ w hl hc hx.r1 hx.l1 hx.r2 hx.l2 hx.r3 hx.l3 hx.r4 hx.l4 hk).mono ?_
  rintro e w' ⟨v1, v2, v3, v4, rfl, h1, h2, h3, h4, hb⟩
  exact ⟨v1, v2, v3, v4, rfl, ⟨h1, h2, h3, h4⟩, hb⟩
theorem rabove_calls (l : List S31) (A : Option Addr) (c : Nat) (i : Int) (w : World) (hl : Kd.C k31 w A l.length l) (hc : l.length ≤ c) (hfit : Fit l.length) :
    Calls Try.prog 43 #[.slice A l.length c, .int .i64 i] w fun e w' => ∃ v, e = .returned v ∧ Kd.R (Kd.int .i64) 3 w' w.heap.size (fun _ => True) v (aboveF l i) ∧ Below w.heap.size w w' := by
  obtain ⟨k, hk⟩ := (rabove_ev l hfit i).rounds
  exact ref39_Above.calls k A c l i _ w hl hc hk
end Go.Proofs.Ytejmjeanhlkenaa.HandA
