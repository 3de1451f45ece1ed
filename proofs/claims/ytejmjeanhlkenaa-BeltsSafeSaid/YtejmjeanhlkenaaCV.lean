import Derived.Test.YtejmjeanhlkenaaCP3
import Derived.Test.YtejmjeanhlkenaaCP13
import Derived.Test.YtejmjeanhlkenaaCE
/- What Valid and sound tell, of the program and of the reference, in plain words. -/
namespace Go.Proofs.Ytejmjeanhlkenaa.HandA
set_option linter.unusedSimpArgs false
open Go.RowKit Go.Proofs.Ytejmjeanhlkenaa.PB Go.Proofs.YtejmjeanhlkenaaW.PrintWords
theorem In_eq (n lo hi : Int) : lists_In.f n lo hi = some (decide (lo ≤ n ∧ n ≤ hi)) := by
  unfold lists_In.f
  by_cases h : lo ≤ n <;> simp [h]
theorem w64 {x : Int} (h0 : 0 ≤ x) (h1 : x ≤ 1000000000000000) : wrap64 x = x := by unfold wrap64; omega
theorem w64' {x : Int} (h0 : -1 ≤ x) (h1 : x ≤ 1000000000000000) : wrap64 x = x := by unfold wrap64; omega
/-- A bound on a list that any machine holds. -/
def Fit (n : Nat) : Prop := n ≤ 140737488351232
/-- A belt's row is right. -/
def RowOk (l : List S31) (i : Int) : Prop := (-1 ≤ up l i ∧ up l i ≤ (l.length : Int) - 1) ∧ (0 ≤ warn l i ∧ warn l i ≤ 120) ∧ up l i ≠ i
instance (l : List S31) (i : Int) : Decidable (RowOk l i) := by unfold RowOk; exact inferInstance

theorem l2_ev (l : List S31) (hfit : Fit l.length) (hin : Inb l) (r : Bool) (i : Int) : ∀ (m n : Nat) (j : Int), n + m = l.length → -1 ≤ j → j < l.length →
    (ends l m j = true → Ev (fun k => belts_sound.l1 k l (l.length : Int) (wrap64 (i + 1))) r) → (ends l m j = false → r = false) → Ev (fun k => belts_sound.l2 k l n j (l.length : Int) i) r := by
  intro m
  unfold Fit at hfit
  induction m with
  | zero =>
    intro n j hn h0 h1 hy hf
    by_cases hj : j < 0
    · refine Ev.step (f := fun k => belts_sound.l1 k l (l.length : Int) (wrap64 (i + 1))) (fun k => ?_) (hy (by simp [ends, hj]))
      simp only [belts_sound.l2]
      rw [if_neg (by omega)]
    · have := hf (by simp [ends]; omega)
      subst this
      refine Ev.step (f := fun k => some false) (fun k => ?_) (Ev.now _)
      simp only [belts_sound.l2]
      rw [if_pos (by omega), w64 (by omega) (by omega), if_pos (by omega)]
  | succ m ih =>
    intro n j hn h0 h1 hy hf
    by_cases hj : j < 0
    · refine Ev.step (f := fun k => belts_sound.l1 k l (l.length : Int) (wrap64 (i + 1))) (fun k => ?_) (hy (by simp [ends, hj]))
      simp only [belts_sound.l2]
      rw [if_neg (by omega)]
    · have e : ends l (m + 1) j = ends l m (up l j) := by simp [ends, hj]
      rw [e] at hy hf
      have hu := hin j (by omega) h1
      refine Ev.step (f := fun k => belts_sound.l2 k l ((n + 1 : Nat) : Int) (up l j) (l.length : Int) i) (fun k => ?_) (ih (n + 1) (up l j) (by omega) hu.1 hu.2 hy hf)
      simp only [belts_sound.l2]
      rw [if_pos (by omega), w64 (by omega) (by omega), if_neg (by omega), if_pos (by omega), if_pos h1]
      rfl
theorem l1_ev (l : List S31) (hfit : Fit l.length) (hin : Inb l) : ∀ (d : Nat) (i : Nat), i + d = l.length →
    ∃ b, Ev (fun k => belts_sound.l1 k l (l.length : Int) (i : Int)) b ∧ (b = true ↔ ∀ j : Int, (i : Int) ≤ j → j < l.length → ends l l.length j = true) := by
  intro d
  have hf2 := hfit
  unfold Fit at hf2
  induction d with
  | zero =>
    intro i hi
    refine ⟨true, ?_, by simp; intro j h1 h2; omega⟩
    refine Ev.step (f := fun _ => some true) (fun k => ?_) (Ev.now _)
    simp only [belts_sound.l1]
    rw [if_neg (by omega)]
  | succ d ih =>
    intro i hi
    obtain ⟨b, hb, hiff⟩ := ih (i + 1) (by omega)
    have hw : wrap64 ((i : Int) + 1) = ((i + 1 : Nat) : Int) := by rw [w64 (by omega) (by omega)]; omega
    refine ⟨b && ends l l.length (i : Int), ?_, ?_⟩
    · refine Ev.step (f := fun k => belts_sound.l2 k l ((0 : Nat) : Int) (i : Int) (l.length : Int) (i : Int)) (fun k => ?_) (l2_ev l hfit hin _ _ l.length 0 (i : Int) (by omega) (by omega) (by omega) ?_ ?_)
      · simp only [belts_sound.l1]
        rw [if_pos (by omega)]
        rfl
      · intro he
        rw [he, hw]
        simpa using hb
      · intro he
        rw [he]
        simp
    · rw [Bool.and_eq_true, hiff]
      constructor
      · rintro ⟨h1, h2⟩ j hj hjl
        by_cases hji : j = i
        · rw [hji]; exact h2
        · exact h1 j (by omega) hjl
      · intro h
        exact ⟨fun j h1 h2 => h j (by omega) h2, h i (by omega) (by omega)⟩
theorem l0_ev (l : List S31) (hfit : Fit l.length) : ∀ (d : Nat) (i : Nat), i + d = l.length → (∀ j : Int, 0 ≤ j → j < i → RowOk l j) →
    ∃ b, Ev (fun k => belts_sound.l0 k l l (l.length : Int) (i : Int)) b ∧ (b = true ↔ (∀ j : Int, 0 ≤ j → j < l.length → RowOk l j) ∧ ∀ j : Int, 0 ≤ j → j < l.length → ends l l.length j = true) := by
  intro d
  have hf2 := hfit
  unfold Fit at hf2
  induction d with
  | zero =>
    intro i hi hrow
    have hin : Inb l := fun j h0 h1 => by have := (hrow j h0 (by omega)).1; omega
    obtain ⟨b, hb, hiff⟩ := l1_ev l hfit hin l.length 0 (by omega)
    refine ⟨b, ?_, ?_⟩
    · refine Ev.step (f := fun k => belts_sound.l1 k l (l.length : Int) ((0 : Nat) : Int)) (fun k => ?_) hb
      simp only [belts_sound.l0]
      rw [if_neg (by omega)]
      rfl
    · rw [hiff]
      constructor
      · intro h
        exact ⟨fun j h0 h1 => hrow j h0 (by omega), fun j h0 h1 => h j (by omega) h1⟩
      · rintro ⟨_, h⟩ j h0 h1
        exact h j (by omega) h1
  | succ d ih =>
    intro i hi hrow
    have hw : wrap64 ((i : Int) + 1) = ((i + 1 : Nat) : Int) := by rw [w64 (by omega) (by omega)]; omega
    have hl1 : wrap64 ((l.length : Int) - 1) = (l.length : Int) - 1 := w64 (by omega) (by omega)
    have hstep : ∀ k, belts_sound.l0 (k + 1) l l (l.length : Int) (i : Int) = if RowOk l i then belts_sound.j1 k l l (l.length : Int) (i : Int) false else belts_sound.j1 k l l (l.length : Int) (i : Int) true := by
      intro k
      simp only [belts_sound.l0]
      rw [if_pos (by omega), if_pos (by omega), if_pos (by omega), In_eq, In_eq, hl1]
      simp only [Option.bind_some]
      show (if decide (-1 ≤ up l i ∧ up l i ≤ (l.length : Int) - 1) = true then if decide (0 ≤ warn l i ∧ warn l i ≤ 120) = true then belts_sound.j1 k l l (l.length : Int) (i : Int) (up l i == (i : Int)) else _ else _) = _
      unfold RowOk
      by_cases h1 : -1 ≤ up l i ∧ up l i ≤ (l.length : Int) - 1
      · by_cases h2 : 0 ≤ warn l i ∧ warn l i ≤ 120
        · by_cases h3 : up l i = i
          · simp [h1, h2, h3]
          · have : (up l i == (i : Int)) = false := by simp [h3]
            rw [this]
            simp [h1, h2, h3]
        · simp [h1, h2]
      · simp [h1]
    by_cases hr : RowOk l i
    · obtain ⟨b, hb, hiff⟩ := ih (i + 1) (by omega) (fun j h0 h1 => by
        by_cases hji : j = i
        · rw [hji]; exact hr
        · exact hrow j h0 (by omega))
      refine ⟨b, ?_, hiff⟩
      refine Ev.step (f := fun k => belts_sound.j1 k l l (l.length : Int) (i : Int) false) (fun k => by rw [hstep, if_pos hr]) ?_
      refine Ev.step (f := fun k => belts_sound.l0 k l l (l.length : Int) ((i + 1 : Nat) : Int)) (fun k => ?_) hb
      simp only [belts_sound.j1]
      rw [if_neg (by decide), hw]
    · refine ⟨false, ?_, ?_⟩
      · refine Ev.step (f := fun k => belts_sound.j1 k l l (l.length : Int) (i : Int) true) (fun k => by rw [hstep, if_neg hr]) ?_
        refine Ev.step (f := fun _ => some false) (fun k => ?_) (Ev.now _)
        simp [belts_sound.j1]
      · constructor
        · intro h; cases h
        · rintro ⟨h, _⟩
          exact absurd (h i (by omega) (by omega)) hr
theorem sound_ev (l : List S31) (hfit : Fit l.length) : ∃ b, Ev (fun k => belts_sound.f k l) b ∧ (b = true ↔ Snd l) := by
  unfold belts_sound.f
  simp only [In_eq, Option.bind_some]
  by_cases hl : 1 ≤ l.length ∧ l.length ≤ 24
  · obtain ⟨b, hb, hiff⟩ := l0_ev l hfit l.length 0 (by omega) (fun j h0 h1 => by omega)
    refine ⟨b, ?_, ?_⟩
    · refine Ev.congr (f := fun k => belts_sound.l0 k l l (l.length : Int) ((0 : Nat) : Int)) (fun k => ?_) hb
      rw [if_pos (by simp; omega)]
      rfl
    · rw [hiff]
      constructor
      · rintro ⟨h1, h2⟩
        exact ⟨hl, fun j a b => by have := (h1 j a b).1; omega, fun j a b => (h1 j a b).2.2, fun j a b => (h1 j a b).2.1, h2⟩
      · intro h
        exact ⟨fun j a b => ⟨by have := h.inb j a b; omega, h.wn j a b, h.self j a b⟩, h.en⟩
  · refine ⟨false, ?_, ?_⟩
    · refine Ev.congr (f := fun k => some false) (fun k => ?_) (Ev.now _)
      rw [if_neg (by simp; omega)]
    · constructor
      · intro h; cases h
      · intro h; exact absurd h.len hl
/-- A line's row is right. -/
def LineOk (l : List S31) (x : Ln) (i : Int) : Prop :=
  (0 ≤ rd x.st i ∧ rd x.st i ≤ 2) ∧ (0 ≤ rd x.si i ∧ rd x.si i ≤ x.tm) ∧ (rd x.st i ≠ 0 → rdOf false x.pu i = false ∧ rdOf false x.he i = false ∧ (0 ≤ up l i → rd x.st (up l i) = 2))
instance (l : List S31) (x : Ln) (i : Int) : Decidable (LineOk l x i) := by unfold LineOk; exact inferInstance
/-- Belts and a line are valid. -/
structure Vl (l : List S31) (x : Ln) : Prop where
  snd : Snd l
  len : Lens x l.length
  tm : 0 ≤ x.tm ∧ x.tm ≤ 2147483648
  row : ∀ i : Int, 0 ≤ i → i < l.length → LineOk l x i
theorem rows_ev (l : List S31) (x : Ln) (hfit : Fit l.length) (hin : Inb l) (hx : Lens x l.length) : ∀ (d : Nat) (i : Nat), i + d = l.length → (∀ j : Int, 0 ≤ j → j < i → LineOk l x j) →
    ∃ b, Ev (fun k => belts_Valid.l0 k l x.st (x.st.length : Int) (i : Int) x.tm x.st x.si x.pu x.he) b ∧ (b = true ↔ ∀ j : Int, 0 ≤ j → j < l.length → LineOk l x j) := by
  intro d
  have hf2 := hfit
  unfold Fit at hf2
  obtain ⟨e1, e2, e3, e4⟩ := hx
  induction d with
  | zero =>
    intro i hi hrow
    refine ⟨true, ?_, by simp; intro j h0 h1; exact hrow j h0 (by omega)⟩
    refine Ev.step (f := fun _ => some true) (fun k => ?_) (Ev.now _)
    simp only [belts_Valid.l0]
    rw [if_neg (by omega)]
  | succ d ih =>
    intro i hi hrow
    have hw : wrap64 ((i : Int) + 1) = ((i + 1 : Nat) : Int) := by rw [w64 (by omega) (by omega)]; omega
    have hu := hin (i : Int) (by omega) (by omega)
    have go : ∀ k, LineOk l x i → belts_Valid.l0 (k + 3) l x.st (x.st.length : Int) (i : Int) x.tm x.st x.si x.pu x.he = belts_Valid.l0 (if rd x.st i = 0 then k + 1 else k) l x.st (x.st.length : Int) ((i + 1 : Nat) : Int) x.tm x.st x.si x.pu x.he := by
      rintro k ⟨h1, h2, h3⟩
      simp only [belts_Valid.l0]
      rw [if_pos (by omega), if_pos (by omega), if_pos (by omega), if_pos (by omega), In_eq, In_eq]
      simp only [Option.bind_some, h1, h2, and_self, decide_true, if_true]
      rw [if_pos (by omega)]
      simp only [belts_Valid.j2, Bool.not_true]
      rw [if_neg (by decide)]
      by_cases hz : rd x.st i = 0
      · rw [if_pos hz, hw, if_pos hz]
      · obtain ⟨p1, p2, p3⟩ := h3 hz
        rw [if_neg hz, if_pos (by omega), if_pos (by omega), p1, if_neg (by decide), if_pos (by omega), p2, if_neg (by decide), if_neg hz]
        show (if up l i ≥ 0 then _ else _) = _
        by_cases hup : up l i ≥ 0
        · rw [if_pos hup]
          show (if 0 ≤ up l i then if up l i < (x.st.length : Int) then belts_Valid.j3 (k + 1) l x.st (x.st.length : Int) (i : Int) (rd x.st (up l i) != 2) x.tm x.st x.si x.pu x.he else none else none) = _
          rw [if_pos hup, if_pos (by omega), p3 hup]
          simp only [belts_Valid.j3]
          rw [if_neg (by decide), hw]
        · rw [if_neg hup]
          simp only [belts_Valid.j3]
          rw [if_neg (by decide), hw]
    have no : ∀ k, ¬ LineOk l x i → belts_Valid.l0 (k + 3) l x.st (x.st.length : Int) (i : Int) x.tm x.st x.si x.pu x.he = some false := by
      intro k hno
      simp only [belts_Valid.l0]
      rw [if_pos (by omega), if_pos (by omega), if_pos (by omega), if_pos (by omega), In_eq, In_eq]
      simp only [Option.bind_some]
      by_cases h1 : 0 ≤ rd x.st i ∧ rd x.st i ≤ 2
      · rw [if_pos (by simpa using h1), if_pos (by omega)]
        by_cases h2 : 0 ≤ rd x.si i ∧ rd x.si i ≤ x.tm
        · have h2d : decide (0 ≤ rd x.si i ∧ rd x.si i ≤ x.tm) = true := decide_eq_true h2
          rw [h2d]
          simp only [belts_Valid.j2, Bool.not_true]
          rw [if_neg (by decide)]
          have hz : rd x.st i ≠ 0 := fun hz => hno ⟨h1, h2, fun h => absurd hz h⟩
          rw [if_neg hz, if_pos (by omega), if_pos (by omega)]
          by_cases p1 : rdOf false x.pu i = true
          · rw [if_pos p1]
            simp [belts_Valid.j3]
          · rw [if_neg p1, if_pos (by omega)]
            by_cases p2 : rdOf false x.he i = true
            · rw [if_pos p2]
              simp [belts_Valid.j3]
            · rw [if_neg p2]
              show (if up l i ≥ 0 then _ else _) = _
              by_cases hup : up l i ≥ 0
              · rw [if_pos hup]
                show (if 0 ≤ up l i then if up l i < (x.st.length : Int) then belts_Valid.j3 (k + 1) l x.st (x.st.length : Int) (i : Int) (rd x.st (up l i) != 2) x.tm x.st x.si x.pu x.he else none else none) = _
                rw [if_pos hup, if_pos (by omega)]
                have : (rd x.st (up l i) != 2) = true := by
                  by_cases h : rd x.st (up l i) = 2
                  · exact absurd ⟨h1, h2, fun _ => ⟨by simpa using p1, by simpa using p2, fun _ => h⟩⟩ hno
                  · simp [h]
                rw [this]
                simp [belts_Valid.j3]
              · exact absurd ⟨h1, h2, fun _ => ⟨by simpa using p1, by simpa using p2, fun h => absurd h hup⟩⟩ hno
        · have h2d : decide (0 ≤ rd x.si i ∧ rd x.si i ≤ x.tm) = false := decide_eq_false h2
          rw [h2d]
          simp [belts_Valid.j2]
      · rw [if_neg (by simpa using h1)]
        simp [belts_Valid.j2]
    by_cases hok : LineOk l x i
    · obtain ⟨b, ⟨K, hK⟩, hiff⟩ := ih (i + 1) (by omega) (fun j h0 h1 => by
        by_cases hji : j = i
        · rw [hji]; exact hok
        · exact hrow j h0 (by omega))
      refine ⟨b, ⟨K + 3, fun k hk => ?_⟩, hiff⟩
      obtain ⟨q, rfl⟩ : ∃ q, k = q + 3 := ⟨k - 3, by omega⟩
      show belts_Valid.l0 (q + 3) l x.st (x.st.length : Int) (i : Int) x.tm x.st x.si x.pu x.he = some b
      rw [go q hok]
      exact hK _ (by split <;> omega)
    · refine ⟨false, ⟨3, fun k hk => ?_⟩, ?_⟩
      · obtain ⟨q, rfl⟩ : ∃ q, k = q + 3 := ⟨k - 3, by omega⟩
        exact no q hok
      · constructor
        · intro h; cases h
        · intro h
          exact absurd (h i (by omega) (by omega)) hok
theorem valid_ev (l : List S31) (x : Ln) (hfit : Fit l.length) : ∃ b, Ev (fun k => belts_Valid.f k l x.tm x.st x.si x.pu x.he) b ∧ (b = true ↔ Vl l x) := by
  obtain ⟨bs, hs, hsiff⟩ := sound_ev l hfit
  have bad : Ev (fun k => belts_Valid.j0 k l true x.tm x.st x.si x.pu x.he) false := by
    refine Ev.step (f := fun _ => some false) (fun k => ?_) (Ev.now _)
    simp [belts_Valid.j0]
  have key : ∃ b, Ev (fun k => if bs = true then (if (x.st.length : Int) = (l.length : Int) then (if (x.si.length : Int) = (l.length : Int) then (if (x.pu.length : Int) = (l.length : Int) then (if (x.he.length : Int) = (l.length : Int) then ((lists_In.f x.tm 0 2147483648).bind fun t109 => (belts_Valid.j0 k l (!t109) x.tm x.st x.si x.pu x.he)) else (belts_Valid.j0 k l true x.tm x.st x.si x.pu x.he)) else (belts_Valid.j0 k l true x.tm x.st x.si x.pu x.he)) else (belts_Valid.j0 k l true x.tm x.st x.si x.pu x.he)) else (belts_Valid.j0 k l true x.tm x.st x.si x.pu x.he)) else (belts_Valid.j0 k l true x.tm x.st x.si x.pu x.he)) b ∧ (b = true ↔ Vl l x) := by
    have nope : ∀ {g : Nat → Option Bool}, (∀ k, g k = belts_Valid.j0 k l true x.tm x.st x.si x.pu x.he) → ¬ Vl l x → ∃ b, Ev g b ∧ (b = true ↔ Vl l x) := fun hg hn => ⟨false, Ev.congr hg bad, by constructor; (intro h; cases h); intro h; exact absurd h hn⟩
    by_cases c0 : bs = true
    · by_cases c1 : (x.st.length : Int) = (l.length : Int)
      · by_cases c2 : (x.si.length : Int) = (l.length : Int)
        · by_cases c3 : (x.pu.length : Int) = (l.length : Int)
          · by_cases c4 : (x.he.length : Int) = (l.length : Int)
            · simp only [if_pos c0, if_pos c1, if_pos c2, if_pos c3, if_pos c4, In_eq, Option.bind_some]
              by_cases c5 : 0 ≤ x.tm ∧ x.tm ≤ 2147483648
              · have hlen : Lens x l.length := ⟨by omega, by omega, by omega, by omega⟩
                obtain ⟨b, hb, hiff⟩ := rows_ev l x hfit (hsiff.1 c0).inb hlen l.length 0 (by omega) (fun j h0 h1 => by omega)
                refine ⟨b, ?_, ?_⟩
                · refine Ev.step (f := fun k => belts_Valid.l0 k l x.st (x.st.length : Int) ((0 : Nat) : Int) x.tm x.st x.si x.pu x.he) (fun k => ?_) hb
                  rw [decide_eq_true c5]
                  simp [belts_Valid.j0]
                · rw [hiff]
                  exact ⟨fun h => ⟨hsiff.1 c0, hlen, c5, h⟩, fun h => h.row⟩
              · exact nope (fun k => by rw [decide_eq_false c5]; rfl) (fun h => c5 h.tm)
            · exact nope (fun k => by rw [if_pos c0, if_pos c1, if_pos c2, if_pos c3, if_neg c4]) (fun h => c4 (by rw [h.len.e4]))
          · exact nope (fun k => by rw [if_pos c0, if_pos c1, if_pos c2, if_neg c3]) (fun h => c3 (by rw [h.len.e3]))
        · exact nope (fun k => by rw [if_pos c0, if_pos c1, if_neg c2]) (fun h => c2 (by rw [h.len.e2]))
      · exact nope (fun k => by rw [if_pos c0, if_neg c1]) (fun h => c1 (by rw [h.len.e1]))
    · exact nope (fun k => by rw [if_neg c0]) (fun h => c0 (hsiff.2 h.snd))
  obtain ⟨b, hb, hiff⟩ := key
  refine ⟨b, ?_, hiff⟩
  unfold belts_Valid.f
  exact Ev.bind hs hb
end Go.Proofs.Ytejmjeanhlkenaa.HandA

/- What the reference's Valid and belts tell: the same. -/
namespace Go.Proofs.Ytejmjeanhlkenaa.HandA
set_option linter.unusedSimpArgs false
open Go.RowKit Go.Proofs.Ytejmjeanhlkenaa.PB Go.Proofs.YtejmjeanhlkenaaW.PrintWords
theorem pigeon : ∀ (m n : Nat) (f : Nat → Nat), (∀ a, a < n → f a < m) → (∀ a b, a < n → b < n → f a = f b → a = b) → n ≤ m := by
  intro m
  induction m with
  | zero =>
    intro n f h1 h2
    rcases Nat.eq_zero_or_pos n with h | h
    · omega
    · have := h1 0 h; omega
  | succ m ih =>
    intro n f h1 h2
    cases n with
    | zero => omega
    | succ k =>
      have hk := h1 k (by omega)
      have := ih k (fun a => if f a = m then f k else f a) (fun a ha => by
        try dsimp only
        by_cases e : f a = m
        · rw [if_pos e]
          have : f k ≠ m := fun e2 => by have := h2 a k (by omega) (by omega) (e.trans e2.symm); omega
          omega
        · rw [if_neg e]
          have := h1 a (by omega)
          omega) (fun a b ha hb e => by
        try dsimp only at e
        by_cases e1 : f a = m <;> by_cases e2 : f b = m
        · exact h2 a b (by omega) (by omega) (e1.trans e2.symm)
        · rw [if_pos e1, if_neg e2] at e
          have := h2 k b (by omega) (by omega) e
          omega
        · rw [if_neg e1, if_pos e2] at e
          have := h2 a k (by omega) (by omega) e
          omega
        · rw [if_neg e1, if_neg e2] at e
          exact h2 a b (by omega) (by omega) e)
      omega
/-- So many belts on. -/
def it (l : List S31) : Nat → Int → Int
  | 0, i => i
  | n + 1, i => up l (it l n i)
/-- A way that ends ends within as many belts as there are. -/
theorem ends_len {l : List S31} (hin : Inb l) {n : Nat} {i : Int} (h1 : i < l.length) (h : ends l n i = true) : ends l l.length i = true := by
  have least : ∀ n, ends l n i = true → ∃ m, ends l m i = true ∧ ∀ q, q < m → ends l q i = false := by
    intro n
    induction n with
    | zero => intro h; exact ⟨0, h, fun q hq => by omega⟩
    | succ n ih =>
      intro h
      by_cases hn : ends l n i = true
      · exact ih hn
      · refine ⟨n + 1, h, fun q hq => ?_⟩
        cases hb : ends l q i with
        | false => rfl
        | true => exact absurd (ends_more (by omega) hb) hn
  obtain ⟨m, hm, hlt⟩ := least n h
  have key : ∀ a, a ≤ m → it l a i < l.length ∧ ends l (m - a) (it l a i) = true ∧ ∀ q, q < m - a → ends l q (it l a i) = false := by
    intro a
    induction a with
    | zero => intro _; exact ⟨h1, hm, fun q hq => hlt q (by omega)⟩
    | succ a ih =>
      intro ha
      obtain ⟨p1, p2, p3⟩ := ih (by omega)
      have h0 : 0 ≤ it l a i := by
        by_cases hneg : it l a i < 0
        · have := p3 0 (by omega)
          simp [ends] at this
          omega
        · omega
      have hmm : m - a = (m - (a + 1)) + 1 := by omega
      refine ⟨(hin _ h0 p1).2, ?_, fun q hq => ?_⟩
      · rw [hmm] at p2
        obtain ⟨q, hq, he⟩ := ends_step p2 h0
        have : q = m - (a + 1) := by omega
        rw [← this]
        exact he
      · have := p3 (q + 1) (by omega)
        simp only [ends, Bool.or_eq_false_iff] at this
        exact this.2
  have nn : ∀ a, a < m → 0 ≤ it l a i := fun a ha => by
    obtain ⟨p1, p2, p3⟩ := key a (by omega)
    by_cases hneg : it l a i < 0
    · have := p3 0 (by omega)
      simp [ends] at this
      omega
    · omega
  have := pigeon l.length m (fun a => (it l a i).toNat) (fun a ha => by
    have := nn a ha
    have := (key a (by omega)).1
    try dsimp only
    omega) (fun a b ha hb e => by
    try dsimp only at e
    have e2 : it l a i = it l b i := by have := nn a ha; have := nn b hb; omega
    rcases Nat.lt_trichotomy a b with h | h | h
    · have p := (key b (by omega)).2.1
      have q := (key a (by omega)).2.2 (m - b) (by omega)
      rw [← e2, q] at p
      cases p
    · exact h
    · have p := (key a (by omega)).2.1
      have q := (key b (by omega)).2.2 (m - a) (by omega)
      rw [e2, q] at p
      cases p)
  exact ends_more this hm

theorem rl2_ev (l : List S31) (hfit : Fit l.length) (hin : Inb l) (r : Bool) (i : Int) : ∀ (m n : Nat) (j : Int), n + m = l.length + 1 → -1 ≤ j → j < l.length →
    (ends l m j = true → Ev (fun k => ref39_belts.l1 k l (wrap64 (i + 1))) r) → (ends l m j = false → r = false) → Ev (fun k => ref39_belts.l2 k l i j n) r := by
  intro m
  unfold Fit at hfit
  induction m with
  | zero =>
    intro n j hn h0 h1 hy hf
    by_cases hj : j < 0
    · refine Ev.step (f := fun k => ref39_belts.l1 k l (wrap64 (i + 1))) (fun k => ?_) (hy (by simp [ends, hj]))
      simp only [ref39_belts.l2]
      rw [if_neg (by omega)]
    · have := hf (by simp [ends]; omega)
      subst this
      refine Ev.step (f := fun k => some false) (fun k => ?_) (Ev.now _)
      simp only [ref39_belts.l2]
      rw [if_pos (by omega), if_pos (by omega)]
  | succ m ih =>
    intro n j hn h0 h1 hy hf
    by_cases hj : j < 0
    · refine Ev.step (f := fun k => ref39_belts.l1 k l (wrap64 (i + 1))) (fun k => ?_) (hy (by simp [ends, hj]))
      simp only [ref39_belts.l2]
      rw [if_neg (by omega)]
    · have e : ends l (m + 1) j = ends l m (up l j) := by simp [ends, hj]
      rw [e] at hy hf
      have hu := hin j (by omega) h1
      refine Ev.step (f := fun k => ref39_belts.l2 k l i (up l j) ((n + 1 : Nat) : Int)) (fun k => ?_) (ih (n + 1) (up l j) (by omega) hu.1 hu.2 hy hf)
      simp only [ref39_belts.l2]
      rw [if_pos (by omega), if_neg (by omega), if_pos (by omega), if_pos h1, w64 (by omega) (by omega)]
      rfl
theorem rl1_ev (l : List S31) (hfit : Fit l.length) (hin : Inb l) : ∀ (d : Nat) (i : Nat), i + d = l.length →
    ∃ b, Ev (fun k => ref39_belts.l1 k l (i : Int)) b ∧ (b = true ↔ ∀ j : Int, (i : Int) ≤ j → j < l.length → ends l l.length j = true) := by
  intro d
  have hf2 := hfit
  unfold Fit at hf2
  induction d with
  | zero =>
    intro i hi
    refine ⟨true, ?_, by simp; intro j h1 h2; omega⟩
    refine Ev.step (f := fun _ => some true) (fun k => ?_) (Ev.now _)
    simp only [ref39_belts.l1]
    rw [if_neg (by omega)]
  | succ d ih =>
    intro i hi
    obtain ⟨b, hb, hiff⟩ := ih (i + 1) (by omega)
    have hw : wrap64 ((i : Int) + 1) = ((i + 1 : Nat) : Int) := by rw [w64 (by omega) (by omega)]; omega
    have hu := hin (i : Int) (by omega) (by omega)
    have heq : ends l (l.length + 1) (up l i) = ends l l.length (i : Int) := by
      rw [Bool.eq_iff_iff]
      constructor
      · intro h
        exact ends_len (n := l.length + 2) hin (by omega) (by simp only [ends, Bool.or_eq_true]; exact .inr (by simpa [ends] using h))
      · intro h
        obtain ⟨m, hm, he⟩ := ends_step h (by omega)
        exact ends_more (by omega) he
    refine ⟨b && ends l l.length (i : Int), ?_, ?_⟩
    · refine Ev.step (f := fun k => ref39_belts.l2 k l (i : Int) (up l i) ((0 : Nat) : Int)) (fun k => ?_) (rl2_ev l hfit hin _ _ (l.length + 1) 0 (up l i) (by omega) hu.1 hu.2 ?_ ?_)
      · simp only [ref39_belts.l1]
        rw [if_pos (by omega), if_pos (by omega)]
        rfl
      · intro he
        rw [heq] at he
        rw [he, hw]
        simpa using hb
      · intro he
        rw [heq] at he
        rw [he]
        simp
    · rw [Bool.and_eq_true, hiff]
      constructor
      · rintro ⟨h1, h2⟩ j hj hjl
        by_cases hji : j = i
        · rw [hji]; exact h2
        · exact h1 j (by omega) hjl
      · intro h
        exact ⟨fun j h1 h2 => h j (by omega) h2, h i (by omega) (by omega)⟩
theorem rl0_ev (l : List S31) (hfit : Fit l.length) : ∀ (d : Nat) (i : Nat), i + d = l.length → (∀ j : Int, 0 ≤ j → j < i → RowOk l j) →
    ∃ b, Ev (fun k => ref39_belts.l0 k l (i : Int)) b ∧ (b = true ↔ (∀ j : Int, 0 ≤ j → j < l.length → RowOk l j) ∧ ∀ j : Int, 0 ≤ j → j < l.length → ends l l.length j = true) := by
  intro d
  have hf2 := hfit
  unfold Fit at hf2
  induction d with
  | zero =>
    intro i hi hrow
    have hin : Inb l := fun j h0 h1 => by have := (hrow j h0 (by omega)).1; omega
    obtain ⟨b, hb, hiff⟩ := rl1_ev l hfit hin l.length 0 (by omega)
    refine ⟨b, ?_, ?_⟩
    · refine Ev.step (f := fun k => ref39_belts.l1 k l ((0 : Nat) : Int)) (fun k => ?_) hb
      simp only [ref39_belts.l0]
      rw [if_neg (by omega)]
      rfl
    · rw [hiff]
      constructor
      · intro h
        exact ⟨fun j h0 h1 => hrow j h0 (by omega), fun j h0 h1 => h j (by omega) h1⟩
      · rintro ⟨_, h⟩ j h0 h1
        exact h j (by omega) h1
  | succ d ih =>
    intro i hi hrow
    have hw : wrap64 ((i : Int) + 1) = ((i + 1 : Nat) : Int) := by rw [w64 (by omega) (by omega)]; omega
    have hstep : ∀ k, ref39_belts.l0 (k + 1) l (i : Int) = if RowOk l i then ref39_belts.j2 k l (i : Int) false else ref39_belts.j2 k l (i : Int) true := by
      intro k
      simp only [ref39_belts.l0]
      rw [if_pos (by omega), if_pos (by omega)]
      show (if up l i < -1 then _ else if up l i ≥ (l.length : Int) then _ else if up l i = (i : Int) then _ else if warn l i < 0 then _ else ref39_belts.j2 k l (i : Int) (decide (warn l i > 120))) = _
      by_cases h1 : up l i < -1
      · rw [if_pos h1, if_neg (fun h : RowOk l i => by unfold RowOk at h; omega)]
      · rw [if_neg h1]
        by_cases h2 : up l i ≥ l.length
        · rw [if_pos h2, if_neg (fun h : RowOk l i => by unfold RowOk at h; omega)]
        · rw [if_neg h2]
          by_cases h3 : up l i = i
          · rw [if_pos h3, if_neg (fun h : RowOk l i => by unfold RowOk at h; omega)]
          · rw [if_neg h3]
            by_cases h4 : warn l i < 0
            · rw [if_pos h4, if_neg (fun h : RowOk l i => by unfold RowOk at h; omega)]
            · rw [if_neg h4]
              by_cases h5 : warn l i > 120
              · rw [decide_eq_true h5, if_neg (fun h : RowOk l i => by unfold RowOk at h; omega)]
              · rw [decide_eq_false h5, if_pos (show RowOk l i by unfold RowOk; omega)]
    by_cases hr : RowOk l i
    · obtain ⟨b, hb, hiff⟩ := ih (i + 1) (by omega) (fun j h0 h1 => by
        by_cases hji : j = i
        · rw [hji]; exact hr
        · exact hrow j h0 (by omega))
      refine ⟨b, ?_, hiff⟩
      refine Ev.step (f := fun k => ref39_belts.j2 k l (i : Int) false) (fun k => by rw [hstep, if_pos hr]) ?_
      refine Ev.step (f := fun k => ref39_belts.l0 k l ((i + 1 : Nat) : Int)) (fun k => ?_) hb
      simp only [ref39_belts.j2]
      rw [if_neg (by decide), hw]
    · refine ⟨false, ?_, ?_⟩
      · refine Ev.step (f := fun k => ref39_belts.j2 k l (i : Int) true) (fun k => by rw [hstep, if_neg hr]) ?_
        refine Ev.step (f := fun _ => some false) (fun k => ?_) (Ev.now _)
        simp [ref39_belts.j2]
      · constructor
        · intro h; cases h
        · rintro ⟨h, _⟩
          exact absurd (h i (by omega) (by omega)) hr
theorem rsound_ev (l : List S31) (hfit : Fit l.length) : ∃ b, Ev (fun k => ref39_belts.f k l) b ∧ (b = true ↔ Snd l) := by
  have bad : Ev (fun k => ref39_belts.j0 k l true) false := by
    refine Ev.step (f := fun _ => some false) (fun k => ?_) (Ev.now _)
    simp [ref39_belts.j0]
  by_cases hl : 1 ≤ l.length ∧ l.length ≤ 24
  · obtain ⟨b, hb, hiff⟩ := rl0_ev l hfit l.length 0 (by omega) (fun j h0 h1 => by omega)
    refine ⟨b, ?_, ?_⟩
    · refine Ev.congr (f := fun k => ref39_belts.j0 k l false) (fun k => ?_) (Ev.step (f := fun k => ref39_belts.l0 k l ((0 : Nat) : Int)) (fun k => ?_) hb)
      · unfold ref39_belts.f
        rw [if_neg (by omega), decide_eq_false (by omega)]
      · simp [ref39_belts.j0]
    · rw [hiff]
      constructor
      · rintro ⟨h1, h2⟩
        exact ⟨hl, fun j a b => by have := (h1 j a b).1; omega, fun j a b => (h1 j a b).2.2, fun j a b => (h1 j a b).2.1, h2⟩
      · intro h
        exact ⟨fun j a b => ⟨by have := h.inb j a b; omega, h.wn j a b, h.self j a b⟩, h.en⟩
  · refine ⟨false, ?_, ?_⟩
    · refine Ev.congr (f := fun k => ref39_belts.j0 k l true) (fun k => ?_) bad
      unfold ref39_belts.f
      by_cases h1 : (l.length : Int) < 1
      · rw [if_pos h1]
      · rw [if_neg h1, decide_eq_true (by omega)]
    · constructor
      · intro h; cases h
      · intro h; exact absurd h.len hl
end Go.Proofs.Ytejmjeanhlkenaa.HandA

/- What the reference's Valid tells: the same as the program's. -/
namespace Go.Proofs.Ytejmjeanhlkenaa.HandA
set_option linter.unusedSimpArgs false
open Go.RowKit Go.Proofs.Ytejmjeanhlkenaa.PB Go.Proofs.YtejmjeanhlkenaaW.PrintWords
theorem rrows_ev (l : List S31) (x : Ln) (hfit : Fit l.length) (hin : Inb l) (hx : Lens x l.length) : ∀ (d : Nat) (i : Nat), i + d = l.length → (∀ j : Int, 0 ≤ j → j < i → LineOk l x j) →
    ∃ b, Ev (fun k => ref39_Valid.l0 k l (l.length : Int) (i : Int) x.tm x.st x.si x.pu x.he) b ∧ (b = true ↔ ∀ j : Int, 0 ≤ j → j < l.length → LineOk l x j) := by
  intro d
  have hf2 := hfit
  unfold Fit at hf2
  obtain ⟨e1, e2, e3, e4⟩ := hx
  induction d with
  | zero =>
    intro i hi hrow
    refine ⟨true, ?_, by simp; intro j h0 h1; exact hrow j h0 (by omega)⟩
    refine Ev.step (f := fun _ => some true) (fun k => ?_) (Ev.now _)
    simp only [ref39_Valid.l0]
    rw [if_neg (by omega)]
  | succ d ih =>
    intro i hi hrow
    have hw : wrap64 ((i : Int) + 1) = ((i + 1 : Nat) : Int) := by rw [w64 (by omega) (by omega)]; omega
    have hu := hin (i : Int) (by omega) (by omega)
    have go : ∀ k, LineOk l x i → ref39_Valid.l0 (k + 3) l (l.length : Int) (i : Int) x.tm x.st x.si x.pu x.he = ref39_Valid.l0 k l (l.length : Int) ((i + 1 : Nat) : Int) x.tm x.st x.si x.pu x.he := by
      rintro k ⟨h1, h2, h3⟩
      simp only [ref39_Valid.l0]
      rw [if_pos (by omega), if_pos (by omega), if_pos (by omega), if_neg (by omega), if_neg (by omega), if_pos (by omega), if_neg (by omega), decide_eq_false (by omega)]
      simp only [ref39_Valid.j2]
      rw [if_neg (by decide)]
      by_cases hz : rd x.st i = 0
      · rw [if_pos hz]
        simp only [ref39_Valid.j3]
        rw [if_neg (by decide), hw]
      · obtain ⟨p1, p2, p3⟩ := h3 hz
        rw [if_neg hz, if_pos (by omega), if_pos (by omega), p1, if_neg (by decide), if_pos (by omega), p2, if_neg (by decide), if_pos (by omega)]
        show (if up l i ≥ 0 then _ else _) = _
        by_cases hup : up l i ≥ 0
        · rw [if_pos hup]
          show (if 0 ≤ up l i then if up l i < (x.st.length : Int) then ref39_Valid.j3 (k + 1) l (l.length : Int) (i : Int) (rd x.st (up l i) != 2) x.tm x.st x.si x.pu x.he else none else none) = _
          rw [if_pos hup, if_pos (by omega), p3 hup]
          simp only [ref39_Valid.j3]
          rw [if_neg (by decide), hw]
        · rw [if_neg hup]
          simp only [ref39_Valid.j3]
          rw [if_neg (by decide), hw]
    have no : ∀ k, ¬ LineOk l x i → ref39_Valid.l0 (k + 3) l (l.length : Int) (i : Int) x.tm x.st x.si x.pu x.he = some false := by
      intro k hno
      simp only [ref39_Valid.l0]
      rw [if_pos (by omega), if_pos (by omega), if_pos (by omega)]
      by_cases a1 : rd x.st i < 0
      · rw [if_pos a1]; simp [ref39_Valid.j2]
      rw [if_neg a1]
      by_cases a2 : rd x.st i > 2
      · rw [if_pos a2]; simp [ref39_Valid.j2]
      rw [if_neg a2, if_pos (by omega)]
      by_cases a3 : rd x.si i < 0
      · rw [if_pos a3]; simp [ref39_Valid.j2]
      rw [if_neg a3]
      by_cases a4 : rd x.si i > x.tm
      · rw [decide_eq_true a4]; simp [ref39_Valid.j2]
      rw [decide_eq_false a4]
      have h1 : 0 ≤ rd x.st i ∧ rd x.st i ≤ 2 := by omega
      have h2 : 0 ≤ rd x.si i ∧ rd x.si i ≤ x.tm := by omega
      simp only [ref39_Valid.j2]
      rw [if_neg (by decide)]
      have hz : rd x.st i ≠ 0 := fun hz => hno ⟨h1, h2, fun h => absurd hz h⟩
      rw [if_neg hz, if_pos (by omega), if_pos (by omega)]
      by_cases p1 : rdOf false x.pu i = true
      · rw [if_pos p1]
        simp [ref39_Valid.j3]
      rw [if_neg p1, if_pos (by omega)]
      by_cases p2 : rdOf false x.he i = true
      · rw [if_pos p2]
        simp [ref39_Valid.j3]
      rw [if_neg p2, if_pos (by omega)]
      show (if up l i ≥ 0 then _ else _) = _
      by_cases hup : up l i ≥ 0
      · rw [if_pos hup]
        show (if 0 ≤ up l i then if up l i < (x.st.length : Int) then ref39_Valid.j3 (k + 1) l (l.length : Int) (i : Int) (rd x.st (up l i) != 2) x.tm x.st x.si x.pu x.he else none else none) = _
        rw [if_pos hup, if_pos (by omega)]
        have : (rd x.st (up l i) != 2) = true := by
          by_cases h : rd x.st (up l i) = 2
          · exact absurd ⟨h1, h2, fun _ => ⟨by simpa using p1, by simpa using p2, fun _ => h⟩⟩ hno
          · simp [h]
        rw [this]
        simp [ref39_Valid.j3]
      · exact absurd ⟨h1, h2, fun _ => ⟨by simpa using p1, by simpa using p2, fun h => absurd h hup⟩⟩ hno
    by_cases hok : LineOk l x i
    · obtain ⟨b, ⟨K, hK⟩, hiff⟩ := ih (i + 1) (by omega) (fun j h0 h1 => by
        by_cases hji : j = i
        · rw [hji]; exact hok
        · exact hrow j h0 (by omega))
      refine ⟨b, ⟨K + 3, fun k hk => ?_⟩, hiff⟩
      obtain ⟨q, rfl⟩ : ∃ q, k = q + 3 := ⟨k - 3, by omega⟩
      show ref39_Valid.l0 (q + 3) l (l.length : Int) (i : Int) x.tm x.st x.si x.pu x.he = some b
      rw [go q hok]
      exact hK _ (by omega)
    · refine ⟨false, ⟨3, fun k hk => ?_⟩, ?_⟩
      · obtain ⟨q, rfl⟩ : ∃ q, k = q + 3 := ⟨k - 3, by omega⟩
        exact no q hok
      · constructor
        · intro h; cases h
        · intro h
          exact absurd (h i (by omega) (by omega)) hok
theorem rvalid_ev (l : List S31) (x : Ln) (hfit : Fit l.length) : ∃ b, Ev (fun k => ref39_Valid.f k l x.tm x.st x.si x.pu x.he) b ∧ (b = true ↔ Vl l x) := by
  obtain ⟨bs, hs, hsiff⟩ := rsound_ev l hfit
  have bad : Ev (fun k => ref39_Valid.j0 k l (l.length : Int) true x.tm x.st x.si x.pu x.he) false := by
    refine Ev.step (f := fun _ => some false) (fun k => ?_) (Ev.now _)
    simp [ref39_Valid.j0]
  have key : ∃ b, Ev (fun k => if bs = true then (if (x.st.length : Int) = (l.length : Int) then (if (x.si.length : Int) = (l.length : Int) then (if (x.pu.length : Int) = (l.length : Int) then (if (x.he.length : Int) = (l.length : Int) then (if x.tm < 0 then (ref39_Valid.j0 k l (l.length : Int) true x.tm x.st x.si x.pu x.he) else (ref39_Valid.j0 k l (l.length : Int) (decide (x.tm > 2147483648)) x.tm x.st x.si x.pu x.he)) else (ref39_Valid.j0 k l (l.length : Int) true x.tm x.st x.si x.pu x.he)) else (ref39_Valid.j0 k l (l.length : Int) true x.tm x.st x.si x.pu x.he)) else (ref39_Valid.j0 k l (l.length : Int) true x.tm x.st x.si x.pu x.he)) else (ref39_Valid.j0 k l (l.length : Int) true x.tm x.st x.si x.pu x.he)) else (ref39_Valid.j0 k l (l.length : Int) true x.tm x.st x.si x.pu x.he)) b ∧ (b = true ↔ Vl l x) := by
    have nope : ∀ {g : Nat → Option Bool}, (∀ k, g k = ref39_Valid.j0 k l (l.length : Int) true x.tm x.st x.si x.pu x.he) → ¬ Vl l x → ∃ b, Ev g b ∧ (b = true ↔ Vl l x) := fun hg hn => ⟨false, Ev.congr hg bad, by constructor; (intro h; cases h); intro h; exact absurd h hn⟩
    by_cases c0 : bs = true
    · by_cases c1 : (x.st.length : Int) = (l.length : Int)
      · by_cases c2 : (x.si.length : Int) = (l.length : Int)
        · by_cases c3 : (x.pu.length : Int) = (l.length : Int)
          · by_cases c4 : (x.he.length : Int) = (l.length : Int)
            · simp only [if_pos c0, if_pos c1, if_pos c2, if_pos c3, if_pos c4]
              by_cases c5 : 0 ≤ x.tm ∧ x.tm ≤ 2147483648
              · have hlen : Lens x l.length := ⟨by omega, by omega, by omega, by omega⟩
                obtain ⟨b, hb, hiff⟩ := rrows_ev l x hfit (hsiff.1 c0).inb hlen l.length 0 (by omega) (fun j h0 h1 => by omega)
                refine ⟨b, ?_, ?_⟩
                · refine Ev.step (f := fun k => ref39_Valid.l0 k l (l.length : Int) ((0 : Nat) : Int) x.tm x.st x.si x.pu x.he) (fun k => ?_) hb
                  rw [if_neg (by omega), decide_eq_false (by omega)]
                  simp [ref39_Valid.j0]
                · rw [hiff]
                  exact ⟨fun h => ⟨hsiff.1 c0, hlen, c5, h⟩, fun h => h.row⟩
              · exact nope (fun k => by
                  by_cases h : x.tm < 0
                  · rw [if_pos h]
                  · rw [if_neg h, decide_eq_true (by omega)]) (fun h => c5 h.tm)
            · exact nope (fun k => by rw [if_pos c0, if_pos c1, if_pos c2, if_pos c3, if_neg c4]) (fun h => c4 (by rw [h.len.e4]))
          · exact nope (fun k => by rw [if_pos c0, if_pos c1, if_pos c2, if_neg c3]) (fun h => c3 (by rw [h.len.e3]))
        · exact nope (fun k => by rw [if_pos c0, if_pos c1, if_neg c2]) (fun h => c2 (by rw [h.len.e2]))
      · exact nope (fun k => by rw [if_pos c0, if_neg c1]) (fun h => c1 (by rw [h.len.e1]))
    · exact nope (fun k => by rw [if_neg c0]) (fun h => c0 (hsiff.2 h.snd))
  obtain ⟨b, hb, hiff⟩ := key
  refine ⟨b, ?_, hiff⟩
  unfold ref39_Valid.f
  exact Ev.bind hs hb
end Go.Proofs.Ytejmjeanhlkenaa.HandA

/- The change of Wait, walked. -/
namespace Go.Proofs.Ytejmjeanhlkenaa.HandA
open Go.RowKit Go.Proofs.Ytejmjeanhlkenaa.PB Go.Proofs.YtejmjeanhlkenaaW.PrintWords Go.Proofs.YtejmjeanhlkenaaW.PrintLast Go.Proofs.YtejmjeanhlkenaaW.PrintMore
set_option linter.unusedVariables false
set_option linter.unusedSimpArgs false

theorem waitSt_zero (l : List S31) (t : Int) (st si : List Int) : waitSt l t 0 st si = st := by
  apply List.ext_getElem <;> simp [waitSt]
theorem waitSi_zero (l : List S31) (t : Int) (st si : List Int) : waitSi l t 0 st si = si := by
  apply List.ext_getElem <;> simp [waitSi]
theorem waitN_zero (l : List S31) (t : Int) (x : Ln) : waitN l t 0 x = { x with tm := t } := by simp [waitN, waitSt_zero, waitSi_zero]
theorem rd_waitSt (l : List S31) (t : Int) (n : Nat) (st si : List Int) : rd (waitSt l t n st si) (n : Int) = rd st n := by
  simp [rd, waitSt, List.getD_eq_getElem?_getD, List.getElem?_mapIdx]
theorem rd_waitSi (l : List S31) (t : Int) (n : Nat) (st si : List Int) : rd (waitSi l t n st si) (n : Int) = rd si n := by
  simp [rd, waitSi, List.getD_eq_getElem?_getD, List.getElem?_mapIdx]
theorem wait_lens {l : List S31} {t : Int} {n : Nat} {x : Ln} {N : Nat} (h : Lens x N) : Lens (waitN l t n x) N := ⟨by simp [waitN, waitSt, h.e1], by simp [waitN, waitSi, h.e2], h.e3, h.e4⟩
theorem rd_get {xs : List Int} {n : Nat} (h : n < xs.length) : xs[n] = rd xs (n : Int) := by
  simp [rd, h]
theorem getD_of_lt {α : Type} {xs : List α} {k : Nat} (d : α) (h : k < xs.length) : xs.getD k d = xs[k] := by simp [List.getD_eq_getElem?_getD, h]
theorem waitN_hit {l : List S31} {t : Int} {n N : Nat} {x : Ln} (hx : Lens x N) (hn : n < N) (h1 : rd x.st n = 1) (h2 : rd x.si n + warn l n ≤ t) :
    ({ tm := t, st := (waitN l t n x).st.set n 2, si := (waitN l t n x).si.set n (rd x.si n + warn l n), pu := x.pu, he := x.he } : Ln) = waitN l t (n + 1) x := by
  obtain ⟨e1, e2, e3, e4⟩ := hx
  have g1 : x.st[n]'(by omega) = 1 := by rw [← h1]; exact rd_get (by omega)
  have g2 : x.si[n]'(by omega) = rd x.si n := rd_get (by omega)
  simp only [waitN]
  congr 1
  · apply List.ext_getElem
    · simp [waitSt]
    · intro k q1 q2
      have hk : k < x.st.length := by simpa [waitSt] using q2
      simp only [waitSt, List.getElem_set, List.getElem_mapIdx]
      by_cases hkn : n = k
      · subst hkn
        rw [if_pos rfl, g1, getD_of_lt 0 (show n < x.si.length by omega), g2]
        simp [h2]
      · rw [if_neg hkn]
        by_cases hl : k < n
        · simp [hl, show k < n + 1 by omega]
        · simp [hl, show ¬ k < n + 1 by omega]
  · apply List.ext_getElem
    · simp [waitSi]
    · intro k q1 q2
      have hk : k < x.si.length := by simpa [waitSi] using q2
      simp only [waitSi, List.getElem_set, List.getElem_mapIdx]
      by_cases hkn : n = k
      · subst hkn
        rw [if_pos rfl, g2, getD_of_lt 0 (show n < x.st.length by omega), g1]
        simp [h2]
      · rw [if_neg hkn]
        by_cases hl : k < n
        · simp [hl, show k < n + 1 by omega]
        · simp [hl, show ¬ k < n + 1 by omega]
theorem waitN_miss {l : List S31} {t : Int} {n N : Nat} {x : Ln} (hx : Lens x N) (hn : n < N) (h : rd x.st n ≠ 1 ∨ t < rd x.si n + warn l n) : waitN l t n x = waitN l t (n + 1) x := by
  obtain ⟨e1, e2, e3, e4⟩ := hx
  have g1 : x.st[n]'(by omega) = rd x.st n := rd_get (by omega)
  have g2 : x.si[n]'(by omega) = rd x.si n := rd_get (by omega)
  have hno : ¬ (rd x.st n = 1 ∧ rd x.si n + warn l n ≤ t) := by
    rintro ⟨a, b⟩
    rcases h with h | h
    · exact h a
    · omega
  simp only [waitN]
  congr 1
  · apply List.ext_getElem
    · simp [waitSt]
    · intro k q1 q2
      have hk : k < x.st.length := by simpa [waitSt] using q2
      simp only [waitSt, List.getElem_mapIdx]
      by_cases hkn : n = k
      · subst hkn
        rw [g1, getD_of_lt 0 (show n < x.si.length by omega), g2, if_neg (by omega), if_neg (by rintro ⟨_, a⟩; exact hno a)]
      · by_cases hl : k < n
        · simp [hl, show k < n + 1 by omega]
        · simp [hl, show ¬ k < n + 1 by omega]
  · apply List.ext_getElem
    · simp [waitSi]
    · intro k q1 q2
      have hk : k < x.si.length := by simpa [waitSi] using q2
      simp only [waitSi, List.getElem_mapIdx]
      by_cases hkn : n = k
      · subst hkn
        rw [g2, getD_of_lt 0 (show n < x.st.length by omega), g1, if_neg (by omega), if_neg (by rintro ⟨_, a⟩; exact hno a)]
      · by_cases hl : k < n
        · simp [hl, show k < n + 1 by omega]
        · simp [hl, show ¬ k < n + 1 by omega]
/-- A store into the time. -/
theorem Own.setTm {W : World} {base B : Nat} {v1 v2 v3 v4 : Value} {x : Ln} (h : Own W base B v1 v2 v3 v4 x) (t : Int) : Own (W.setCell ⟨B, 0, none⟩ (.int .i64 t)) base B v1 v2 v3 v4 { x with tm := t } :=
  ⟨blk_set h.box 0 (.int .i64 t), h.hB, R_sameT h.r1 ((Same.refl W B).set 0 _) h.box (by decide), R_sameT h.r2 ((Same.refl W B).set 0 _) h.box (by decide), R_sameT h.r3 ((Same.refl W B).set 0 _) h.box (by decide), R_sameT h.r4 ((Same.refl W B).set 0 _) h.box (by decide)⟩

set_option maxHeartbeats 4000000 in
set_option maxRecDepth 100000 in
theorem wait_change (l : List S31) (A : Option Addr) (c : Nat) (x : Ln) (t : Int) (L T : Nat) (w : World) (hl : Kd.C k31 w A l.length l) (hs : Snd l) (hx : Lens x l.length)
    (hsi : ∀ k : Nat, k < l.length → 0 ≤ rd x.si k ∧ rd x.si k ≤ 2147483648)
    (hT : w.cell? ⟨T, 0, none⟩ = some (.int .i64 t)) (hL : w.cell? ⟨L, 0, none⟩ = some (.slice A l.length c)) :
    Change Try.prog w 34 #[.pointer (some ⟨T, 0, none⟩), .pointer (some ⟨L, 0, none⟩)] x (waitN l t l.length x) := by
  intro W B v1 v2 v3 v4 hb ho
  have hlen := hs.len
  obtain ⟨g1, c1, g2, c2, g3, c3, g4, c4, rfl, rfl, rfl, rfl⟩ := ho.form hx (by omega)
  have kT := pw_cell_below hb hT
  obtain ⟨m1, m2, m3, m4, m5⟩ := ho.ne_old hT
  obtain ⟨p1, p2, p3, p4, p5⟩ := ho.ne_old hL
  obtain ⟨hne, n0, n1, n2, n3, n4, b1, b2, _⟩ := ho.facts
  have hB := ho.hB
  have k0 : W.cell? ⟨B, 0, none⟩ = some (.int .i64 x.tm) := (blk_cell ho.box 0).trans rfl
  have k1 : W.cell? ⟨B, 1, none⟩ = some (.slice (some ⟨g1, 0, none⟩) l.length c1) := (blk_cell ho.box 1).trans rfl
  have f0 := blk_frozen ho.box 0
  have HO := Aside0.mk ho
  have HB := Aside0.mk hb
  have HL := Aside0.mk hl
  have HS := Aside0.mk hs
  have HLc := Aside0.mk hL
  have HTc := Aside0.mk hT
  have HX := Aside0.mk hx
  have HSI := Aside0.mk hsi
  clear ho hb hl hs hL hT hx hsi
  go_enter Try.func34, Try.ntmps34
  go_wp2_with fail
  go_loopg [16] l.length (fun m v16 w' => ∃ n : Nat, v16 = .int .i64 n ∧ n + m = l.length ∧ Aside0 (Own w' w.heap.size B (.slice (some ⟨g1, 0, none⟩) l.length c1) (.slice (some ⟨g2, 0, none⟩) l.length c2) (.slice (some ⟨g3, 0, none⟩) l.length c3) (.slice (some ⟨g4, 0, none⟩) l.length c4) (waitN l t n x)) ∧
    Aside0 (Below w.heap.size w w') ∧ Aside0 (Kept W w' (Rows B (.slice (some ⟨g1, 0, none⟩) l.length c1) (.slice (some ⟨g2, 0, none⟩) l.length c2) (.slice (some ⟨g3, 0, none⟩) l.length c3) (.slice (some ⟨g4, 0, none⟩) l.length c4))))
  case atStart => exact ⟨0, rfl, by omega, ⟨by rw [waitN_zero]; exact HO.out.setTm t⟩, ⟨below_set HB.out hB⟩, ⟨(Kept.refl W _).setCell (p := ⟨B, 0, none⟩) (.inl (.inl rfl)) _⟩⟩
  case round =>
    clear k0 k1 f0 kT
    obtain ⟨n, rfl, hm, hO, hBw, hK⟩ := hrel
    by_cases hn : n < l.length
    · obtain ⟨E1, F1⟩ := hO.out.cell1 (n : Int) (by omega) (by omega)
      obtain ⟨E2, F2⟩ := hO.out.cell2 (n : Int) (by omega) (by omega)
      have er : rd (waitN l t n x).st (n : Int) = rd x.st n := rd_waitSt l t n x.st x.si
      have er2 : rd (waitN l t n x).si (n : Int) = rd x.si n := rd_waitSi l t n x.st x.si
      rw [er] at E1
      rw [er2] at E2
      clear er er2
      simp only [Int.toNat_natCast] at E1 F1 E2 F2
      have k0 : wr.cell? ⟨B, 0, none⟩ = some (.int .i64 t) := (blk_cell hO.out.box 0).trans rfl
      have k1 : wr.cell? ⟨B, 1, none⟩ = some (.slice (some ⟨g1, 0, none⟩) l.length c1) := (blk_cell hO.out.box 1).trans rfl
      have k2 : wr.cell? ⟨B, 2, none⟩ = some (.slice (some ⟨g2, 0, none⟩) l.length c2) := (blk_cell hO.out.box 2).trans rfl
      obtain ⟨m, rfl⟩ : ∃ q, gk = q + 1 := ⟨gk - 1, by omega⟩
      have kT := pw_cell_below hBw.out HTc.out
      have kL := pw_cell_below hBw.out HLc.out
      obtain ⟨ad, e', d0, d1⟩ := at_T31 HL.out (n : Int) (by omega) (by omega)
      cases e'
      have D1 : wr.cell? ⟨(ad.add (n * 2)).block, (ad.add (n * 2)).off + 1, none⟩ = some (.int .i64 (warn l n)) := pw_cell_below hBw.out (by have d2 := d1; simp only [Int.toNat_natCast] at d2; exact d2)
      clear d0 d1
      have hw := HS.out.wn (n : Int) (by omega) (by omega)
      have hsi := HSI.out n hn
      have sum : IntKind.i64.wrap (rd x.si n + warn l n) = rd x.si n + warn l n := IntWalk.i64_in _ (by omega)
      have hcl : (n : Int) < l.length := by omega
      by_cases h1 : rd x.st n = 1
      · have h1b : (rd x.st n == 1) = true := by simp [h1]
        have H1 := Aside0.mk h1
        clear h1
        by_cases h2 : rd x.si n + warn l n ≤ t
        · have H2 := Aside0.mk h2
          have h2b : decide (rd x.si n + warn l n ≤ t) = true := decide_eq_true h2
          clear h2
          go_wp2_with fail
          go_quiet (fail)
          go_wp2_with fail
          go_region_held3 (fun w' => w'.cell? ⟨B, 0, none⟩ = some (.int .i64 t) ∧ w'.cell? ⟨B, 1, none⟩ = some (.slice (some ⟨g1, 0, none⟩) l.length c1) ∧ w'.cell? ⟨B, 2, none⟩ = some (.slice (some ⟨g2, 0, none⟩) l.length c2)) (go_keep) (fail)
          go_wp2_with fail
          go_roundg m
          case measure => omega
          case rel =>
            have hO2 := hO.out.drewN (nq + 1)
            obtain ⟨_, _, _, _, _, _, _, _, _, _, ⟨cs1, hc1⟩, ⟨cs2, hc2⟩, _, _⟩ := hO2.facts
            have e1 := (hO2.setSt hO2.len1 n1 hc1 (n : Int) 2).setSi hO2.len2 n2 (blk_far hc2 (Ne.symm hne) _) (n : Int) (rd x.si n + warn l n)
            simp only [Int.toNat_natCast] at e1
            have e2 := waitN_hit HX.out hn H1.out H2.out
            have e3 := e2 ▸ e1
            exact ⟨n + 1, by go_num, by omega, ⟨e3⟩, ⟨below_set (below_set (pw_below_drewN hBw.out _) b1) b2⟩, ⟨((hK.out.drewN _).setCell (p := ⟨g1, n, none⟩) (.inl (.inr (.inl rfl))) _).setCell (p := ⟨g2, n, none⟩) (.inl (.inr (.inr (.inl rfl)))) _⟩⟩
        · have H2 := Aside0.mk h2
          have h2b : decide (rd x.si n + warn l n ≤ t) = false := decide_eq_false h2
          clear h2
          go_wp2_with fail
          go_quiet (fail)
          go_wp2_with fail
          go_roundg m
          case measure => omega
          case rel => exact ⟨n + 1, by go_num, by omega, ⟨by rw [← waitN_miss HX.out hn (.inr (by have := H2.out; omega))]; exact hO.out.drewN _⟩, ⟨pw_below_drewN hBw.out _⟩, ⟨hK.out.drewN _⟩⟩
      · have h1b : (rd x.st n == 1) = false := by simp [h1]
        have H1 := Aside0.mk h1
        clear h1
        go_wp2_with fail
        go_quiet (fail)
        go_wp2_with fail
        go_roundg m
        case measure => omega
        case rel => exact ⟨n + 1, by go_num, by omega, ⟨by rw [← waitN_miss HX.out hn (.inl H1.out)]; exact hO.out.drewN _⟩, ⟨pw_below_drewN hBw.out _⟩, ⟨hK.out.drewN _⟩⟩
    · obtain rfl : n = l.length := by omega
      go_wp2_with fail
      go_end0
      exact ⟨⟨_, rfl⟩, hO.out, hBw.out, hK.out⟩
end Go.Proofs.Ytejmjeanhlkenaa.HandA

/- The contracts of Valid and checked, of the program and of the reference, in plain words. -/
namespace Go.Proofs.Ytejmjeanhlkenaa.HandA
set_option linter.unusedSimpArgs false
set_option linter.unusedVariables false
open Go.RowKit Go.Proofs.Ytejmjeanhlkenaa.PB Go.Proofs.YtejmjeanhlkenaaW.PrintWords Go.Proofs.YtejmjeanhlkenaaW.PrintLast Go.Proofs.YtejmjeanhlkenaaW.PrintMore
open Classical in
noncomputable def vlB (l : List S31) (x : Ln) : Bool := decide (Vl l x)
theorem vlB_iff {l : List S31} {x : Ln} : vlB l x = true ↔ Vl l x := by unfold vlB; simp
/-- What is wrong with a line, or a belt. -/
noncomputable def chk (l : List S31) (x : Ln) (i : Int) : Int := if vlB l x = true then (if 0 ≤ i ∧ i < l.length then 0 else 52) else 6
theorem valid_f (l : List S31) (x : Ln) (hfit : Fit l.length) : ∃ k, belts_Valid.f k l x.tm x.st x.si x.pu x.he = some (vlB l x) := by
  obtain ⟨b, hb, hiff⟩ := valid_ev l x hfit
  obtain ⟨k, hk⟩ := hb.rounds
  refine ⟨k, hk.trans ?_⟩
  congr 1
  rw [Bool.eq_iff_iff, hiff, vlB_iff]
theorem rvalid_f (l : List S31) (x : Ln) (hfit : Fit l.length) : ∃ k, ref39_Valid.f k l x.tm x.st x.si x.pu x.he = some (vlB l x) := by
  obtain ⟨b, hb, hiff⟩ := rvalid_ev l x hfit
  obtain ⟨k, hk⟩ := hb.rounds
  refine ⟨k, hk.trans ?_⟩
  congr 1
  rw [Bool.eq_iff_iff, hiff, vlB_iff]
theorem valid_calls (l : List S31) (A : Option Addr) (c : Nat) (x : Ln) (a : La) (w : World) (hl : Kd.C k31 w A l.length l) (hc : l.length ≤ c) (hfit : Fit l.length) (hx : LC w a x) :
    Calls Try.prog 28 #[.slice A l.length c, .agg #[.int .i64 x.tm, .slice a.A1 x.st.length a.c1, .slice a.A2 x.si.length a.c2, .slice a.A3 x.pu.length a.c3, .slice a.A4 x.he.length a.c4]] w fun e w' => e = .returned (.bool (vlB l x)) ∧ Below w.heap.size w w' := by
  obtain ⟨k, hk⟩ := valid_f l x hfit
  exact belts_Valid.calls k A c l x.tm a.A1 a.c1 x.st a.A2 a.c2 x.si a.A3 a.c3 x.pu a.A4 a.c4 x.he _ w hl hc hx.r1 hx.l1 hx.r2 hx.l2 hx.r3 hx.l3 hx.r4 hx.l4 hk
theorem rvalid_calls (l : List S31) (A : Option Addr) (c : Nat) (x : Ln) (a : La) (w : World) (hl : Kd.C k31 w A l.length l) (hc : l.length ≤ c) (hfit : Fit l.length) (hx : LC w a x) :
    Calls Try.prog 41 #[.slice A l.length c, .agg #[.int .i64 x.tm, .slice a.A1 x.st.length a.c1, .slice a.A2 x.si.length a.c2, .slice a.A3 x.pu.length a.c3, .slice a.A4 x.he.length a.c4]] w fun e w' => e = .returned (.bool (vlB l x)) ∧ Below w.heap.size w w' := by
  obtain ⟨k, hk⟩ := rvalid_f l x hfit
  exact ref39_Valid.calls k A c l x.tm a.A1 a.c1 x.st a.A2 a.c2 x.si a.A3 a.c3 x.pu a.A4 a.c4 x.he _ w hl hc hx.r1 hx.l1 hx.r2 hx.l2 hx.r3 hx.l3 hx.r4 hx.l4 hk
theorem checked_calls (l : List S31) (A : Option Addr) (c : Nat) (x : Ln) (a : La) (i : Int) (w : World) (hl : Kd.C k31 w A l.length l) (hc : l.length ≤ c) (hfit : Fit l.length) (hx : LC w a x) :
    Calls Try.prog 30 #[.slice A l.length c, .agg #[.int .i64 x.tm, .slice a.A1 x.st.length a.c1, .slice a.A2 x.si.length a.c2, .slice a.A3 x.pu.length a.c3, .slice a.A4 x.he.length a.c4], .int .i64 i] w fun e w' => e = .returned (.int .i64 (chk l x i)) ∧ Below w.heap.size w w' := by
  obtain ⟨k, hk⟩ := valid_f l x hfit
  refine belts_checked.calls k A c l x.tm a.A1 a.c1 x.st a.A2 a.c2 x.si a.A3 a.c3 x.pu a.A4 a.c4 x.he i _ w hl hc hx.r1 hx.l1 hx.r2 hx.l2 hx.r3 hx.l3 hx.r4 hx.l4 ?_
  unfold belts_checked.f
  have e1 : wrap64 ((l.length : Int) - 1) = (l.length : Int) - 1 := w64' (by omega) (by unfold Fit at hfit; omega)
  rw [hk]
  simp only [Option.bind_some, In_eq, e1]
  unfold chk
  by_cases h1 : vlB l x = true
  · rw [if_pos h1, if_pos h1]
    by_cases h2 : 0 ≤ i ∧ i < l.length
    · rw [if_pos (by simp; omega), if_pos h2]
    · rw [if_neg (by simp; omega), if_neg h2]
  · rw [if_neg h1, if_neg h1]
theorem rcheck_calls (l : List S31) (A : Option Addr) (c : Nat) (x : Ln) (a : La) (i : Int) (w : World) (hl : Kd.C k31 w A l.length l) (hc : l.length ≤ c) (hfit : Fit l.length) (hx : LC w a x) :
    Calls Try.prog 57 #[.slice A l.length c, .agg #[.int .i64 x.tm, .slice a.A1 x.st.length a.c1, .slice a.A2 x.si.length a.c2, .slice a.A3 x.pu.length a.c3, .slice a.A4 x.he.length a.c4], .int .i64 i] w fun e w' => e = .returned (.int .i64 (chk l x i)) ∧ Below w.heap.size w w' := by
  obtain ⟨b, hb, hiff⟩ := rvalid_ev l x hfit
  have hbv : b = vlB l x := by rw [Bool.eq_iff_iff, hiff, vlB_iff]
  have hE : Ev (fun k => ref39_check.f k l x.tm x.st x.si x.pu x.he i) (chk l x i) := by
    unfold ref39_check.f
    refine Ev.bind hb ?_
    unfold chk
    rw [← hbv]
    by_cases h1 : b = true
    · simp only [if_pos h1]
      have j : ∀ b : Bool, Ev (fun k => ref39_check.j0 k b) (if b = true then 52 else 0) := by
        intro b
        refine Ev.step (f := fun _ => some (if b = true then 52 else 0)) (fun k => ?_) (Ev.now _)
        cases b <;> simp [ref39_check.j0]
      by_cases h2 : i < 0
      · simp only [if_pos h2]
        rw [if_neg (by omega)]
        exact j true
      · simp only [if_neg h2]
        by_cases h3 : i ≥ l.length
        · rw [decide_eq_true h3, if_neg (by omega)]
          exact j true
        · rw [decide_eq_false h3, if_pos (by omega)]
          exact j false
    · simp only [if_neg h1]
      exact Ev.now _
  obtain ⟨k, hk⟩ := hE.rounds
  exact ref39_check.calls k A c l x.tm a.A1 a.c1 x.st a.A2 a.c2 x.si a.A3 a.c3 x.pu a.A4 a.c4 x.he i _ w hl hc hx.r1 hx.l1 hx.r2 hx.l2 hx.r3 hx.l3 hx.r4 hx.l4 hk
/-- A line that was made can be read. -/
theorem Made.form {w : World} {base : Nat} {v1 v2 v3 v4 : Value} {x : Ln} (h : Made w base v1 v2 v3 v4 x) :
    ∃ a : La, v1 = .slice a.A1 x.st.length a.c1 ∧ v2 = .slice a.A2 x.si.length a.c2 ∧ v3 = .slice a.A3 x.pu.length a.c3 ∧ v4 = .slice a.A4 x.he.length a.c4 ∧ LC w a x := by
  obtain ⟨A1, c1, e1, l1, r1⟩ := Kd.R_reads h.r1
  obtain ⟨A2, c2, e2, l2, r2⟩ := Kd.R_reads h.r2
  obtain ⟨A3, c3, e3, l3, r3⟩ := Kd.R_reads h.r3
  obtain ⟨A4, c4, e4, l4, r4⟩ := Kd.R_reads h.r4
  exact ⟨⟨A1, c1, A2, c2, A3, c3, A4, c4⟩, e1, e2, e3, e4, r1, l1, r2, l2, r3, l3, r4, l4⟩
end Go.Proofs.Ytejmjeanhlkenaa.HandA
