import Derived.Test.YtejmjeanhlkenaaCD
/- The changes that are made to a copy of a line. -/
namespace Go.Proofs.Ytejmjeanhlkenaa.HandA
open Go.RowKit Go.Proofs.Ytejmjeanhlkenaa.PB Go.Proofs.YtejmjeanhlkenaaW.PrintWords Go.Proofs.YtejmjeanhlkenaaW.PrintLast Go.Proofs.YtejmjeanhlkenaaW.PrintMore
set_option linter.unusedVariables false
set_option linter.unusedSimpArgs false

/-- A store into the states. -/
theorem Own.setSt {W : World} {base B g n c : Nat} {v2 v3 v4 : Value} {x : Ln} (h : Own W base B (.slice (some ⟨g, 0, none⟩) n c) v2 v3 v4 x) (hn : n = x.st.length) (hg : g ≠ B) {cs : Array Value} (hc : W.heap[g]? = some (.cells cs 3 (0, 0))) (i z : Int) :
    Own (W.setCell ⟨g, i.toNat, none⟩ (.int .i64 z)) base B (.slice (some ⟨g, 0, none⟩) n c) v2 v3 v4 { x with st := x.st.set i.toNat z } := by
  subst hn
  refine ⟨(Below.heap_setCell W ⟨g, i.toNat, none⟩ _ B (Ne.symm hg)).trans h.box, h.hB, ?_, ?_, ?_, ?_⟩
  · exact (Kd.R_put h.r1 i z).1
  · exact Kd.R_far (p := ⟨g, i.toNat, none⟩) h.r2 (fun k hk => by rintro rfl; exact hk rfl) _
  · exact Kd.R_mono (Kd.R_far (p := ⟨g, i.toNat, none⟩) (Kd.R_types h.r3 hc (by decide)) (fun k hk => hk.2) _) (fun _ hk => hk.1)
  · exact Kd.R_mono (Kd.R_far (p := ⟨g, i.toNat, none⟩) (Kd.R_types h.r4 hc (by decide)) (fun k hk => hk.2) _) (fun _ hk => hk.1)
/-- A store into the times. -/
theorem Own.setSi {W : World} {base B g n c : Nat} {v1 v3 v4 : Value} {x : Ln} (h : Own W base B v1 (.slice (some ⟨g, 0, none⟩) n c) v3 v4 x) (hn : n = x.si.length) (hg : g ≠ B) {cs : Array Value} (hc : W.heap[g]? = some (.cells cs 3 (0, 0))) (i z : Int) :
    Own (W.setCell ⟨g, i.toNat, none⟩ (.int .i64 z)) base B v1 (.slice (some ⟨g, 0, none⟩) n c) v3 v4 { x with si := x.si.set i.toNat z } := by
  subst hn
  refine ⟨(Below.heap_setCell W ⟨g, i.toNat, none⟩ _ B (Ne.symm hg)).trans h.box, h.hB, ?_, ?_, ?_, ?_⟩
  · exact Kd.R_far (p := ⟨g, i.toNat, none⟩) h.r1 (fun k hk => by rintro rfl; exact hk rfl) _
  · exact (Kd.R_put h.r2 i z).1
  · exact Kd.R_mono (Kd.R_far (p := ⟨g, i.toNat, none⟩) (Kd.R_types h.r3 hc (by decide)) (fun k hk => hk.2) _) (fun _ hk => hk.1)
  · exact Kd.R_mono (Kd.R_far (p := ⟨g, i.toNat, none⟩) (Kd.R_types h.r4 hc (by decide)) (fun k hk => hk.2) _) (fun _ hk => hk.1)
/-- A store into the cords. -/
theorem Own.setPu {W : World} {base B g n c : Nat} {v1 v2 v4 : Value} {x : Ln} (h : Own W base B v1 v2 (.slice (some ⟨g, 0, none⟩) n c) v4 x) (hn : n = x.pu.length) (hg : g ≠ B) {cs : Array Value} (hc : W.heap[g]? = some (.cells cs 4 (0, 0))) (i : Int) (z : Bool) :
    Own (W.setCell ⟨g, i.toNat, none⟩ (.bool z)) base B v1 v2 (.slice (some ⟨g, 0, none⟩) n c) v4 { x with pu := x.pu.set i.toNat z } := by
  subst hn
  refine ⟨(Below.heap_setCell W ⟨g, i.toNat, none⟩ _ B (Ne.symm hg)).trans h.box, h.hB, ?_, ?_, ?_, ?_⟩
  · exact Kd.R_mono (Kd.R_far (p := ⟨g, i.toNat, none⟩) (Kd.R_types h.r1 hc (by decide)) (fun k hk => hk.2) _) (fun _ hk => hk.1)
  · exact Kd.R_mono (Kd.R_far (p := ⟨g, i.toNat, none⟩) (Kd.R_types h.r2 hc (by decide)) (fun k hk => hk.2) _) (fun _ hk => hk.1)
  · exact (Kd.R_put h.r3 i z).1
  · exact Kd.R_far (p := ⟨g, i.toNat, none⟩) h.r4 (fun k hk => by rintro rfl; exact hk rfl) _
/-- A store into what is held. -/
theorem Own.setHe {W : World} {base B g n c : Nat} {v1 v2 v3 : Value} {x : Ln} (h : Own W base B v1 v2 v3 (.slice (some ⟨g, 0, none⟩) n c) x) (hn : n = x.he.length) (hg : g ≠ B) {cs : Array Value} (hc : W.heap[g]? = some (.cells cs 4 (0, 0))) (i : Int) (z : Bool) :
    Own (W.setCell ⟨g, i.toNat, none⟩ (.bool z)) base B v1 v2 v3 (.slice (some ⟨g, 0, none⟩) n c) { x with he := x.he.set i.toNat z } := by
  subst hn
  refine ⟨(Below.heap_setCell W ⟨g, i.toNat, none⟩ _ B (Ne.symm hg)).trans h.box, h.hB, ?_, ?_, ?_, ?_⟩
  · exact Kd.R_mono (Kd.R_far (p := ⟨g, i.toNat, none⟩) (Kd.R_types h.r1 hc (by decide)) (fun k hk => hk.2) _) (fun _ hk => hk.1)
  · exact Kd.R_mono (Kd.R_far (p := ⟨g, i.toNat, none⟩) (Kd.R_types h.r2 hc (by decide)) (fun k hk => hk.2) _) (fun _ hk => hk.1)
  · exact Kd.R_far (p := ⟨g, i.toNat, none⟩) h.r3 (fun k hk => by rintro rfl; exact hk rfl) _
  · exact (Kd.R_put h.r4 i z).1
theorem Own.drewN {W : World} {base B : Nat} {v1 v2 v3 v4 : Value} {x : Ln} (h : Own W base B v1 v2 v3 v4 x) (m : Nat) : Own (W.drewN m) base B v1 v2 v3 v4 x := ⟨h.box, h.hB, Kd.R_drewN h.r1 m, Kd.R_drewN h.r2 m, Kd.R_drewN h.r3 m, Kd.R_drewN h.r4 m⟩
theorem Own.drew {W : World} {base B : Nat} {v1 v2 v3 v4 : Value} {x : Ln} (h : Own W base B v1 v2 v3 v4 x) : Own W.drew base B v1 v2 v3 v4 x := ⟨h.box, h.hB, Kd.R_drew h.r1, Kd.R_drew h.r2, Kd.R_drew h.r3, Kd.R_drew h.r4⟩

set_option maxHeartbeats 4000000 in
set_option maxRecDepth 100000 in
theorem start_change (x : Ln) (i : Int) (I : Nat) (w : World) (hI : w.cell? ⟨I, 0, none⟩ = some (.int .i64 i)) (h0 : 0 ≤ i) (h1 : i < x.st.length) (h2 : i < x.si.length) :
    Change Try.prog w 32 #[.pointer (some ⟨I, 0, none⟩)] x { x with st := x.st.set i.toNat 1, si := x.si.set i.toNat x.tm } := by
  intro W B v1 v2 v3 v4 hb ho
  obtain ⟨g1, c1, rfl, b1, l1, cs1, hc1⟩ := Kd.R_form ho.r1 (by omega)
  obtain ⟨g2, c2, rfl, b2, l2, cs2, hc2⟩ := Kd.R_form ho.r2 (by omega)
  have e1 := Kd.R_cell 0 ho.r1 i h0 h1
  have e2 := Kd.R_cell 0 ho.r2 i h0 h2
  have hne : g1 ≠ g2 := fun e => (ho.r1.1 g1 rfl) (by rw [e]; rfl)
  have n1 : g1 ≠ B := fun e => Kd.R_ne ho.r1 ho.box (by decide) (by rw [e]; rfl)
  have n2 : g2 ≠ B := fun e => Kd.R_ne ho.r2 ho.box (by decide) (by rw [e]; rfl)
  have k0 := (blk_cell ho.box 0).trans rfl
  have k1 := (blk_cell ho.box 1).trans rfl
  have k2 := (blk_cell ho.box 2).trans rfl
  have kI := pw_cell_below hb hI
  have hIl := World.block_lt_of_cell? w _ hI
  have hB := ho.hB
  have m1 : g1 ≠ I := by dsimp only at hIl; omega
  have m2 : g2 ≠ I := by dsimp only at hIl; omega
  have HO := Aside0.mk ho
  have HB := Aside0.mk hb
  have HC1 := Aside0.mk hc1
  have HC2 := Aside0.mk hc2
  clear ho hb hI hIl hc1 hc2 hB l1 l2
  obtain ⟨E1, F1⟩ := e1
  obtain ⟨E2, F2⟩ := e2
  go_enter Try.func32, Try.ntmps32
  go_region_held3 (fun w' => w'.cell? ⟨B, 0, none⟩ = some (.int .i64 x.tm) ∧ w'.cell? ⟨B, 1, none⟩ = some (.slice (some ⟨g1, 0, none⟩) x.st.length c1) ∧ w'.cell? ⟨B, 2, none⟩ = some (.slice (some ⟨g2, 0, none⟩) x.si.length c2) ∧ w'.cell? ⟨I, 0, none⟩ = some (.int .i64 i)) (go_keep) (fail)
  go_end0
  exact ⟨⟨_, rfl⟩, (((HO.out.setSt rfl n1 HC1.out i 1).setSi rfl n2 (blk_far HC2.out (Ne.symm hne) _) i x.tm).drew), below_drew1 (below_set (below_set HB.out b1) b2), (((Kept.refl W _).setCell (p := ⟨g1, i.toNat, none⟩) (.inl (.inr (.inl rfl))) _).setCell (p := ⟨g2, i.toNat, none⟩) (.inl (.inr (.inr (.inl rfl)))) _).drew⟩
end Go.Proofs.Ytejmjeanhlkenaa.HandA

/- Belts in plain Lean: where a belt throws, what is stopped, what a line becomes. -/
namespace Go.Proofs.Ytejmjeanhlkenaa.HandA
open Go.Proofs.Ytejmjeanhlkenaa.PB Go.Proofs.YtejmjeanhlkenaaW.PrintWords
/-- Onto which belt a belt throws. -/
def up (l : List S31) (i : Int) : Int := (rd_T31 l i).f0
def warn (l : List S31) (i : Int) : Int := (rd_T31 l i).f1
/-- The way from a belt ends, within so many belts. -/
def ends (l : List S31) : Nat → Int → Bool
  | 0, i => decide (i < 0)
  | n + 1, i => decide (i < 0) || ends l n (up l i)
/-- A belt is on the way from another one. -/
def thr (l : List S31) : Nat → Int → Int → Bool
  | 0, _, _ => false
  | n + 1, i, onto => decide (0 ≤ i) && (i == onto || thr l n (up l i) onto)
/-- Every belt throws onto one that is there, or onto none. -/
def Inb (l : List S31) : Prop := ∀ i : Int, 0 ≤ i → i < l.length → -1 ≤ up l i ∧ up l i < l.length
structure Snd (l : List S31) : Prop where
  len : 1 ≤ l.length ∧ l.length ≤ 24
  inb : Inb l
  self : ∀ i : Int, 0 ≤ i → i < l.length → up l i ≠ i
  wn : ∀ i : Int, 0 ≤ i → i < l.length → 0 ≤ warn l i ∧ warn l i ≤ 120
  en : ∀ i : Int, 0 ≤ i → i < l.length → ends l l.length i = true
def throwsF (l : List S31) (i onto : Int) : Bool := thr l l.length (up l i) onto
/-- A belt is stopped with another one. -/
def hit (l : List S31) (i k : Int) : Bool := k == i || throwsF l k i
theorem ends_neg {l : List S31} {n : Nat} {i : Int} (h : i < 0) : ends l n i = true := by
  cases n <;> simp [ends, h]
theorem ends_step {l : List S31} {n : Nat} {i : Int} (h : ends l n i = true) (hi : 0 ≤ i) : ∃ m, n = m + 1 ∧ ends l m (up l i) = true := by
  cases n with
  | zero => simp [ends] at h; omega
  | succ m =>
    refine ⟨m, rfl, ?_⟩
    simpa [ends, show ¬ i < 0 by omega] using h
theorem ends_more {l : List S31} : ∀ {n m : Nat} {i : Int}, n ≤ m → ends l n i = true → ends l m i = true := by
  intro n
  induction n with
  | zero => intro m i _ h; exact ends_neg (by simpa [ends] using h)
  | succ n ih =>
    intro m i hm h
    obtain ⟨m, rfl⟩ : ∃ q, m = q + 1 := ⟨m - 1, by omega⟩
    simp only [ends, Bool.or_eq_true] at h ⊢
    rcases h with h | h
    · exact .inl h
    · exact .inr (ih (by omega) h)
theorem ends_up {l : List S31} (h : Snd l) {i : Int} (h0 : 0 ≤ i) (h1 : i < l.length) : ends l l.length (up l i) = true := by
  obtain ⟨m, hm, he⟩ := ends_step (h.en i h0 h1) h0
  exact ends_more (by omega) he
/-- Part of the states once the first n belts are stopped. -/
def stopSt (l : List S31) (i : Int) (n : Nat) (st : List Int) : List Int := st.mapIdx fun k s => if k < n ∧ hit l i k = true then 0 else s
def stopSi (l : List S31) (i tm : Int) (n : Nat) (st si : List Int) : List Int := si.mapIdx fun k t => if k < n ∧ hit l i k = true ∧ st.getD k 0 ≠ 0 then tm else t
/-- A line with a belt stopped, and all that throw onto it. -/
def stopN (l : List S31) (i : Int) (n : Nat) (x : Ln) : Ln := { x with st := stopSt l i n x.st, si := stopSi l i x.tm n x.st x.si }
def stopF (l : List S31) (i : Int) (x : Ln) : Ln := stopN l i l.length x
theorem stopSt_len (l : List S31) (i : Int) (n : Nat) (st : List Int) : (stopSt l i n st).length = st.length := by simp [stopSt]
theorem stopSi_len (l : List S31) (i tm : Int) (n : Nat) (st si : List Int) : (stopSi l i tm n st si).length = si.length := by simp [stopSi]
theorem stopSt_zero (l : List S31) (i : Int) (st : List Int) : stopSt l i 0 st = st := by
  apply List.ext_getElem <;> simp [stopSt]
theorem stopSi_zero (l : List S31) (i tm : Int) (st si : List Int) : stopSi l i tm 0 st si = si := by
  apply List.ext_getElem <;> simp [stopSi]
theorem stopN_zero (l : List S31) (i : Int) (x : Ln) : stopN l i 0 x = x := by simp [stopN, stopSt_zero, stopSi_zero]
theorem rd_stopSt (l : List S31) (i : Int) (n : Nat) (st : List Int) : rd (stopSt l i n st) (n : Int) = rd st n := by
  simp [rd, stopSt, List.getD_eq_getElem?_getD, List.getElem?_mapIdx]
theorem stopSt_hit {l : List S31} {i : Int} {n : Nat} {st : List Int} (h : hit l i n = true) : (stopSt l i n st).set n 0 = stopSt l i (n + 1) st := by
  apply List.ext_getElem
  · simp [stopSt]
  · intro k h1 h2
    simp only [stopSt, List.getElem_set, List.getElem_mapIdx]
    by_cases hk : n = k
    · subst hk; simp [h]
    · rw [if_neg hk]
      by_cases hl : k < n
      · simp [hl, show k < n + 1 by omega]
      · simp [hl, show ¬ k < n + 1 by omega]
theorem stopSi_hit {l : List S31} {i tm : Int} {n : Nat} {st si : List Int} (h : hit l i n = true) (hs : rd st n ≠ 0) : (stopSi l i tm n st si).set n tm = stopSi l i tm (n + 1) st si := by
  have hs : st.getD n 0 ≠ 0 := by simpa [rd] using hs
  apply List.ext_getElem
  · simp [stopSi]
  · intro k h1 h2
    simp only [stopSi, List.getElem_set, List.getElem_mapIdx]
    by_cases hk : n = k
    · subst hk
      have hs' : ¬ st[n]?.getD 0 = 0 := by simpa [List.getD_eq_getElem?_getD] using hs
      simp [h, hs']
    · rw [if_neg hk]
      by_cases hl : k < n
      · simp [hl, show k < n + 1 by omega]
      · simp [hl, show ¬ k < n + 1 by omega]
theorem stopSt_miss {l : List S31} {i : Int} {n : Nat} {st : List Int} (h : hit l i n = false ∨ rd st n = 0) : stopSt l i n st = stopSt l i (n + 1) st := by
  apply List.ext_getElem
  · simp [stopSt]
  · intro k h1 h2
    simp only [stopSt, List.getElem_mapIdx]
    by_cases hk : n = k
    · subst hk
      have hlt : n < st.length := by simpa [stopSt] using h1
      rcases h with h | h
      · simp [h]
      · have : st[n] = 0 := by simpa [rd, List.getD_eq_getElem?_getD, hlt] using h
        simp [this]
    · by_cases hl : k < n
      · simp [hl, show k < n + 1 by omega]
      · simp [hl, show ¬ k < n + 1 by omega]
theorem stopSi_miss {l : List S31} {i tm : Int} {n : Nat} {st si : List Int} (h : hit l i n = false ∨ rd st n = 0) : stopSi l i tm n st si = stopSi l i tm (n + 1) st si := by
  apply List.ext_getElem
  · simp [stopSi]
  · intro k h1 h2
    simp only [stopSi, List.getElem_mapIdx]
    by_cases hk : n = k
    · subst hk
      rcases h with h | h
      · simp [h]
      · have : st.getD n 0 = 0 := by simpa [rd] using h
        rw [this]
        simp
    · by_cases hl : k < n
      · simp [hl, show k < n + 1 by omega]
      · simp [hl, show ¬ k < n + 1 by omega]
theorem stopN_hit {l : List S31} {i : Int} {n : Nat} {x : Ln} (h : hit l i n = true) (hs : rd x.st n ≠ 0) :
    ({ tm := x.tm, st := (stopN l i n x).st.set n 0, si := (stopN l i n x).si.set n x.tm, pu := x.pu, he := x.he } : Ln) = stopN l i (n + 1) x := by
  simp only [stopN]
  rw [stopSt_hit h, stopSi_hit h hs]
theorem stopN_miss {l : List S31} {i : Int} {n : Nat} {x : Ln} (h : hit l i n = false ∨ rd x.st n = 0) : stopN l i n x = stopN l i (n + 1) x := by
  simp only [stopN]
  rw [stopSt_miss h, stopSi_miss h]
/-- Once time has gone by, the first n belts looked at. -/
def waitSt (l : List S31) (t : Int) (n : Nat) (st si : List Int) : List Int := st.mapIdx fun k s => if k < n ∧ s = 1 ∧ si.getD k 0 + warn l k ≤ t then 2 else s
def waitSi (l : List S31) (t : Int) (n : Nat) (st si : List Int) : List Int := si.mapIdx fun k u => if k < n ∧ st.getD k 0 = 1 ∧ u + warn l k ≤ t then u + warn l k else u
def waitN (l : List S31) (t : Int) (n : Nat) (x : Ln) : Ln := { x with tm := t, st := waitSt l t n x.st x.si, si := waitSi l t n x.st x.si }
def waitF (l : List S31) (t : Int) (x : Ln) : Ln := waitN l t x.st.length x
end Go.Proofs.Ytejmjeanhlkenaa.HandA

/- throws, stop and the other changes, walked. -/
namespace Go.Proofs.Ytejmjeanhlkenaa.HandA
open Go.RowKit Go.Proofs.Ytejmjeanhlkenaa.PB Go.Proofs.YtejmjeanhlkenaaW.PrintWords Go.Proofs.YtejmjeanhlkenaaW.PrintLast Go.Proofs.YtejmjeanhlkenaaW.PrintMore
set_option linter.unusedVariables false
set_option linter.unusedSimpArgs false

theorem thr_step {l : List S31} {n : Nat} {i onto : Int} (h0 : 0 ≤ i) (h1 : i ≠ onto) : thr l (n + 1) i onto = thr l n (up l i) onto := by
  simp [thr, h0, h1]
theorem thr_hit {l : List S31} {n : Nat} {i onto : Int} (h0 : 0 ≤ i) (h1 : i = onto) : thr l (n + 1) i onto = true := by
  subst h1
  simp [thr, h0]
theorem thr_neg {l : List S31} {n : Nat} {i onto : Int} (h0 : ¬ 0 ≤ i) : thr l n i onto = false := by
  cases n <;> simp [thr, h0]
set_option maxHeartbeats 4000000 in
set_option maxRecDepth 100000 in
theorem throws_calls (l : List S31) (A : Option Addr) (c : Nat) (i onto : Int) (w : World) (hl : Kd.C k31 w A l.length l) (hs : Snd l) (h0 : 0 ≤ i) (h1 : i < l.length) (r : Bool) (hr : throwsF l i onto = r) :
    Calls Try.prog 39 #[.slice A l.length c, .int .i64 i, .int .i64 onto] w fun e w' => e = .returned (.bool r) ∧ w = w' := by
  have HL := Aside0.mk hl
  have HS := Aside0.mk hs
  have HR := Aside0.mk hr
  clear hl hs hr
  obtain ⟨ad, e, c0, c1⟩ := at_T31 HL.out i h0 h1
  subst e
  go_enter Try.func39, Try.ntmps39
  go_wp2_with fail
  go_loopg [7] l.length (fun n v7 w' => ∃ j : Int, v7 = .int .i64 j ∧ Aside0 (ends l n j = true) ∧ Aside0 (thr l n j onto = r) ∧ -1 ≤ j ∧ j < l.length ∧ w = w')
  case atStart => exact ⟨up l i, rfl, ⟨ends_up HS.out h0 h1⟩, ⟨HR.out⟩, (HS.out.inb i h0 h1).1, (HS.out.inb i h0 h1).2, rfl⟩
  case round =>
    obtain ⟨j, rfl, he, ht, j0, j1, rfl⟩ := hrel
    by_cases hj : 0 ≤ j
    · obtain ⟨m, hm, hm2⟩ := ends_step he.out hj
      subst hm
      obtain ⟨ad', e', d0, d1⟩ := at_T31 HL.out j hj j1
      cases e'
      by_cases ho : j = onto
      · have hr := ht.out
        rw [thr_hit hj ho] at hr
        clear he ht
        subst hr
        subst ho
        have HH := Aside0.mk hm2
        clear hm2
        go_wp2_with fail
        go_ret
        exact ⟨rfl, rfl⟩
      · have ht2 := Aside0.mk ((thr_step (n := m) hj ho).symm.trans ht.out)
        clear he ht
        have hd : (j == onto) = false := by simp [ho]
        have HM := Aside0.mk hm2
        clear hm2
        go_wp2_with fail
        go_roundg m
        case measure => omega
        case rel => exact ⟨up l j, rfl, HM, ht2, (HS.out.inb j hj j1).1, (HS.out.inb j hj j1).2, rfl⟩
    · have hr := ht.out
      rw [thr_neg hj] at hr
      clear he ht
      subst hr
      go_wp2_with fail
      go_ret
      exact ⟨rfl, rfl⟩

theorem hit_self {l : List S31} {i : Int} : hit l i i = true := by simp [hit]
theorem hit_thr {l : List S31} {i k : Int} (h : k ≠ i) : hit l i k = throwsF l k i := by simp [hit, h]
/-- What the walk asks of a line of the call's own. -/
theorem Own.facts {W : World} {base B g1 g2 g3 g4 n1 n2 n3 n4 c1 c2 c3 c4 : Nat} {x : Ln}
    (h : Own W base B (.slice (some ⟨g1, 0, none⟩) n1 c1) (.slice (some ⟨g2, 0, none⟩) n2 c2) (.slice (some ⟨g3, 0, none⟩) n3 c3) (.slice (some ⟨g4, 0, none⟩) n4 c4) x) :
    g1 ≠ g2 ∧ g3 ≠ g4 ∧ g1 ≠ B ∧ g2 ≠ B ∧ g3 ≠ B ∧ g4 ≠ B ∧ base ≤ g1 ∧ base ≤ g2 ∧ base ≤ g3 ∧ base ≤ g4 ∧
    (∃ cs, W.heap[g1]? = some (.cells cs 3 (0, 0))) ∧ (∃ cs, W.heap[g2]? = some (.cells cs 3 (0, 0))) ∧ (∃ cs, W.heap[g3]? = some (.cells cs 4 (0, 0))) ∧ (∃ cs, W.heap[g4]? = some (.cells cs 4 (0, 0))) :=
  ⟨fun e => (h.r1.1 g1 rfl) (by rw [e]; rfl), fun e => (h.r3.1 g3 rfl) (by rw [e]; rfl),
   fun e => Kd.R_ne h.r1 h.box (by decide) (by rw [e]; rfl), fun e => Kd.R_ne h.r2 h.box (by decide) (by rw [e]; rfl), fun e => Kd.R_ne h.r3 h.box (by decide) (by rw [e]; rfl), fun e => Kd.R_ne h.r4 h.box (by decide) (by rw [e]; rfl),
   Kd.R_base h.r1 _ rfl, Kd.R_base h.r2 _ rfl, Kd.R_base h.r3 _ rfl, Kd.R_base h.r4 _ rfl, Kd.R_typed h.r1 _ rfl, Kd.R_typed h.r2 _ rfl, Kd.R_typed h.r3 _ rfl, Kd.R_typed h.r4 _ rfl⟩
theorem Own.len1 {W : World} {base B c : Nat} {A : Option Addr} {n : Nat} {v2 v3 v4 : Value} {x : Ln} (h : Own W base B (.slice A n c) v2 v3 v4 x) : n = x.st.length := (Kd.R_reads' h.r1).1
theorem Own.len2 {W : World} {base B c : Nat} {A : Option Addr} {n : Nat} {v1 v3 v4 : Value} {x : Ln} (h : Own W base B v1 (.slice A n c) v3 v4 x) : n = x.si.length := (Kd.R_reads' h.r2).1
theorem Own.len3 {W : World} {base B c : Nat} {A : Option Addr} {n : Nat} {v1 v2 v4 : Value} {x : Ln} (h : Own W base B v1 v2 (.slice A n c) v4 x) : n = x.pu.length := (Kd.R_reads' h.r3).1
theorem Own.len4 {W : World} {base B c : Nat} {A : Option Addr} {n : Nat} {v1 v2 v3 : Value} {x : Ln} (h : Own W base B v1 v2 v3 (.slice A n c) x) : n = x.he.length := (Kd.R_reads' h.r4).1

theorem Own.cell1 {W : World} {base B g n c : Nat} {v2 v3 v4 : Value} {x : Ln} (h : Own W base B (.slice (some ⟨g, 0, none⟩) n c) v2 v3 v4 x) (i : Int) (h0 : 0 ≤ i) (h1 : i < n) : W.cell? ⟨g, i.toNat, none⟩ = some (.int .i64 (rd x.st i)) ∧ W.frozen? ⟨g, i.toNat, none⟩ = false := by
  have e := h.len1
  subst e
  exact Kd.R_cell (0 : Int) h.r1 i h0 h1
theorem Own.cell2 {W : World} {base B g n c : Nat} {v1 v3 v4 : Value} {x : Ln} (h : Own W base B v1 (.slice (some ⟨g, 0, none⟩) n c) v3 v4 x) (i : Int) (h0 : 0 ≤ i) (h1 : i < n) : W.cell? ⟨g, i.toNat, none⟩ = some (.int .i64 (rd x.si i)) ∧ W.frozen? ⟨g, i.toNat, none⟩ = false := by
  have e := h.len2
  subst e
  exact Kd.R_cell (0 : Int) h.r2 i h0 h1
theorem Own.cell3 {W : World} {base B g n c : Nat} {v1 v2 v4 : Value} {x : Ln} (h : Own W base B v1 v2 (.slice (some ⟨g, 0, none⟩) n c) v4 x) (i : Int) (h0 : 0 ≤ i) (h1 : i < n) : W.cell? ⟨g, i.toNat, none⟩ = some (.bool (rdOf false x.pu i)) ∧ W.frozen? ⟨g, i.toNat, none⟩ = false := by
  have e := h.len3
  subst e
  exact Kd.R_cell false h.r3 i h0 h1
theorem Own.cell4 {W : World} {base B g n c : Nat} {v1 v2 v3 : Value} {x : Ln} (h : Own W base B v1 v2 v3 (.slice (some ⟨g, 0, none⟩) n c) x) (i : Int) (h0 : 0 ≤ i) (h1 : i < n) : W.cell? ⟨g, i.toNat, none⟩ = some (.bool (rdOf false x.he i)) ∧ W.frozen? ⟨g, i.toNat, none⟩ = false := by
  have e := h.len4
  subst e
  exact Kd.R_cell false h.r4 i h0 h1
set_option maxHeartbeats 4000000 in
set_option maxRecDepth 100000 in
theorem stop_calls (l : List S31) (A : Option Addr) (c : Nat) (i : Int) (x : Ln) (w W : World) (B g1 g2 g3 g4 c1 c2 c3 c4 : Nat) (hl : Kd.C k31 w A l.length l) (hs : Snd l)
    (hb : Below w.heap.size w W) (ho : Own W w.heap.size B (.slice (some ⟨g1, 0, none⟩) l.length c1) (.slice (some ⟨g2, 0, none⟩) l.length c2) (.slice (some ⟨g3, 0, none⟩) l.length c3) (.slice (some ⟨g4, 0, none⟩) l.length c4) x) :
    Calls Try.prog 36 #[.slice A l.length c, .pointer (some ⟨B, 0, none⟩), .int .i64 i] W fun e w' => (∃ v, e = .returned v) ∧
      Own w' w.heap.size B (.slice (some ⟨g1, 0, none⟩) l.length c1) (.slice (some ⟨g2, 0, none⟩) l.length c2) (.slice (some ⟨g3, 0, none⟩) l.length c3) (.slice (some ⟨g4, 0, none⟩) l.length c4) (stopF l i x) ∧
      Below w.heap.size w w' ∧ Kept W w' (Rows B (.slice (some ⟨g1, 0, none⟩) l.length c1) (.slice (some ⟨g2, 0, none⟩) l.length c2) (.slice (some ⟨g3, 0, none⟩) l.length c3) (.slice (some ⟨g4, 0, none⟩) l.length c4)) := by
  have hlen := hs.len
  have z1 := ho.len1
  have z2 := ho.len2
  have HL := Aside0.mk hl
  have HS := Aside0.mk hs
  have HB := Aside0.mk hb
  have HO := Aside0.mk ho
  have Z1 := Aside0.mk z1
  have Z2 := Aside0.mk z2
  clear hl hs hb ho z1 z2
  obtain ⟨hne, _, n1, n2, n3, n4, b1, b2, _, _, _, _, _, _⟩ := HO.out.facts
  go_enter Try.func36, Try.ntmps36
  go_wp2_with fail
  go_loopg [9] l.length (fun m v9 w' => ∃ n : Nat, v9 = .int .i64 n ∧ n + m = l.length ∧ Aside0 (Own w' w.heap.size B (.slice (some ⟨g1, 0, none⟩) l.length c1) (.slice (some ⟨g2, 0, none⟩) l.length c2) (.slice (some ⟨g3, 0, none⟩) l.length c3) (.slice (some ⟨g4, 0, none⟩) l.length c4) (stopN l i n x)) ∧
    Aside0 (Below w.heap.size w w') ∧ Aside0 (Kept W w' (Rows B (.slice (some ⟨g1, 0, none⟩) l.length c1) (.slice (some ⟨g2, 0, none⟩) l.length c2) (.slice (some ⟨g3, 0, none⟩) l.length c3) (.slice (some ⟨g4, 0, none⟩) l.length c4))))
  case atStart => exact ⟨0, rfl, by omega, ⟨by rw [stopN_zero]; exact HO.out⟩, HB, ⟨Kept.refl _ _⟩⟩
  case round =>
    obtain ⟨n, rfl, hm, hO, hB, hK⟩ := hrel
    by_cases hn : n < l.length
    · obtain ⟨E1, F1⟩ := hO.out.cell1 (n : Int) (by omega) (by omega)
      obtain ⟨E2, F2⟩ := hO.out.cell2 (n : Int) (by omega) (by omega)
      have er : rd (stopN l i n x).st (n : Int) = rd x.st n := rd_stopSt l i n x.st
      rw [er] at E1
      clear er
      simp only [Int.toNat_natCast] at E1 F1 E2 F2
      have k0 : wr.cell? ⟨B, 0, none⟩ = some (.int .i64 x.tm) := (blk_cell hO.out.box 0).trans rfl
      have k1 : wr.cell? ⟨B, 1, none⟩ = some (.slice (some ⟨g1, 0, none⟩) l.length c1) := (blk_cell hO.out.box 1).trans rfl
      have k2 : wr.cell? ⟨B, 2, none⟩ = some (.slice (some ⟨g2, 0, none⟩) l.length c2) := (blk_cell hO.out.box 2).trans rfl
      obtain ⟨m, rfl⟩ : ∃ q, gk = q + 1 := ⟨gk - 1, by omega⟩
      have HC := Aside0.mk (Kd.C_below HL.out hB.out)
      have hcl : (n : Int) < l.length := by omega
      have done : hit l i n = false ∨ rd x.st n = 0 → Own wr w.heap.size B (.slice (some ⟨g1, 0, none⟩) l.length c1) (.slice (some ⟨g2, 0, none⟩) l.length c2) (.slice (some ⟨g3, 0, none⟩) l.length c3) (.slice (some ⟨g4, 0, none⟩) l.length c4) (stopN l i (n + 1) x) := fun h => by
        rw [← stopN_miss h]; exact hO.out
      have DONE := Aside0.mk done
      clear done
      by_cases hi : (n : Int) = i
      · have hi1 : ((n : Int) == i) = true := by simp [hi]
        have HH := Aside0.mk (show hit l i n = true by rw [hi]; exact hit_self)
        clear hi
        by_cases hz : rd x.st n = 0
        · have hz1 : (rd x.st n != 0) = false := by simp [hz]
          have HZ := Aside0.mk hz
          clear hz
          go_wp2_with fail
          go_roundg m
          case measure => omega
          case rel => exact ⟨n + 1, by go_num, by omega, ⟨DONE.out (.inr HZ.out)⟩, hB, hK⟩
        · have hz1 : (rd x.st n != 0) = true := by simp [hz]
          have HZ := Aside0.mk hz
          clear hz
          go_wp2_with fail
          go_region_held3 (fun w' => w'.cell? ⟨B, 0, none⟩ = some (.int .i64 x.tm) ∧ w'.cell? ⟨B, 1, none⟩ = some (.slice (some ⟨g1, 0, none⟩) l.length c1) ∧ w'.cell? ⟨B, 2, none⟩ = some (.slice (some ⟨g2, 0, none⟩) l.length c2)) (go_keep) (fail)
          go_wp2_with fail
          go_roundg m
          case measure => omega
          case rel =>
            obtain ⟨_, _, _, _, _, _, _, _, _, _, ⟨cs1, hc1⟩, ⟨cs2, hc2⟩, _, _⟩ := hO.out.facts
            have e1 := (hO.out.setSt hO.out.len1 n1 hc1 (n : Int) 0).setSi hO.out.len2 n2 (blk_far hc2 (Ne.symm hne) _) (n : Int) x.tm
            simp only [Int.toNat_natCast] at e1
            have e2 : ({ tm := x.tm, st := (stopN l i n x).st.set n 0, si := (stopN l i n x).si.set n x.tm, pu := x.pu, he := x.he } : Ln) = stopN l i (n + 1) x := stopN_hit HH.out HZ.out
            have e3 := e2 ▸ e1
            exact ⟨n + 1, by go_num, by omega, ⟨e3.drew⟩, ⟨below_drew1 (below_set (below_set hB.out b1) b2)⟩, ⟨((hK.out.setCell (p := ⟨g1, n, none⟩) (.inl (.inr (.inl rfl))) _).setCell (p := ⟨g2, n, none⟩) (.inl (.inr (.inr (.inl rfl)))) _).drew⟩⟩
      · have hi1 : ((n : Int) == i) = false := by simp [hi]
        have HT := Aside0.mk (hit_thr (l := l) hi)
        clear hi
        by_cases ht : throwsF l n i = true
        · have HH := Aside0.mk (HT.out.trans ht)
          have HU := Aside0.mk ht
          clear ht
          by_cases hz : rd x.st n = 0
          · have hz1 : (rd x.st n != 0) = false := by simp [hz]
            have HZ := Aside0.mk hz
            clear hz
            go_wp2_with (go_at_call 39; (with_reducible refine (throws_calls l A c _ _ _ HC.out HS.out (by omega) hcl true HU.out).mono ?_); rintro e w' ⟨rfl, rfl⟩)
            go_roundg m
            case measure => omega
            case rel => exact ⟨n + 1, by go_num, by omega, ⟨DONE.out (.inr HZ.out)⟩, hB, hK⟩
          · have hz1 : (rd x.st n != 0) = true := by simp [hz]
            have HZ := Aside0.mk hz
            clear hz
            go_wp2_with (go_at_call 39; (with_reducible refine (throws_calls l A c _ _ _ HC.out HS.out (by omega) hcl true HU.out).mono ?_); rintro e w' ⟨rfl, rfl⟩)
            go_region_held3 (fun w' => w'.cell? ⟨B, 0, none⟩ = some (.int .i64 x.tm) ∧ w'.cell? ⟨B, 1, none⟩ = some (.slice (some ⟨g1, 0, none⟩) l.length c1) ∧ w'.cell? ⟨B, 2, none⟩ = some (.slice (some ⟨g2, 0, none⟩) l.length c2)) (go_keep) (fail)
            go_wp2_with fail
            go_roundg m
            case measure => omega
            case rel =>
              obtain ⟨_, _, _, _, _, _, _, _, _, _, ⟨cs1, hc1⟩, ⟨cs2, hc2⟩, _, _⟩ := hO.out.facts
              have e1 := (hO.out.setSt hO.out.len1 n1 hc1 (n : Int) 0).setSi hO.out.len2 n2 (blk_far hc2 (Ne.symm hne) _) (n : Int) x.tm
              simp only [Int.toNat_natCast] at e1
              have e2 : ({ tm := x.tm, st := (stopN l i n x).st.set n 0, si := (stopN l i n x).si.set n x.tm, pu := x.pu, he := x.he } : Ln) = stopN l i (n + 1) x := stopN_hit HH.out HZ.out
              have e3 := e2 ▸ e1
              exact ⟨n + 1, by go_num, by omega, ⟨e3.drew⟩, ⟨below_drew1 (below_set (below_set hB.out b1) b2)⟩, ⟨((hK.out.setCell (p := ⟨g1, n, none⟩) (.inl (.inr (.inl rfl))) _).setCell (p := ⟨g2, n, none⟩) (.inl (.inr (.inr (.inl rfl)))) _).drew⟩⟩
        · have ht := Bool.eq_false_iff.2 ht
          have HH := Aside0.mk (HT.out.trans ht)
          have HU := Aside0.mk ht
          clear ht
          go_wp2_with (go_at_call 39; (with_reducible refine (throws_calls l A c _ _ _ HC.out HS.out (by omega) hcl false HU.out).mono ?_); rintro e w' ⟨rfl, rfl⟩)
          go_roundg m
          case measure => omega
          case rel => exact ⟨n + 1, by go_num, by omega, ⟨DONE.out (.inl HH.out)⟩, hB, hK⟩
    · obtain rfl : n = l.length := by omega
      go_wp2_with fail
      go_end0
      exact ⟨⟨_, rfl⟩, hO.out, hB.out, hK.out⟩
end Go.Proofs.Ytejmjeanhlkenaa.HandA

/- The changes of Stop, Pull, Restore, Hold and Wait, walked. -/
namespace Go.Proofs.Ytejmjeanhlkenaa.HandA
open Go.RowKit Go.Proofs.Ytejmjeanhlkenaa.PB Go.Proofs.YtejmjeanhlkenaaW.PrintWords Go.Proofs.YtejmjeanhlkenaaW.PrintLast Go.Proofs.YtejmjeanhlkenaaW.PrintMore
set_option linter.unusedVariables false
set_option linter.unusedSimpArgs false

/-- All lists of a line are as long as the belts'. -/
structure Lens (x : Ln) (n : Nat) : Prop where
  e1 : x.st.length = n
  e2 : x.si.length = n
  e3 : x.pu.length = n
  e4 : x.he.length = n
theorem Own.form {W : World} {base B N : Nat} {v1 v2 v3 v4 : Value} {x : Ln} (h : Own W base B v1 v2 v3 v4 x) (hl : Lens x N) (hN : 0 < N) :
    ∃ g1 c1 g2 c2 g3 c3 g4 c4, v1 = .slice (some ⟨g1, 0, none⟩) N c1 ∧ v2 = .slice (some ⟨g2, 0, none⟩) N c2 ∧ v3 = .slice (some ⟨g3, 0, none⟩) N c3 ∧ v4 = .slice (some ⟨g4, 0, none⟩) N c4 := by
  obtain ⟨e1, e2, e3, e4⟩ := hl
  obtain ⟨g1, c1, h1, _⟩ := Kd.R_form h.r1 (by omega)
  obtain ⟨g2, c2, h2, _⟩ := Kd.R_form h.r2 (by omega)
  obtain ⟨g3, c3, h3, _⟩ := Kd.R_form h.r3 (by omega)
  obtain ⟨g4, c4, h4, _⟩ := Kd.R_form h.r4 (by omega)
  rw [e1] at h1
  rw [e2] at h2
  rw [e3] at h3
  rw [e4] at h4
  exact ⟨g1, c1, g2, c2, g3, c3, g4, c4, h1, h2, h3, h4⟩
theorem stop_lens {l : List S31} {i : Int} {n : Nat} {x : Ln} {N : Nat} (h : Lens x N) : Lens (stopN l i n x) N := ⟨(stopSt_len ..).trans h.e1, (stopSi_len ..).trans h.e2, h.e3, h.e4⟩

set_option maxHeartbeats 4000000 in
set_option maxRecDepth 100000 in
theorem stop_change (l : List S31) (A : Option Addr) (c : Nat) (x : Ln) (i : Int) (L I : Nat) (w : World) (hl : Kd.C k31 w A l.length l) (hs : Snd l) (hx : Lens x l.length)
    (hL : w.cell? ⟨L, 0, none⟩ = some (.slice A l.length c)) (hI : w.cell? ⟨I, 0, none⟩ = some (.int .i64 i)) :
    Change Try.prog w 51 #[.pointer (some ⟨L, 0, none⟩), .pointer (some ⟨I, 0, none⟩)] x (stopF l i x) := by
  intro W B v1 v2 v3 v4 hb ho
  obtain ⟨g1, c1, g2, c2, g3, c3, g4, c4, rfl, rfl, rfl, rfl⟩ := ho.form hx (by have := hs.len; omega)
  have kI := pw_cell_below hb hI
  have kL := pw_cell_below hb hL
  have HO := Aside0.mk ho
  have HB := Aside0.mk hb
  have HL := Aside0.mk hl
  have HS := Aside0.mk hs
  clear ho hb hI hL hl hs hx
  go_enter Try.func51, Try.ntmps51
  go_wp2_with (go_at_call 36; (with_reducible refine (stop_calls l A c i x w _ B g1 g2 g3 g4 c1 c2 c3 c4 HL.out HS.out HB.out HO.out).mono ?_); rintro e w1 ⟨⟨v, rfl⟩, ho1, hb1, hk1⟩; have HO1 := Aside0.mk ho1; have HB1 := Aside0.mk hb1; have HK1 := Aside0.mk hk1; clear ho1 hb1 hk1)
  go_end0
  exact ⟨⟨_, rfl⟩, HO1.out, HB1.out, HK1.out⟩

theorem Own.ne_old {W w : World} {B g1 g2 g3 g4 n1 n2 n3 n4 c1 c2 c3 c4 : Nat} {x : Ln} {I : Nat} {u : Value}
    (h : Own W w.heap.size B (.slice (some ⟨g1, 0, none⟩) n1 c1) (.slice (some ⟨g2, 0, none⟩) n2 c2) (.slice (some ⟨g3, 0, none⟩) n3 c3) (.slice (some ⟨g4, 0, none⟩) n4 c4) x) (hI : w.cell? ⟨I, 0, none⟩ = some u) :
    g1 ≠ I ∧ g2 ≠ I ∧ g3 ≠ I ∧ g4 ≠ I ∧ B ≠ I := by
  have hi := World.block_lt_of_cell? w _ hI
  obtain ⟨_, _, _, _, _, _, b1, b2, b3, b4, _⟩ := h.facts
  have hB := h.hB
  dsimp only at hi
  exact ⟨by omega, by omega, by omega, by omega, by omega⟩

set_option maxHeartbeats 4000000 in
set_option maxRecDepth 100000 in
theorem pull_change (l : List S31) (A : Option Addr) (c : Nat) (x : Ln) (i : Int) (L I : Nat) (w : World) (hl : Kd.C k31 w A l.length l) (hs : Snd l) (hx : Lens x l.length) (h0 : 0 ≤ i) (h1 : i < l.length)
    (hL : w.cell? ⟨L, 0, none⟩ = some (.slice A l.length c)) (hI : w.cell? ⟨I, 0, none⟩ = some (.int .i64 i)) :
    Change Try.prog w 35 #[.pointer (some ⟨L, 0, none⟩), .pointer (some ⟨I, 0, none⟩)] x { stopF l i x with pu := x.pu.set i.toNat true } := by
  intro W B v1 v2 v3 v4 hb ho
  obtain ⟨g1, c1, g2, c2, g3, c3, g4, c4, rfl, rfl, rfl, rfl⟩ := ho.form hx (by have := hs.len; omega)
  have kI := pw_cell_below hb hI
  have kL := pw_cell_below hb hL
  obtain ⟨m1, m2, m3, m4, m5⟩ := ho.ne_old hI
  have HO := Aside0.mk ho
  have HB := Aside0.mk hb
  have HL := Aside0.mk hl
  have HS := Aside0.mk hs
  have HI := Aside0.mk hI
  clear ho hb hI hL hl hs hx
  go_enter Try.func35, Try.ntmps35
  go_wp2_with (go_at_call 36; (with_reducible refine (stop_calls l A c i x w _ B g1 g2 g3 g4 c1 c2 c3 c4 HL.out HS.out HB.out HO.out).mono ?_); rintro e w1 ⟨⟨v, rfl⟩, ho1, hb1, hk1⟩; have kI1 := pw_cell_below hb1 HI.out; have HO1 := Aside0.mk ho1; have HB1 := Aside0.mk hb1; have HK1 := Aside0.mk hk1; clear ho1 hb1 hk1)
  obtain ⟨_, n0, _, _, n3, _, _, _, b3, _, _, _, ⟨cs3, hc3⟩, _⟩ := HO1.out.facts
  obtain ⟨E3, F3⟩ := HO1.out.cell3 i h0 h1
  have k3 : w1.cell? ⟨B, 3, none⟩ = some (.slice (some ⟨g3, 0, none⟩) l.length c3) := (blk_cell HO1.out.box 3).trans rfl
  have HC3 := Aside0.mk hc3
  clear hc3
  go_region_held3 (fun w' => w'.cell? ⟨B, 3, none⟩ = some (.slice (some ⟨g3, 0, none⟩) l.length c3) ∧ w'.cell? ⟨I, 0, none⟩ = some (.int .i64 i)) (go_keep) (fail)
  go_end0
  exact ⟨⟨_, rfl⟩, (HO1.out.setPu HO1.out.len3 n3 HC3.out i true).drew, below_drew1 (below_set HB1.out b3), ((HK1.out).setCell (p := ⟨g3, i.toNat, none⟩) (.inl (.inr (.inr (.inr (.inl rfl))))) _).drew⟩

set_option maxHeartbeats 4000000 in
set_option maxRecDepth 100000 in
theorem restore_change (x : Ln) (i : Int) (I N : Nat) (w : World) (hN : 0 < N) (hx : Lens x N) (h0 : 0 ≤ i) (h1 : i < N) (hI : w.cell? ⟨I, 0, none⟩ = some (.int .i64 i)) :
    Change Try.prog w 52 #[.pointer (some ⟨I, 0, none⟩)] x { x with pu := x.pu.set i.toNat false } := by
  intro W B v1 v2 v3 v4 hb ho
  obtain ⟨g1, c1, g2, c2, g3, c3, g4, c4, rfl, rfl, rfl, rfl⟩ := ho.form hx hN
  have kI := pw_cell_below hb hI
  obtain ⟨m1, m2, m3, m4, m5⟩ := ho.ne_old hI
  have HO := Aside0.mk ho
  have HB := Aside0.mk hb
  clear ho hb hI hx
  obtain ⟨_, n0, _, _, n3, _, _, _, b3, _, _, _, ⟨cs3, hc3⟩, _⟩ := HO.out.facts
  obtain ⟨E3, F3⟩ := HO.out.cell3 i h0 h1
  have k3 : W.cell? ⟨B, 3, none⟩ = some (.slice (some ⟨g3, 0, none⟩) N c3) := (blk_cell HO.out.box 3).trans rfl
  have HC3 := Aside0.mk hc3
  clear hc3
  go_enter Try.func52, Try.ntmps52
  go_region_held3 (fun w' => w'.cell? ⟨B, 3, none⟩ = some (.slice (some ⟨g3, 0, none⟩) N c3) ∧ w'.cell? ⟨I, 0, none⟩ = some (.int .i64 i)) (go_keep) (fail)
  go_end0
  exact ⟨⟨_, rfl⟩, (HO.out.setPu HO.out.len3 n3 HC3.out i false).drew, below_drew1 (below_set HB.out b3), ((Kept.refl W _).setCell (p := ⟨g3, i.toNat, none⟩) (.inl (.inr (.inr (.inr (.inl rfl))))) _).drew⟩

set_option maxHeartbeats 4000000 in
set_option maxRecDepth 100000 in
theorem hold_change (l : List S31) (A : Option Addr) (c : Nat) (x : Ln) (i : Int) (b : Bool) (H L I : Nat) (w : World) (hl : Kd.C k31 w A l.length l) (hs : Snd l) (hx : Lens x l.length) (h0 : 0 ≤ i) (h1 : i < l.length)
    (hH : w.cell? ⟨H, 0, none⟩ = some (.bool b)) (hL : w.cell? ⟨L, 0, none⟩ = some (.slice A l.length c)) (hI : w.cell? ⟨I, 0, none⟩ = some (.int .i64 i)) :
    Change Try.prog w 53 #[.pointer (some ⟨H, 0, none⟩), .pointer (some ⟨L, 0, none⟩), .pointer (some ⟨I, 0, none⟩)] x (if b = true then { stopF l i x with he := x.he.set i.toNat true } else { x with he := x.he.set i.toNat false }) := by
  intro W B v1 v2 v3 v4 hb ho
  obtain ⟨g1, c1, g2, c2, g3, c3, g4, c4, rfl, rfl, rfl, rfl⟩ := ho.form hx (by have := hs.len; omega)
  have kI := pw_cell_below hb hI
  have kL := pw_cell_below hb hL
  have kH := pw_cell_below hb hH
  obtain ⟨m1, m2, m3, m4, m5⟩ := ho.ne_old hI
  obtain ⟨p1, p2, p3, p4, p5⟩ := ho.ne_old hH
  have HO := Aside0.mk ho
  have HB := Aside0.mk hb
  have HL := Aside0.mk hl
  have HS := Aside0.mk hs
  have HI := Aside0.mk hI
  have HHc := Aside0.mk hH
  clear ho hb hI hL hl hs hx hH
  cases b
  · go_enter Try.func53, Try.ntmps53
    go_wp2_with fail
    obtain ⟨_, n0, _, _, _, n4, _, _, _, b4, _, _, _, ⟨cs4, hc4⟩⟩ := HO.out.facts
    obtain ⟨E4, F4⟩ := HO.out.cell4 i h0 h1
    have k4 : W.cell? ⟨B, 4, none⟩ = some (.slice (some ⟨g4, 0, none⟩) l.length c4) := (blk_cell HO.out.box 4).trans rfl
    have HC4 := Aside0.mk hc4
    clear hc4
    go_region_held3 (fun w' => w'.cell? ⟨B, 4, none⟩ = some (.slice (some ⟨g4, 0, none⟩) l.length c4) ∧ w'.cell? ⟨I, 0, none⟩ = some (.int .i64 i) ∧ w'.cell? ⟨H, 0, none⟩ = some (.bool false)) (go_keep) (fail)
    go_end0
    exact ⟨⟨_, rfl⟩, (HO.out.setHe HO.out.len4 n4 HC4.out i false).drew, below_drew1 (below_set HB.out b4), ((Kept.refl W _).setCell (p := ⟨g4, i.toNat, none⟩) (.inl (.inr (.inr (.inr (.inr rfl))))) _).drew⟩
  · go_enter Try.func53, Try.ntmps53
    go_wp2_with (go_at_call 36; (with_reducible refine (stop_calls l A c i x w _ B g1 g2 g3 g4 c1 c2 c3 c4 HL.out HS.out HB.out HO.out).mono ?_); rintro e w1 ⟨⟨v, rfl⟩, ho1, hb1, hk1⟩; have kI1 := pw_cell_below hb1 HI.out; have kH1 := pw_cell_below hb1 HHc.out; have HO1 := Aside0.mk ho1; have HB1 := Aside0.mk hb1; have HK1 := Aside0.mk hk1; clear ho1 hb1 hk1)
    obtain ⟨_, n0, _, _, _, n4, _, _, _, b4, _, _, _, ⟨cs4, hc4⟩⟩ := HO1.out.facts
    obtain ⟨E4, F4⟩ := HO1.out.cell4 i h0 h1
    have k4 : w1.cell? ⟨B, 4, none⟩ = some (.slice (some ⟨g4, 0, none⟩) l.length c4) := (blk_cell HO1.out.box 4).trans rfl
    have HC4 := Aside0.mk hc4
    clear hc4
    go_region_held3 (fun w' => w'.cell? ⟨B, 4, none⟩ = some (.slice (some ⟨g4, 0, none⟩) l.length c4) ∧ w'.cell? ⟨I, 0, none⟩ = some (.int .i64 i) ∧ w'.cell? ⟨H, 0, none⟩ = some (.bool true)) (go_keep) (fail)
    go_end0
    exact ⟨⟨_, rfl⟩, (HO1.out.setHe HO1.out.len4 n4 HC4.out i true).drew, below_drew1 (below_set HB1.out b4), ((HK1.out).setCell (p := ⟨g4, i.toNat, none⟩) (.inl (.inr (.inr (.inr (.inr rfl))))) _).drew⟩
end Go.Proofs.Ytejmjeanhlkenaa.HandA
