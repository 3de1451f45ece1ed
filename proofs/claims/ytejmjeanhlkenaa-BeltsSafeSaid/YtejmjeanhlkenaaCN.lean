import Derived.Test.YtejmjeanhlkenaaCL
/- Make, of the program and of the reference, walked. -/
namespace Go.Proofs.Ytejmjeanhlkenaa.HandA
open Go.RowKit Go.Proofs.Ytejmjeanhlkenaa.PB Go.Proofs.YtejmjeanhlkenaaW.PrintWords Go.Proofs.YtejmjeanhlkenaaW.PrintLast Go.Proofs.YtejmjeanhlkenaaW.PrintMore
set_option linter.unusedVariables false
set_option linter.unusedSimpArgs false
/-- The line in which all is zero. -/
def zeroLn (n : Nat) : Ln := ⟨0, List.replicate n 0, List.replicate n 0, List.replicate n false, List.replicate n false⟩
open Classical in
noncomputable def makeG (l : List S31) : Ln × Int := if Snd l then (zeroLn l.length, 0) else (zeroLn 0, 6)
theorem sound_calls (l : List S31) (A : Option Addr) (c : Nat) (w : World) (hl : Kd.C k31 w A l.length l) (hc : l.length ≤ c) (hfit : Fit l.length) (b : Bool) (hb : b = true ↔ Snd l) :
    Calls Try.prog 29 #[.slice A l.length c] w fun e w' => e = .returned (.bool b) ∧ Below w.heap.size w w' := by
  obtain ⟨b', he, hiff⟩ := sound_ev l hfit
  obtain ⟨k, hk⟩ := he.rounds
  have : b = b' := by rw [Bool.eq_iff_iff, hb, hiff]
  subst this
  exact belts_sound.calls k A c l _ w hl hc hk
theorem rsound_calls (l : List S31) (A : Option Addr) (c : Nat) (w : World) (hl : Kd.C k31 w A l.length l) (hc : l.length ≤ c) (hfit : Fit l.length) (b : Bool) (hb : b = true ↔ Snd l) :
    Calls Try.prog 44 #[.slice A l.length c] w fun e w' => e = .returned (.bool b) ∧ ∃ n, w' = w.drewN n := by
  obtain ⟨b', he, hiff⟩ := rsound_ev l hfit
  obtain ⟨k, hk⟩ := he.rounds
  have : b = b' := by rw [Bool.eq_iff_iff, hb, hiff]
  subst this
  refine (ref39_belts.calls k A c l _ w hl hc hk).mono ?_
  rintro e w' ⟨rfl, ⟨h⟩⟩
  exact ⟨rfl, h⟩
/-- A block of zeros is a row of the call's own. -/
theorem R_zeros {α : Type} {enc : α → Value} {h1 : ∀ x, (enc x).oneCell' = true} {W : World} {base g e n : Nat} {ok : Nat → Prop} (d : α) (hg : W.heap[g]? = some (.cells (madeCells #[enc d] n) e (0, 0))) (hb : base ≤ g) (hok : ok g) (hn : n ≤ 1000000) :
    (Kd.scalar enc h1).R e W base ok (.slice (some ⟨g, 0, none⟩) n n) (List.replicate n d) := by
  obtain ⟨W0, hsz⟩ : ∃ W0 : World, W0.heap.size = g := ⟨{ W with heap := Array.replicate g (.cells #[] 0 (0, 0)) }, by simp⟩
  have h := own_made_of' (enc := enc) (d := d) W0 base e n (by omega) (by omega)
  rw [hsz] at h
  have h2 : W.ownsRow base e 1 (.slice (some ⟨g, 0, none⟩) n n) (List.replicate n d).length (encs enc (List.replicate n d)) := own_move h (fun k hk => by
    have : g = k := by simpa [Value.ownBlock] using hk
    subst this
    rw [hg]
    have := blk_new W0 (.cells (madeCells #[enc d] n) e)
    rw [hsz] at this
    exact this.symm)
  exact Kd.R_of_own h2 (fun k hk => by
    have : g = k := by simpa [Value.ownBlock] using hk
    subst this
    exact hok)
theorem at4a {X : World} {m : Nat} (h : X.heap.size = m) (o1 o2 o3 o4 : Obj) : ((((X.alloc o1).alloc o2).alloc o3).alloc o4).drew.heap[m]? = some o1 := by
  subst h; exact blk_drew (blk_alloc (blk_alloc (blk_alloc (blk_new X o1) o2) o3) o4)
theorem at4b {X : World} {m : Nat} (h : X.heap.size = m) (o1 o2 o3 o4 : Obj) : ((((X.alloc o1).alloc o2).alloc o3).alloc o4).drew.heap[m + 1]? = some o2 := by
  have := at4a (X := X.alloc o1) (m := m + 1) (by simp [h]) o2 o3 o4 o4
  have h2 : ((((X.alloc o1).alloc o2).alloc o3).alloc o4).heap[m + 1]? = some o2 := by
    have := blk_alloc (blk_alloc (blk_new (X.alloc o1) o2) o3) o4
    simpa [h] using this
  exact blk_drew h2
theorem at4c {X : World} {m : Nat} (h : X.heap.size = m) (o1 o2 o3 o4 : Obj) : ((((X.alloc o1).alloc o2).alloc o3).alloc o4).drew.heap[m + 1 + 1]? = some o3 := by
  have h2 : ((((X.alloc o1).alloc o2).alloc o3).alloc o4).heap[m + 1 + 1]? = some o3 := by
    have := blk_alloc (blk_new ((X.alloc o1).alloc o2) o3) o4
    simpa [h] using this
  exact blk_drew h2
theorem at4d {X : World} {m : Nat} (h : X.heap.size = m) (o1 o2 o3 o4 : Obj) : ((((X.alloc o1).alloc o2).alloc o3).alloc o4).drew.heap[m + 1 + 1 + 1]? = some o4 := by
  have h2 : ((((X.alloc o1).alloc o2).alloc o3).alloc o4).heap[m + 1 + 1 + 1]? = some o4 := by
    have := blk_new (((X.alloc o1).alloc o2).alloc o3) o4
    simpa [h] using this
  exact blk_drew h2
theorem make_end {w W : World} {n g1 g2 g3 g4 : Nat} (hn : n ≤ 1000000) (hW : Below w.heap.size w W) (b1 : w.heap.size ≤ g1) (b2 : w.heap.size ≤ g2) (b3 : w.heap.size ≤ g3) (b4 : w.heap.size ≤ g4) (n1 : g1 ≠ g2) (n2 : g3 ≠ g4)
    (h1 : W.heap[g1]? = some (.cells (madeCells #[.int .i64 0] n) 3 (0, 0))) (h2 : W.heap[g2]? = some (.cells (madeCells #[.int .i64 0] n) 3 (0, 0))) (h3 : W.heap[g3]? = some (.cells (madeCells #[.bool false] n) 4 (0, 0))) (h4 : W.heap[g4]? = some (.cells (madeCells #[.bool false] n) 4 (0, 0))) :
    GivesM w (zeroLn n) 0 (.returned (.tuple #[.agg #[.int .i64 0, .slice (some ⟨g1, 0, none⟩) n n, .slice (some ⟨g2, 0, none⟩) n n, .slice (some ⟨g3, 0, none⟩) n n, .slice (some ⟨g4, 0, none⟩) n n], .int .i64 0])) W :=
  ⟨_, _, _, _, rfl, ⟨R_zeros 0 h1 b1 (fun e => n1 (by injection e)) hn, R_zeros 0 h2 b2 (fun e => n1 (by injection e with e; exact e.symm)) hn, R_zeros false h3 b3 (fun e => n2 (by injection e)) hn, R_zeros false h4 b4 (fun e => n2 (by injection e with e; exact e.symm)) hn⟩, hW⟩
set_option maxHeartbeats 16000000 in
set_option maxRecDepth 100000 in
theorem make_calls (l : List S31) (A : Option Addr) (c : Nat) (w : World) (hl : Kd.C k31 w A l.length l) (hc : l.length ≤ c) (hfit : Fit l.length) :
    Calls Try.prog 12 #[.slice A l.length c] w (GivesM w (makeG l).1 (makeG l).2) := by
  have HL := Aside0.mk hl
  have HC := Aside0.mk hc
  have HF := Aside0.mk hfit
  have hu34 := Try.underlying34
  clear hl hc hfit
  by_cases hs : Snd l
  · have hm : makeG l = (zeroLn l.length, 0) := by unfold makeG; rw [if_pos hs]
    rw [hm]
    have hlen := hs.len
    have HS := Aside0.mk hs
    clear hm hs
    have mk1 := print_make_of (P := Try.prog) 22 3 (.int .i64 0) 8 Try.underlying22 info3 rfl (by decide) l.length (by omega)
    have mk2 := print_make_of (P := Try.prog) 32 4 (.bool false) 1 Try.underlying32 info4 rfl (by decide) l.length (by omega)
    go_enter Try.func12, Try.ntmps12
    go_upto_region 4 with (go_at_call 29; (with_reducible refine (sound_calls l A c _ (Kd.C_below HL.out (by repeat (first | exact Below.refl _ _ | apply below_alloc))) HC.out HF.out true (by simp [HS.out])).mono ?_); rintro e w1 ⟨rfl, hb1⟩; have HY := Aside0.mk (blk_below (blk_new w _) hb1); have HB1 := Aside0.mk (below_step (w := w) (by repeat (first | exact Below.refl _ _ | apply below_alloc)) hb1); have z0 : w1.cell? ⟨w.heap.size, 0, none⟩ = some (.int .i64 0) := (blk_cell HY.out 0).trans rfl; have z1 : w1.cell? ⟨w.heap.size, 1, none⟩ = some (.slice none 0 0) := (blk_cell HY.out 1).trans rfl; have z2 : w1.cell? ⟨w.heap.size, 2, none⟩ = some (.slice none 0 0) := (blk_cell HY.out 2).trans rfl; have z3 : w1.cell? ⟨w.heap.size, 3, none⟩ = some (.slice none 0 0) := (blk_cell HY.out 3).trans rfl; have z4 : w1.cell? ⟨w.heap.size, 4, none⟩ = some (.slice none 0 0) := (blk_cell HY.out 4).trans rfl; have f0 := blk_frozen HY.out 0; have f1 := blk_frozen HY.out 1; have f2 := blk_frozen HY.out 2; have f3 := blk_frozen HY.out 3; have f4 := blk_frozen HY.out 4; clear hb1)
    have qa : ∀ (W : World) (o : Obj) (k : Nat), w.heap.size < W.heap.size → (W.alloc o).cell? ⟨w.heap.size, k, none⟩ = W.cell? ⟨w.heap.size, k, none⟩ := fun W o k h => (Below.alloc (Below.refl W.heap.size W) (Nat.le_refl _) o).cell (p := ⟨w.heap.size, k, none⟩) h
    have qf : ∀ (W : World) (o : Obj) (k : Nat), w.heap.size < W.heap.size → (W.alloc o).frozen? ⟨w.heap.size, k, none⟩ = W.frozen? ⟨w.heap.size, k, none⟩ := fun W o k h => (Below.alloc (Below.refl W.heap.size W) (Nat.le_refl _) o).frozen (p := ⟨w.heap.size, k, none⟩) h
    have s0 : w.heap.size < w1.heap.size := blk_lt HY.out
    have s1 : w.heap.size < w1.heap.size + 1 := by omega
    have s2 : w.heap.size < w1.heap.size + 1 + 1 := by omega
    have s3 : w.heap.size < w1.heap.size + 1 + 1 + 1 := by omega
    go_region_held3 (fun w' => True) (trivial) (fail)
    all_goals
      clear qa qf mk1 mk2
      go_wp2_with fail
      refine bodyPost_ret (results_ct rfl _ _ (w.heap.size) 34 _ (0, 0) _ rfl (blk_drew (blk_alloc (blk_alloc (blk_alloc (blk_alloc (set5 HY.out _ _ _ _ _) _) _) _) _)) hu34 rfl (by kernel_rfl)) rfl ?_
      exact make_end (by omega) (below_drew1 (below_alloc (below_alloc (below_alloc (below_alloc (below_same HB1.out (same5 w1 w.heap.size _ _ _ _ _) (Nat.le_refl _)) _) _) _) _)) (by omega) (by omega) (by omega) (by omega) (by omega) (by omega)
        (by first | (with_reducible exact at4a (same5 w1 w.heap.size _ _ _ _ _).size _ _ _ _) | (with_reducible exact at4b (same5 w1 w.heap.size _ _ _ _ _).size _ _ _ _) | (with_reducible exact at4c (same5 w1 w.heap.size _ _ _ _ _).size _ _ _ _) | (with_reducible exact at4d (same5 w1 w.heap.size _ _ _ _ _).size _ _ _ _))
        (by first | (with_reducible exact at4a (same5 w1 w.heap.size _ _ _ _ _).size _ _ _ _) | (with_reducible exact at4b (same5 w1 w.heap.size _ _ _ _ _).size _ _ _ _) | (with_reducible exact at4c (same5 w1 w.heap.size _ _ _ _ _).size _ _ _ _) | (with_reducible exact at4d (same5 w1 w.heap.size _ _ _ _ _).size _ _ _ _))
        (by first | (with_reducible exact at4a (same5 w1 w.heap.size _ _ _ _ _).size _ _ _ _) | (with_reducible exact at4b (same5 w1 w.heap.size _ _ _ _ _).size _ _ _ _) | (with_reducible exact at4c (same5 w1 w.heap.size _ _ _ _ _).size _ _ _ _) | (with_reducible exact at4d (same5 w1 w.heap.size _ _ _ _ _).size _ _ _ _))
        (by first | (with_reducible exact at4a (same5 w1 w.heap.size _ _ _ _ _).size _ _ _ _) | (with_reducible exact at4b (same5 w1 w.heap.size _ _ _ _ _).size _ _ _ _) | (with_reducible exact at4c (same5 w1 w.heap.size _ _ _ _ _).size _ _ _ _) | (with_reducible exact at4d (same5 w1 w.heap.size _ _ _ _ _).size _ _ _ _))
  · have hm : makeG l = (zeroLn 0, 6) := by unfold makeG; rw [if_neg hs]
    rw [hm]
    have HS := Aside0.mk hs
    clear hm hs
    go_enter Try.func12, Try.ntmps12
    go_wp2_with (go_at_call 29; (with_reducible refine (sound_calls l A c _ (Kd.C_below HL.out (by repeat (first | exact Below.refl _ _ | apply below_alloc))) HC.out HF.out false (by simp [HS.out])).mono ?_); rintro e w1 ⟨rfl, hb1⟩; have HY := Aside0.mk (blk_below (blk_new w _) hb1); have HB1 := Aside0.mk (below_step (w := w) (by repeat (first | exact Below.refl _ _ | apply below_alloc)) hb1); have z0 : w1.cell? ⟨w.heap.size, 0, none⟩ = some (.int .i64 0) := (blk_cell HY.out 0).trans rfl; have z1 : w1.cell? ⟨w.heap.size, 1, none⟩ = some (.slice none 0 0) := (blk_cell HY.out 1).trans rfl; have z2 : w1.cell? ⟨w.heap.size, 2, none⟩ = some (.slice none 0 0) := (blk_cell HY.out 2).trans rfl; have z3 : w1.cell? ⟨w.heap.size, 3, none⟩ = some (.slice none 0 0) := (blk_cell HY.out 3).trans rfl; have z4 : w1.cell? ⟨w.heap.size, 4, none⟩ = some (.slice none 0 0) := (blk_cell HY.out 4).trans rfl; have f0 := blk_frozen HY.out 0; have f1 := blk_frozen HY.out 1; have f2 := blk_frozen HY.out 2; have f3 := blk_frozen HY.out 3; have f4 := blk_frozen HY.out 4; clear hb1)
    have SS := same5 w1 w.heap.size (.int .i64 0) (.slice none 0 0) (.slice none 0 0) (.slice none 0 0) (.slice none 0 0)
    refine bodyPost_ret (results_ct rfl _ _ (w.heap.size) 34 _ (0, 0) _ rfl (set5 HY.out _ _ _ _ _) hu34 rfl (by kernel_rfl)) rfl ?_
    exact ⟨_, _, _, _, rfl, ⟨Kd.R_nil _ _ _ _ _, Kd.R_nil _ _ _ _ _, Kd.R_nil _ _ _ _ _, Kd.R_nil _ _ _ _ _⟩, below_same HB1.out SS (Nat.le_refl _)⟩
set_option maxHeartbeats 16000000 in
set_option maxRecDepth 100000 in
theorem rmake_calls (l : List S31) (A : Option Addr) (c : Nat) (w : World) (hl : Kd.C k31 w A l.length l) (hc : l.length ≤ c) (hfit : Fit l.length) :
    Calls Try.prog 21 #[.slice A l.length c] w (GivesM w (makeG l).1 (makeG l).2) := by
  have HL := Aside0.mk hl
  have HC := Aside0.mk hc
  have HF := Aside0.mk hfit
  have hu34 := Try.underlying34
  clear hl hc hfit
  by_cases hs : Snd l
  · have hm : makeG l = (zeroLn l.length, 0) := by unfold makeG; rw [if_pos hs]
    rw [hm]
    have hlen := hs.len
    have HS := Aside0.mk hs
    clear hm hs
    have mk1 := print_make_of (P := Try.prog) 22 3 (.int .i64 0) 8 Try.underlying22 info3 rfl (by decide) l.length (by omega)
    have mk2 := print_make_of (P := Try.prog) 32 4 (.bool false) 1 Try.underlying32 info4 rfl (by decide) l.length (by omega)
    go_enter Try.func21, Try.ntmps21
    go_upto_region 4 with (go_at_call 44; (with_reducible refine (rsound_calls l A c _ (Kd.C_below HL.out (by repeat (first | exact Below.refl _ _ | apply below_alloc))) HC.out HF.out true (by simp [HS.out])).mono ?_); rintro e w' ⟨rfl, ⟨nd, rfl⟩⟩; obtain ⟨w1, hw1⟩ : ∃ w1, w1 = (w.alloc (.cells #[Value.int IntKind.i64 0, Value.slice none 0 0, Value.slice none 0 0, Value.slice none 0 0, Value.slice none 0 0] 34)).drewN nd := ⟨_, rfl⟩; rw [← hw1]; have HY : Aside0 (w1.heap[w.heap.size]? = some (.cells #[Value.int IntKind.i64 0, Value.slice none 0 0, Value.slice none 0 0, Value.slice none 0 0, Value.slice none 0 0] 34 (0, 0))) := ⟨by rw [hw1]; exact blk_drewN (blk_new w _) _⟩; have HB1 : Aside0 (Below w.heap.size w w1) := ⟨by rw [hw1]; exact pw_below_drewN (below_alloc (Below.refl _ _) _) _⟩; have z0 : w1.cell? ⟨w.heap.size, 0, none⟩ = some (.int .i64 0) := (blk_cell HY.out 0).trans rfl; have z1 : w1.cell? ⟨w.heap.size, 1, none⟩ = some (.slice none 0 0) := (blk_cell HY.out 1).trans rfl; have z2 : w1.cell? ⟨w.heap.size, 2, none⟩ = some (.slice none 0 0) := (blk_cell HY.out 2).trans rfl; have z3 : w1.cell? ⟨w.heap.size, 3, none⟩ = some (.slice none 0 0) := (blk_cell HY.out 3).trans rfl; have z4 : w1.cell? ⟨w.heap.size, 4, none⟩ = some (.slice none 0 0) := (blk_cell HY.out 4).trans rfl; have f0 := blk_frozen HY.out 0; have f1 := blk_frozen HY.out 1; have f2 := blk_frozen HY.out 2; have f3 := blk_frozen HY.out 3; have f4 := blk_frozen HY.out 4; clear hw1)
    have qa : ∀ (W : World) (o : Obj) (k : Nat), w.heap.size < W.heap.size → (W.alloc o).cell? ⟨w.heap.size, k, none⟩ = W.cell? ⟨w.heap.size, k, none⟩ := fun W o k h => (Below.alloc (Below.refl W.heap.size W) (Nat.le_refl _) o).cell (p := ⟨w.heap.size, k, none⟩) h
    have qf : ∀ (W : World) (o : Obj) (k : Nat), w.heap.size < W.heap.size → (W.alloc o).frozen? ⟨w.heap.size, k, none⟩ = W.frozen? ⟨w.heap.size, k, none⟩ := fun W o k h => (Below.alloc (Below.refl W.heap.size W) (Nat.le_refl _) o).frozen (p := ⟨w.heap.size, k, none⟩) h
    have s0 : w.heap.size < w1.heap.size := blk_lt HY.out
    have s1 : w.heap.size < w1.heap.size + 1 := by omega
    have s2 : w.heap.size < w1.heap.size + 1 + 1 := by omega
    have s3 : w.heap.size < w1.heap.size + 1 + 1 + 1 := by omega
    go_region_held3 (fun w' => True) (trivial) (fail)
    all_goals
      clear qa qf mk1 mk2
      go_wp2_with fail
      refine bodyPost_ret (results_ct rfl _ _ (w.heap.size) 34 _ (0, 0) _ rfl (blk_drew (blk_alloc (blk_alloc (blk_alloc (blk_alloc (set5 HY.out _ _ _ _ _) _) _) _) _)) hu34 rfl (by kernel_rfl)) rfl ?_
      exact make_end (by omega) (below_drew1 (below_alloc (below_alloc (below_alloc (below_alloc (below_same HB1.out (same5 w1 w.heap.size _ _ _ _ _) (Nat.le_refl _)) _) _) _) _)) (by omega) (by omega) (by omega) (by omega) (by omega) (by omega)
        (by first | (with_reducible exact at4a (same5 w1 w.heap.size _ _ _ _ _).size _ _ _ _) | (with_reducible exact at4b (same5 w1 w.heap.size _ _ _ _ _).size _ _ _ _) | (with_reducible exact at4c (same5 w1 w.heap.size _ _ _ _ _).size _ _ _ _) | (with_reducible exact at4d (same5 w1 w.heap.size _ _ _ _ _).size _ _ _ _))
        (by first | (with_reducible exact at4a (same5 w1 w.heap.size _ _ _ _ _).size _ _ _ _) | (with_reducible exact at4b (same5 w1 w.heap.size _ _ _ _ _).size _ _ _ _) | (with_reducible exact at4c (same5 w1 w.heap.size _ _ _ _ _).size _ _ _ _) | (with_reducible exact at4d (same5 w1 w.heap.size _ _ _ _ _).size _ _ _ _))
        (by first | (with_reducible exact at4a (same5 w1 w.heap.size _ _ _ _ _).size _ _ _ _) | (with_reducible exact at4b (same5 w1 w.heap.size _ _ _ _ _).size _ _ _ _) | (with_reducible exact at4c (same5 w1 w.heap.size _ _ _ _ _).size _ _ _ _) | (with_reducible exact at4d (same5 w1 w.heap.size _ _ _ _ _).size _ _ _ _))
        (by first | (with_reducible exact at4a (same5 w1 w.heap.size _ _ _ _ _).size _ _ _ _) | (with_reducible exact at4b (same5 w1 w.heap.size _ _ _ _ _).size _ _ _ _) | (with_reducible exact at4c (same5 w1 w.heap.size _ _ _ _ _).size _ _ _ _) | (with_reducible exact at4d (same5 w1 w.heap.size _ _ _ _ _).size _ _ _ _))
  · have hm : makeG l = (zeroLn 0, 6) := by unfold makeG; rw [if_neg hs]
    rw [hm]
    have HS := Aside0.mk hs
    clear hm hs
    go_enter Try.func21, Try.ntmps21
    go_wp2_with (go_at_call 44; (with_reducible refine (rsound_calls l A c _ (Kd.C_below HL.out (by repeat (first | exact Below.refl _ _ | apply below_alloc))) HC.out HF.out false (by simp [HS.out])).mono ?_); rintro e w' ⟨rfl, ⟨nd, rfl⟩⟩; obtain ⟨w1, hw1⟩ : ∃ w1, w1 = (w.alloc (.cells #[Value.int IntKind.i64 0, Value.slice none 0 0, Value.slice none 0 0, Value.slice none 0 0, Value.slice none 0 0] 34)).drewN nd := ⟨_, rfl⟩; rw [← hw1]; have HY : Aside0 (w1.heap[w.heap.size]? = some (.cells #[Value.int IntKind.i64 0, Value.slice none 0 0, Value.slice none 0 0, Value.slice none 0 0, Value.slice none 0 0] 34 (0, 0))) := ⟨by rw [hw1]; exact blk_drewN (blk_new w _) _⟩; have HB1 : Aside0 (Below w.heap.size w w1) := ⟨by rw [hw1]; exact pw_below_drewN (below_alloc (Below.refl _ _) _) _⟩; have z0 : w1.cell? ⟨w.heap.size, 0, none⟩ = some (.int .i64 0) := (blk_cell HY.out 0).trans rfl; have z1 : w1.cell? ⟨w.heap.size, 1, none⟩ = some (.slice none 0 0) := (blk_cell HY.out 1).trans rfl; have z2 : w1.cell? ⟨w.heap.size, 2, none⟩ = some (.slice none 0 0) := (blk_cell HY.out 2).trans rfl; have z3 : w1.cell? ⟨w.heap.size, 3, none⟩ = some (.slice none 0 0) := (blk_cell HY.out 3).trans rfl; have z4 : w1.cell? ⟨w.heap.size, 4, none⟩ = some (.slice none 0 0) := (blk_cell HY.out 4).trans rfl; have f0 := blk_frozen HY.out 0; have f1 := blk_frozen HY.out 1; have f2 := blk_frozen HY.out 2; have f3 := blk_frozen HY.out 3; have f4 := blk_frozen HY.out 4; clear hw1)
    have SS := same5 w1 w.heap.size (.int .i64 0) (.slice none 0 0) (.slice none 0 0) (.slice none 0 0) (.slice none 0 0)
    refine bodyPost_ret (results_ct rfl _ _ (w.heap.size) 34 _ (0, 0) _ rfl (set5 HY.out _ _ _ _ _) hu34 rfl (by kernel_rfl)) rfl ?_
    exact ⟨_, _, _, _, rfl, ⟨Kd.R_nil _ _ _ _ _, Kd.R_nil _ _ _ _ _, Kd.R_nil _ _ _ _ _, Kd.R_nil _ _ _ _ _⟩, below_same HB1.out SS (Nat.le_refl _)⟩
end Go.Proofs.Ytejmjeanhlkenaa.HandA
