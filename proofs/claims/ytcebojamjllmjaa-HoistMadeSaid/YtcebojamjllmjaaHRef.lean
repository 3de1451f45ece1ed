/- What the document's answer tells of a hoist, and that the given code tells the same. Plain numbers, no program in sight. -/
import Derived.Test.YtcebojamjllmjaaHMath
import Derived.Test.YtcebojamjllmjaaPHoistx19
namespace Go.Proofs.Ytcebojamjllmjaa.HRef
open Go.RowKit Go.Proofs.Ytcebojamjllmjaa.PHoist Go.Proofs.Ytcebojamjllmjaa.HMath Go.Proofs.Ytcebojamjllmjaa.Hand Go.Proofs.Ytcebojamjllmjaa.HandH Go.Proofs.YtcebojamjllmjaaW.PrintWords Go.Proofs.YtcebojamjllmjaaW.PrintLast Go.Proofs.YtcebojamjllmjaaW.PrintMore
set_option linter.unusedVariables false

theorem mul_in {a b A B : Int} (a0 : 0 ≤ a) (a1 : a ≤ A) (b0 : 0 ≤ b) (b1 : b ≤ B) : 0 ≤ a * b ∧ a * b ≤ A * B :=
  ⟨Int.mul_nonneg a0 b0, Int.mul_le_mul a1 b1 b0 (by omega)⟩

/-- The document's search: it ends at the root. -/
theorem ref_loop {d t b c m room : Int} (t1 : 1 ≤ t) (t2 : t ≤ 20000) (b1 : 1 ≤ b) (b2 : b ≤ 5000) (c1 : 0 ≤ c) (c2 : c ≤ t) (hr : 0 < room) (n : Nat) :
    ∀ (k : Nat) (lo hi : Int), 0 ≤ lo → lo < hi → hi ≤ t + 1 → lo * lo ≤ 2 * b * mn room 1099511627776 → (hi ≤ t → 2 * b * mn room 1099511627776 < hi * hi) → hi - lo ≤ 2 ^ n → n < k →
    ∃ x, ref37_Limit.l0 k room lo hi d t b c m = some (mn (x + c) t) ∧ 0 ≤ x ∧ x ≤ t ∧ x * x ≤ 2 * b * mn room 1099511627776 ∧ (x < t → 2 * b * mn room 1099511627776 < (x + 1) * (x + 1)) := by
  have hR : 1 ≤ mn room 1099511627776 ∧ mn room 1099511627776 ≤ 1099511627776 := by unfold mn; split <;> omega
  generalize hRR : mn room 1099511627776 = R at *
  have hQ := mul_in (a := 2 * b) (b := R) (A := 10000) (B := 1099511627776) (by omega) (by omega) (by omega) (by omega)
  induction n with
  | zero =>
    intro k lo hi l0 l1 h1 q1 q2 hp hk
    obtain ⟨k, rfl⟩ : ∃ m, k = m + 1 := ⟨k - 1, by omega⟩
    have e1 : wrap64 (hi - lo) = hi - lo := wId (by omega) (by omega)
    have e2 : wrap64 (lo + c) = lo + c := wId (by omega) (by omega)
    simp only [ref37_Limit.l0, e1, e2]
    rw [if_neg (by omega)]
    have : hi = lo + 1 := by omega
    subst this
    exact ⟨lo, rfl, l0, by omega, q1, fun h => q2 (by omega)⟩
  | succ n ih =>
    intro k lo hi l0 l1 h1 q1 q2 hp hk
    obtain ⟨k, rfl⟩ : ∃ m, k = m + 1 := ⟨k - 1, by omega⟩
    have e1 : wrap64 (hi - lo) = hi - lo := wId (by omega) (by omega)
    have e2 : wrap64 (lo + c) = lo + c := wId (by omega) (by omega)
    have e3 : wrap64 (lo + hi) = lo + hi := wId (by omega) (by omega)
    have e4 : wrap64 (Int.tdiv (lo + hi) 2) = (lo + hi) / 2 := by rw [tdiv_pos (by omega)]; exact wId (by omega) (by omega)
    have e5 : wrap64 (2 * b) = 2 * b := wId (by omega) (by omega)
    have e6 : wrap64 (2 * b * R) = 2 * b * R := wId (by omega) (by omega)
    simp only [ref37_Limit.l0, e1, e2, e3, e4, e5, hRR, e6]
    have hm : lo ≤ (lo + hi) / 2 ∧ (lo + hi) / 2 ≤ hi := by omega
    have hm2 := mul_in (a := (lo + hi) / 2) (b := (lo + hi) / 2) (A := 20001) (B := 20001) (by omega) (by omega) (by omega) (by omega)
    rw [wId (x := (lo + hi) / 2 * ((lo + hi) / 2)) (by omega) (by omega)]
    have hpow : (2 : Int) ^ (n + 1) = 2 * 2 ^ n := by rw [Int.pow_succ, Int.mul_comm]
    rw [hpow] at hp
    have hpn : (0 : Int) < 2 ^ n := Int.pow_pos (by omega)
    by_cases hd : hi - lo > 1
    · rw [if_pos hd]
      split
      · rename_i h
        exact ih k _ _ (by omega) (by omega) h1 h q2 (by omega) (by omega)
      · rename_i h
        exact ih k _ _ l0 (by omega) (by omega) q1 (fun _ => by omega) (by omega) (by omega)
    · rw [if_neg hd]
      have : hi = lo + 1 := by omega
      subst this
      exact ⟨lo, rfl, l0, by omega, q1, fun h => q2 (by omega)⟩

/-- The document's limit is the given one. -/
theorem ref_limit {d t b c m room : Int} (h : HoistOk d t b c m) {k : Nat} (hk : 16 ≤ k) : ref37_Limit.f k d t b c m room = some (limitOf t b c room) := by
  obtain ⟨h1, h2, h3, h4, h5, h6, h7, h8, h9, h10⟩ := h
  unfold ref37_Limit.f limitOf
  by_cases hr : room ≤ 0
  · rw [if_pos hr, if_pos hr]
    unfold mn lesser
    (repeat' split) <;> first | rfl | omega | (congr 1; omega)
  · rw [if_neg hr, if_neg hr, wId (x := t + 1) (by omega) (by omega)]
    have hR : 1 ≤ mn room 1099511627776 := by unfold mn; split <;> omega
    have hQ0 := Int.mul_nonneg (show 0 ≤ 2 * b by omega) (show 0 ≤ mn room 1099511627776 by omega)
    obtain ⟨x, hx, x0, x1, x2, x3⟩ := ref_loop (d := d) (m := m) h3 h4 h5 h6 h7 h8 (room := room) (by omega) 15 k 0 (t + 1) (by omega) (by omega) (by omega) (by omega) (fun h => by omega) (by omega) (by omega)
    obtain ⟨y, hy, y0, y1, y2, y3⟩ := limit_root h3 h4 h5 h6 (room := room) (by omega)
    rw [hx, hy]
    have ht := mul_in (a := t) (b := t) (A := 20000) (B := 20000) (by omega) (by omega) (by omega) (by omega)
    have hxy : x = y := by
      rw [roomR_eq] at y2 y3
      by_cases hc : t * t < room
      · rw [if_pos hc] at y2 y3
        have hge : t * t ≤ 2 * b * (t * t) := by
          have := Int.mul_le_mul (show (1 : Int) ≤ 2 * b by omega) (Int.le_refl (t * t)) ht.1 (by omega)
          omega
        have hge2 : t * t ≤ 2 * b * mn room 1099511627776 := by
          have : t * t ≤ mn room 1099511627776 := by unfold mn; split <;> omega
          have := Int.mul_le_mul (show (1 : Int) ≤ 2 * b by omega) this ht.1 (by omega)
          omega
        have hxt : x = t := by
          by_cases hlt : x < t
          · have := x3 hlt
            have := sq_mono (a := x + 1) (b := t) (by omega) (by omega)
            omega
          · omega
        have hyt : y = t := by
          by_cases hlt : y < t
          · have := y3 hlt
            have := sq_mono (a := y + 1) (b := t) (by omega) (by omega)
            omega
          · omega
        omega
      · rw [if_neg hc] at y2 y3
        have : mn room 1099511627776 = room := by unfold mn; split <;> omega
        rw [this] at x2 x3
        exact root_one x0 y0 x1 y1 x2 y2 x3 y3
    subst hxy
    unfold mn lesser
    rw [Int.add_comm c x]

theorem rvalid_ok {d t b c m a v : Int} {f : Bool} (h : HoistOk d t b c m) (r : RideOk d a v) : ref37_Valid.f d t b c m a v f = some true := by
  obtain ⟨h1, h2, h3, h4, h5, h6, h7, h8, h9, h10⟩ := h
  obtain ⟨r1, r2, r3, r4⟩ := r
  have hw : wrap64 (d + 1000) = d + 1000 := wId (by omega) (by omega)
  unfold ref37_Valid.f ref37_hoist.f
  simp [h1, h2, h3, h4, h5, h6, h7, h8, h9, h10, r1, r2, r3, r4, hw]
theorem rhoist_val (d t b c m : Int) : ref37_hoist.f d t b c m = some (decide (1 ≤ d ∧ d ≤ 4000000 ∧ 1 ≤ t ∧ t ≤ 20000 ∧ 1 ≤ b ∧ b ≤ 5000 ∧ 0 ≤ c ∧ c ≤ t ∧ 0 ≤ m ∧ m ≤ 20)) := by
  unfold ref37_hoist.f
  (repeat' split) <;> congr 1 <;> symm
  · apply decide_eq_decide.mpr; omega
  all_goals (apply decide_eq_false; omega)
theorem rvalid_no {d t b c m a v : Int} {f : Bool} (h : ¬ (HoistOk d t b c m ∧ RideOk d a v)) : ref37_Valid.f d t b c m a v f = some false := by
  unfold ref37_Valid.f
  rw [rhoist_val]
  simp only [Option.bind_some]
  unfold HoistOk RideOk at h
  by_cases h1 : 1 ≤ d ∧ d ≤ 4000000 ∧ 1 ≤ t ∧ t ≤ 20000 ∧ 1 ≤ b ∧ b ≤ 5000 ∧ 0 ≤ c ∧ c ≤ t ∧ 0 ≤ m ∧ m ≤ 20
  · have hw : wrap64 (d + 1000) = d + 1000 := wId (by omega) (by omega)
    rw [decide_eq_true h1, if_pos rfl, hw]
    (repeat' split)
    · congr 1; apply decide_eq_false; omega
    all_goals rfl
  · rw [decide_eq_false h1, if_neg (by simp)]

theorem ref_j1 {d t b c m a v : Int} (h : HoistOk d t b c m) (r : RideOk d a v) (k : Nat) (f : Bool) (acc : Int) :
    ref37_Tick.j1 (k + 1) acc d t b c m a v f = some (atP d a v (speedP t b v acc f), speedP t b v acc f, f, 0) := by
  obtain ⟨h1, h2, h3, h4, h5, h6, h7, h8, h9, h10⟩ := h
  obtain ⟨r1, r2, r3, r4⟩ := r
  have e1 : wrap64 (-b) = -b := wId (by omega) (by omega)
  have e2 : wrap64 (-t) = -t := wId (by omega) (by omega)
  have e3 : wrap64 (d + 1000) = d + 1000 := wId (by omega) (by omega)
  have e4 : wrap64 (v - b) = v - b := wId (by omega) (by omega)
  have e5 : wrap64 (v + b) = v + b := wId (by omega) (by omega)
  have mncomm : ∀ x y : Int, mn x y = mn y x := by intro x y; unfold mn; split <;> split <;> omega
  have s1 : v > 0 → mx 0 (v - b) = v - clampP v (-b) b := by intro q; unfold clampP mx mn; (repeat' split) <;> omega
  have s2 : ¬ v > 0 → mn 0 (v + b) = v - clampP v (-b) b := by intro q; unfold clampP mx mn; (repeat' split) <;> omega
  have s3 : mx (-b) (mn b acc) = clampP acc (-b) b := by unfold clampP; rw [mncomm]
  have c1 := clampP_in v (show -b ≤ b by omega)
  have c2 := clampP_in acc (show -b ≤ b by omega)
  have e6 : wrap64 (v + clampP acc (-b) b) = v + clampP acc (-b) b := wId (by omega) (by omega)
  have s4 : mx (-t) (mn t (v + clampP acc (-b) b)) = clampP (v + clampP acc (-b) b) (-t) t := by unfold clampP; rw [mncomm]
  have hs := speedP_in (t := t) (b := b) (v := v) acc f h3 h4 h5 h6 r3 r4
  have e7 : wrap64 (v + speedP t b v acc f) = v + speedP t b v acc f := wId (by omega) (by omega)
  have q1 := tdiv_in (x := v + speedP t b v acc f) (B := 80000) (by omega) (by omega) (by omega)
  have e8 : wrap64 (Int.tdiv (v + speedP t b v acc f) 2) = Int.tdiv (v + speedP t b v acc f) 2 := wId (by omega) (by omega)
  have e9 : wrap64 (a + Int.tdiv (v + speedP t b v acc f) 2) = a + Int.tdiv (v + speedP t b v acc f) 2 := wId (by omega) (by omega)
  have fin : ∀ s, s = speedP t b v acc f → (some (mx (-1000) (mn (d + 1000) (wrap64 (a + (wrap64 (Int.tdiv (wrap64 (v + s)) 2))))), s, f, (0 : Int))) = some (atP d a v (speedP t b v acc f), speedP t b v acc f, f, 0) := by
    intro s q
    subst q
    rw [e7, e8, e9]
    unfold atP clampP
    rw [mncomm (d + 1000)]
  simp only [ref37_Tick.j1, e1, e2, e3, e4, e5, s3, e6, s4]
  cases f
  · rw [if_neg (by simp)]
    exact fin _ rfl
  · rw [if_pos rfl]
    by_cases hv : v > 0
    · rw [if_pos hv, s1 hv]
      exact fin _ rfl
    · rw [if_neg hv, s2 hv]
      exact fin _ rfl

theorem ref_tick {d t b c m a v : Int} (h : HoistOk d t b c m) (r : RideOk d a v) (f : Bool) (acc : Int) {k : Nat} (hk : 16 ≤ k) :
    ref37_Tick.f k d t b c m a v f acc = some (atP d a v (speedP t b v acc (tripP d t b c m a v f)), speedP t b v acc (tripP d t b c m a v f), tripP d t b c m a v f, 0) := by
  have hh := h
  have rr := r
  obtain ⟨h1, h2, h3, h4, h5, h6, h7, h8, h9, h10⟩ := hh
  obtain ⟨r1, r2, r3, r4⟩ := rr
  unfold ref37_Tick.f ref37_size.f
  rw [rvalid_ok h r]
  simp only [Option.bind_some, if_true]
  have hroom : ∃ q, ref37_room.f d t b c m a v f = some q ∧ (v ≠ 0 → q = roomP d a v) := by
    unfold ref37_room.f roomP
    rw [wId (x := d - a) (by omega) (by omega)]
    by_cases hv : v > 0
    · rw [if_pos hv, if_pos hv]; exact ⟨_, rfl, fun _ => rfl⟩
    · rw [if_neg hv, if_neg hv]
      by_cases hv2 : v < 0
      · rw [if_pos hv2]; exact ⟨_, rfl, fun _ => rfl⟩
      · exact ⟨_, rfl, fun q => absurd (show v = 0 by omega) q⟩
  obtain ⟨q, hq, hq2⟩ := hroom
  rw [hq]; simp only [Option.bind_some]
  rw [ref_limit h hk]; simp only [Option.bind_some]
  have hl := lim_times h3 h4 h5 h6 h7 h8 h9 h10 (room := q)
  have e4 : wrap64 (-v) = -v := wId (by omega) (by omega)
  have e5 : wrap64 (100 + m) = 100 + m := wId (by omega) (by omega)
  have e6 : wrap64 (limitOf t b c q * (100 + m)) = limitOf t b c q * (100 + m) := wId (by omega) (by omega)
  have e7 : wrap64 (Int.tdiv (limitOf t b c q * (100 + m)) 100) = limitOf t b c q * (100 + m) / 100 := by rw [tdiv_pos hl.1]; exact wId (by omega) (by omega)
  rw [e4, e5, e6, e7]
  have hover : (mx v (-v) > limitOf t b c q * (100 + m) / 100) ↔ (mx v (-v) > limitOf t b c (roomP d a v) * (100 + m) / 100) := by
    by_cases hv : v = 0
    · have hl2 := lim_times h3 h4 h5 h6 h7 h8 h9 h10 (room := roomP d a v)
      have d1 : 0 ≤ limitOf t b c q * (100 + m) / 100 := Int.ediv_nonneg hl.1 (by omega)
      have d2 : 0 ≤ limitOf t b c (roomP d a v) * (100 + m) / 100 := Int.ediv_nonneg hl2.1 (by omega)
      have : mx v (-v) = 0 := by subst hv; decide
      rw [this]
      omega
    · rw [hq2 hv]
  obtain ⟨k, rfl⟩ : ∃ j, k = j + 1 + 1 := ⟨k - 2, by omega⟩
  have yes : tripP d t b c m a v f = true → ref37_Tick.j0 (k + 1 + 1) acc true d t b c m a v f = some (atP d a v (speedP t b v acc (tripP d t b c m a v f)), speedP t b v acc (tripP d t b c m a v f), tripP d t b c m a v f, 0) := by
    intro q
    simp only [ref37_Tick.j0]
    rw [if_pos trivial, ref_j1 h r, q]
  by_cases ho : mx v (-v) > limitOf t b c q * (100 + m) / 100
  · rw [if_pos ho]
    exact yes (by unfold tripP absP; rw [decide_eq_true (hover.mp ho)]; simp)
  · rw [if_neg ho]
    by_cases ha : a < 0
    · rw [if_pos ha]
      exact yes (by unfold tripP; rw [decide_eq_false (p := 0 ≤ a ∧ a ≤ d) (by omega)]; simp)
    · rw [if_neg ha]
      by_cases hb : a > d
      · rw [decide_eq_true hb]
        exact yes (by unfold tripP; rw [decide_eq_false (p := 0 ≤ a ∧ a ≤ d) (by omega)]; simp)
      · rw [decide_eq_false hb]
        simp only [ref37_Tick.j0]
        rw [if_neg (by simp), ref_j1 h r]
        have : tripP d t b c m a v f = f := by
          unfold tripP absP
          rw [decide_eq_true (p := 0 ≤ a ∧ a ≤ d) (by omega), decide_eq_false (fun q => ho (hover.mpr q))]
          simp
        rw [this]

/-- Both tell the same of every hoist, ride and acceleration. -/
theorem agree_ok (d t b c m a v : Int) (f : Bool) (acc : Int) {k : Nat} (hd : (Lit.int .i64 d).wf = true) (hk : 16 ≤ k) : law37_agree.f k d t b c m a v f acc = some true := by
  unfold law37_agree.f
  by_cases hv : HoistOk d t b c m ∧ RideOk d a v
  · rw [tick_val hv.1 hv.2, ref_tick hv.1 hv.2 f acc hk]
    unfold hoist_Reset.f ref37_Reset.f
    rw [valid_ok hv.1 hv.2, rvalid_ok hv.1 hv.2]
    simp only [Option.bind_some, if_true]
    by_cases h0 : v = 0
    · cases f <;> simp [h0]
    · simp [h0]
  · have e1 : hoist_Tick.f d t b c m a v f acc = some (a, v, f, 6) := by
      unfold hoist_Tick.f
      rw [valid_no hd hv]
      simp
    have e2 : ref37_Tick.f k d t b c m a v f acc = some (a, v, f, 6) := by
      unfold ref37_Tick.f
      rw [rvalid_no hv]
      simp
    rw [e1, e2]
    unfold hoist_Reset.f ref37_Reset.f
    rw [valid_no hd hv, rvalid_no hv]
    simp
end Go.Proofs.Ytcebojamjllmjaa.HRef
