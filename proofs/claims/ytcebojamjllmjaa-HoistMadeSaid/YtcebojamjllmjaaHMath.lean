/- The arithmetic of a hoist: what a limit is, and what one second does. Plain numbers, no program in sight. -/
import Derived.Test.YtcebojamjllmjaaPHoistx7
import Derived.Test.YtcebojamjllmjaaPHoistx8
namespace Go.Proofs.Ytcebojamjllmjaa.HMath
open Go.RowKit Go.Proofs.Ytcebojamjllmjaa.PHoist Go.Proofs.Ytcebojamjllmjaa.Hand Go.Proofs.Ytcebojamjllmjaa.HandH Go.Proofs.YtcebojamjllmjaaW.PrintWords Go.Proofs.YtcebojamjllmjaaW.PrintLast Go.Proofs.YtcebojamjllmjaaW.PrintMore
set_option linter.unusedVariables false

/-- A hoist within its bounds. -/
def HoistOk (d t b c m : Int) : Prop := 1 ≤ d ∧ d ≤ 4000000 ∧ 1 ≤ t ∧ t ≤ 20000 ∧ 1 ≤ b ∧ b ≤ 5000 ∧ 0 ≤ c ∧ c ≤ t ∧ 0 ≤ m ∧ m ≤ 20
/-- A ride within its bounds. -/
def RideOk (d a v : Int) : Prop := -1000 ≤ a ∧ a ≤ d + 1000 ∧ -40000 ≤ v ∧ v ≤ 40000

theorem awake_ok : law37_awake.f = some true := by decide +kernel

theorem in_val (a b c : Int) : lists_In.f a b c = some (decide (b ≤ a ∧ a ≤ c)) := by
  unfold lists_In.f
  by_cases h : b ≤ a
  · rw [if_pos h]; simp [h]
  · rw [if_neg h]; simp [h]
theorem valid_ok {d t b c m a v : Int} {f : Bool} (h : HoistOk d t b c m) (r : RideOk d a v) : hoist_Valid.f d t b c m a v f = some true := by
  obtain ⟨h1, h2, h3, h4, h5, h6, h7, h8, h9, h10⟩ := h
  obtain ⟨r1, r2, r3, r4⟩ := r
  have hw : wrap64 (d + 1000) = d + 1000 := by unfold wrap64; omega
  unfold hoist_Valid.f
  simp only [in_val, Option.bind_some, hw]
  simp [h1, h2, h3, h4, h5, h6, h7, h8, h9, h10, r1, r2, r3, r4]
theorem valid_no {d t b c m a v : Int} {f : Bool} (hd : (Lit.int .i64 d).wf = true) (h : ¬ (HoistOk d t b c m ∧ RideOk d a v)) : hoist_Valid.f d t b c m a v f = some false := by
  unfold hoist_Valid.f
  simp only [in_val, Option.bind_some]
  unfold HoistOk RideOk at h
  by_cases h1 : 1 ≤ d ∧ d ≤ 4000000
  · have hw : wrap64 (d + 1000) = d + 1000 := by unfold wrap64; omega
    rw [hw]
    grind only
  · simp [h1]

/-- The root that a limit is made of. -/
theorem limit_root {t b room : Int} (t1 : 1 ≤ t) (t2 : t ≤ 20000) (b1 : 1 ≤ b) (b2 : b ≤ 5000) (hr : 0 < room) :
    ∃ x, bs (tooFast b (roomR t room)) 15 0 t = x ∧ 0 ≤ x ∧ x ≤ t ∧ x * x ≤ 2 * b * roomR t room ∧ (x < t → 2 * b * roomR t room < (x + 1) * (x + 1)) := by
  have hR := roomR_le hr t1 t2
  obtain ⟨s0, s1, s2, s3⟩ := bs_spec (tooFast b (roomR t room)) t (too_mono b1 b2 hR.1 hR.2 t t2) 15 0 t (by omega) (by omega) (by omega) (by omega) (fun y q1 q2 => by omega) (fun y q1 q2 => by omega)
  refine ⟨_, rfl, s0, s1, ?_, ?_⟩
  · generalize bs (tooFast b (roomR t room)) 15 0 t = x at *
    by_cases hx : x = 0
    · subst hx
      have := (dr_le b1 b2 hR.1 hR.2).1
      omega
    · have := s2 (x - 1) (by omega) (by omega)
      rw [too_eq b1 b2 hR.1 hR.2 (by omega) (by omega), decide_eq_false_iff_not, Int.sub_add_cancel] at this
      omega
  · intro hx
    have := s3 _ (Int.le_refl _) hx
    rw [too_eq b1 b2 hR.1 hR.2 s0 (by omega), decide_eq_true_eq] at this
    exact this
theorem sq_mono {a b : Int} (h0 : 0 ≤ a) (h : a ≤ b) : a * a ≤ b * b := Int.mul_le_mul h h h0 (by omega)
/-- Two roots of one number are one. -/
theorem root_one {x y t Q : Int} (x0 : 0 ≤ x) (y0 : 0 ≤ y) (x1 : x ≤ t) (y1 : y ≤ t) (hx : x * x ≤ Q) (hy : y * y ≤ Q) (kx : x < t → Q < (x + 1) * (x + 1)) (ky : y < t → Q < (y + 1) * (y + 1)) : x = y := by
  rcases Int.lt_trichotomy x y with h | h | h
  · have := kx (by omega)
    have := sq_mono (a := x + 1) (b := y) (by omega) (by omega)
    omega
  · exact h
  · have := ky (by omega)
    have := sq_mono (a := y + 1) (b := x) (by omega) (by omega)
    omega
theorem roomR_eq (t room : Int) : roomR t room = if t * t < room then t * t else room := rfl
theorem limit_bounds {t b c room : Int} (t1 : 1 ≤ t) (t2 : t ≤ 20000) (b1 : 1 ≤ b) (b2 : b ≤ 5000) (c1 : 0 ≤ c) (c2 : c ≤ t) : 0 ≤ limitOf t b c room ∧ limitOf t b c room ≤ t := by
  unfold limitOf lesser
  by_cases hr : room ≤ 0
  · rw [if_pos hr]; split <;> omega
  · rw [if_neg hr]
    obtain ⟨x, hx, x0, x1, _, _⟩ := limit_root t1 t2 b1 b2 (room := room) (by omega)
    rw [hx]
    split <;> omega

/-- A number that lies far within 64 bits doesn't go round. -/
theorem wId {x : Int} (h1 : -4611686018427387904 ≤ x) (h2 : x ≤ 4611686018427387904) : wrap64 x = x := by unfold wrap64; omega
theorem tdiv_pos {x n : Int} (h : 0 ≤ x) : Int.tdiv x n = x / n := Int.tdiv_eq_ediv_of_nonneg h
theorem tdiv_two (x : Int) : (0 ≤ x → Int.tdiv x 2 = x / 2) ∧ (x < 0 → Int.tdiv x 2 = -((-x) / 2)) := by
  refine ⟨tdiv_pos, fun h => ?_⟩
  have : Int.tdiv (-x) 2 = (-x) / 2 := tdiv_pos (by omega)
  rw [Int.neg_tdiv] at this
  omega
def clampP (n lo hi : Int) : Int := mx lo (mn n hi)
theorem clampP_in {lo hi : Int} (n : Int) (h : lo ≤ hi) : lo ≤ clampP n lo hi ∧ clampP n lo hi ≤ hi := by unfold clampP mx mn; constructor <;> (split <;> split at * <;> omega)
def roomP (d a v : Int) : Int := if v > 0 then mx 0 (d - a) else if v < 0 then mx 0 a else 0
def absP (v : Int) : Int := mx v (-v)
/-- Does the supervision trip in this second, or has it tripped? -/
def tripP (d t b c m a v : Int) (f : Bool) : Bool := f || decide (absP v > limitOf t b c (roomP d a v) * (100 + m) / 100) || !decide (0 ≤ a ∧ a ≤ d)
def speedP (t b v acc : Int) (trip : Bool) : Int := if trip = true then v - clampP v (-b) b else clampP (v + clampP acc (-b) b) (-t) t
def atP (d a v w : Int) : Int := clampP (a + Int.tdiv (v + w) 2) (-1000) (d + 1000)
theorem speedP_in {t b v : Int} (acc : Int) (trip : Bool) (t1 : 1 ≤ t) (t2 : t ≤ 20000) (b1 : 1 ≤ b) (b2 : b ≤ 5000) (v1 : -40000 ≤ v) (v2 : v ≤ 40000) : -40000 ≤ speedP t b v acc trip ∧ speedP t b v acc trip ≤ 40000 := by
  unfold speedP
  split
  · unfold clampP mx mn
    constructor <;> (split <;> split at * <;> omega)
  · have := clampP_in (v + clampP acc (-b) b) (show -t ≤ t by omega)
    omega
theorem atP_in {d a v w : Int} (d1 : 1 ≤ d) : -1000 ≤ atP d a v w ∧ atP d a v w ≤ d + 1000 := clampP_in _ (by omega)
theorem tdiv_in {x B : Int} (h1 : -B ≤ x) (h2 : x ≤ B) (hB : 0 ≤ B) : -B ≤ Int.tdiv x 2 ∧ Int.tdiv x 2 ≤ B := by
  have := tdiv_two x
  rcases (show x < 0 ∨ 0 ≤ x by omega) with h | h
  · rw [this.2 h]; omega
  · rw [this.1 h]; omega
theorem room_val {d t b c m a v : Int} {f : Bool} (h : HoistOk d t b c m) (r : RideOk d a v) : hoist_room.f d t b c m a v f = some (roomP d a v) := by
  obtain ⟨h1, h2, h3, h4, h5, h6, h7, h8, h9, h10⟩ := h
  obtain ⟨r1, r2, r3, r4⟩ := r
  unfold hoist_room.f roomP
  rw [wId (x := d - a) (by omega) (by omega)]
  split
  · rfl
  · split <;> rfl
theorem lim_val {d t b c m : Int} (h : HoistOk d t b c m) (room : Int) : hoist_Limit.f d t b c m room = some (limitOf t b c room) := by
  obtain ⟨h1, h2, h3, h4, h5, h6, h7, h8, h9, h10⟩ := h
  unfold hoist_Limit.f
  rw [if_pos (by omega)]
theorem lim_times {t b c m room : Int} (t1 : 1 ≤ t) (t2 : t ≤ 20000) (b1 : 1 ≤ b) (b2 : b ≤ 5000) (c1 : 0 ≤ c) (c2 : c ≤ t) (m1 : 0 ≤ m) (m2 : m ≤ 20) :
    0 ≤ limitOf t b c room * (100 + m) ∧ limitOf t b c room * (100 + m) ≤ 2400000 := by
  have hl := limit_bounds t1 t2 b1 b2 c1 c2 (room := room)
  have h1 := Int.mul_le_mul (show limitOf t b c room ≤ 20000 by omega) (show 100 + m ≤ 120 by omega) (by omega) (by omega)
  have h2 := Int.mul_nonneg hl.1 (show 0 ≤ 100 + m by omega)
  omega
/-- One second of a hoist within its bounds. -/
theorem tick_val {d t b c m a v : Int} (h : HoistOk d t b c m) (r : RideOk d a v) (f : Bool) (acc : Int) :
    hoist_Tick.f d t b c m a v f acc = some (atP d a v (speedP t b v acc (tripP d t b c m a v f)), speedP t b v acc (tripP d t b c m a v f), tripP d t b c m a v f, 0) := by
  have hh := h
  have rr := r
  obtain ⟨h1, h2, h3, h4, h5, h6, h7, h8, h9, h10⟩ := hh
  obtain ⟨r1, r2, r3, r4⟩ := rr
  have hl := lim_times h3 h4 h5 h6 h7 h8 h9 h10 (room := roomP d a v)
  have e1 : wrap64 (-b) = -b := wId (by omega) (by omega)
  have e2 : wrap64 (-t) = -t := wId (by omega) (by omega)
  have e3 : wrap64 (d + 1000) = d + 1000 := wId (by omega) (by omega)
  have e4 : wrap64 (-v) = -v := wId (by omega) (by omega)
  have e5 : wrap64 (100 + m) = 100 + m := wId (by omega) (by omega)
  have e6 : wrap64 (limitOf t b c (roomP d a v) * (100 + m)) = limitOf t b c (roomP d a v) * (100 + m) := wId (by omega) (by omega)
  have e7 : wrap64 (Int.tdiv (limitOf t b c (roomP d a v) * (100 + m)) 100) = limitOf t b c (roomP d a v) * (100 + m) / 100 := by rw [tdiv_pos hl.1]; exact wId (by omega) (by omega)
  have c1 := clampP_in v (show -b ≤ b by omega)
  have e8 : wrap64 (v - clampP v (-b) b) = v - clampP v (-b) b := wId (by omega) (by omega)
  have c2 := clampP_in acc (show -b ≤ b by omega)
  have e9 : wrap64 (v + clampP acc (-b) b) = v + clampP acc (-b) b := wId (by omega) (by omega)
  have c3 := clampP_in (v + clampP acc (-b) b) (show -t ≤ t by omega)
  have e10 : wrap64 (v + (v - clampP v (-b) b)) = v + (v - clampP v (-b) b) := wId (by omega) (by omega)
  have e11 : wrap64 (v + clampP (v + clampP acc (-b) b) (-t) t) = v + clampP (v + clampP acc (-b) b) (-t) t := wId (by omega) (by omega)
  have q1 := tdiv_in (x := v + (v - clampP v (-b) b)) (B := 200000) (by omega) (by omega) (by omega)
  have q2 := tdiv_in (x := v + clampP (v + clampP acc (-b) b) (-t) t) (B := 200000) (by omega) (by omega) (by omega)
  have e12 : wrap64 (Int.tdiv (v + (v - clampP v (-b) b)) 2) = Int.tdiv (v + (v - clampP v (-b) b)) 2 := wId (by omega) (by omega)
  have e13 : wrap64 (Int.tdiv (v + clampP (v + clampP acc (-b) b) (-t) t) 2) = Int.tdiv (v + clampP (v + clampP acc (-b) b) (-t) t) 2 := wId (by omega) (by omega)
  have e14 : wrap64 (a + Int.tdiv (v + (v - clampP v (-b) b)) 2) = a + Int.tdiv (v + (v - clampP v (-b) b)) 2 := wId (by omega) (by omega)
  have e15 : wrap64 (a + Int.tdiv (v + clampP (v + clampP acc (-b) b) (-t) t) 2) = a + Int.tdiv (v + clampP (v + clampP acc (-b) b) (-t) t) 2 := wId (by omega) (by omega)
  have hc : ∀ x y z, hoist_clamp.f x y z = some (clampP x y z) := fun _ _ _ => rfl
  unfold hoist_Tick.f
  rw [valid_ok h r, room_val h r]
  simp only [Option.bind_some, if_true, lim_val h, hc, in_val, e1, e2, e3, e4, e5, e6, e7, e8, e9, e10, e11, e12, e13, e14, e15]
  unfold tripP atP speedP absP
  cases f
  · rw [if_neg (by simp)]
    by_cases hf : mx v (-v) > limitOf t b c (roomP d a v) * (100 + m) / 100
    · rw [if_pos hf]
      simp [hf]
    · rw [if_neg hf]
      by_cases hi : 0 ≤ a ∧ a ≤ d
      · simp [hf, hi]
      · simp [hf, hi]
  · rw [if_pos rfl]
    simp
end Go.Proofs.Ytcebojamjllmjaa.HMath
