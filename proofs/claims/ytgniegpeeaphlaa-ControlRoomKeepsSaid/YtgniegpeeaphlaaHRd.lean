/- Read, walked. -/
import Derived.Test.YtgniegpeeaphlaaHOo
namespace Go.Proofs.Ytgniegpeeaphlaa.HandA
open Go.RowKit Go.Proofs.Ytgniegpeeaphlaa.PR Go.Proofs.YtgniegpeeaphlaaW.PrintWords Go.Proofs.YtgniegpeeaphlaaW.PrintLast Go.Proofs.YtgniegpeeaphlaaW.PrintMore
set_option linter.unusedVariables false
set_option linter.unusedSimpArgs false
def recOf (r : Int × Int × Int × Int × Bool) : S32 := ⟨r.1, r.2.1, r.2.2.1, r.2.2.2.1⟩
/-- The records at the beginning of bytes, no more than n. -/
def readL : Nat → List Int → List S32
  | 0, _ => []
  | n + 1, b => if 32 ≤ b.length ∧ (oneF (b.take 32)).2.2.2.2 = true then recOf (oneF (b.take 32)) :: readL n (b.drop 32) else []
theorem readL_len (n : Nat) : ∀ b, (readL n b).length ≤ n ∧ 32 * (readL n b).length ≤ b.length := by
  induction n with
  | zero => intro b; simp [readL]
  | succ n ih =>
    intro b
    unfold readL
    split
    · rename_i h
      obtain ⟨h1, h2⟩ := ih (b.drop 32)
      rw [List.length_drop] at h2
      simp only [List.length_cons]
      omega
    · simp
def readF (b : List Int) : List S32 := readL 2048 b
theorem one_at (A : Option Addr) (c n : Nat) (l : List Int) (w : World) (hl : Kd.C (Kd.int .u8) w A l.length l) (hc : l.length ≤ c) (hB : Byt l) (h32 : l.length = 32) (hn : n = 32) (r : Int × Int × Int × Int × Bool) (hr : oneF l = r) :
    Calls Try.prog 37 #[.slice A n c] w fun e w' => e = .returned (.tuple #[.agg #[.int .i64 r.1, .int .i64 r.2.1, .int .i64 r.2.2.1, .int .i64 r.2.2.2.1], .bool r.2.2.2.2]) ∧ Below w.heap.size w w' := by
  subst hn
  have := one_calls A c l w hl hc hB h32 r hr
  rw [h32] at this
  exact this
set_option maxHeartbeats 8000000 in
set_option maxRecDepth 100000 in
theorem read_calls (A : Option Addr) (c : Nat) (b : List Int) (w : World) (hl : Kd.C (Kd.int .u8) w A b.length b) (hc : b.length ≤ c) (hB : Byt b) (hz : b.length ≤ 1000000000) :
    Calls Try.prog 14 #[.slice A b.length c] w fun e w' => ∃ v, e = .returned (.tuple #[v, .int .i64 (32 * (readF b).length : Nat)]) ∧ Kd.R k32 32 w' w.heap.size (fun _ => True) v (readF b) ∧ Below w.heap.size w w' := by
  have HL := Aside0.mk hl
  have HB := Aside0.mk hB
  have hu32 := Try.underlying32
  obtain ⟨RF, hRF⟩ : ∃ x, readF b = x := ⟨_, rfl⟩
  rw [hRF]
  have HRF := Aside0.mk hRF
  have HLE := Aside0.mk (readL_len 2048 b)
  clear hl hB hRF
  go_enter Try.func14, Try.ntmps14
  go_wp2_with fail
  go_loopg [4] 2049 (fun m v4 w' => ∃ (out : List S32), out.length + m = 2049 ∧ 32 * out.length ≤ b.length ∧ Aside0 (RF = out ++ readL (2048 - out.length) (b.drop (32 * out.length))) ∧ Aside0 (Kd.R k32 32 w' w.heap.size (fun _ => True) v4 out) ∧ Aside0 (Below w.heap.size w w'))
  case atStart => exact ⟨[], rfl, by simp, ⟨by rw [← HRF.out]; rfl⟩, ⟨Kd.R_nil _ _ _ _ _⟩, ⟨Below.refl _ _⟩⟩
  case round =>
    obtain ⟨out, hm, h32, HE, HO, HBW⟩ := hrel
    obtain ⟨Ao, co, rfl⟩ := Kd.R_slice HO.out
    by_cases h1 : out.length < 2048
    · obtain ⟨m, rfl⟩ : ∃ q, gk = q + 1 := ⟨gk - 1, by omega⟩
      have h1b : decide ((out.length : Int) < 2048) = true := decide_eq_true (by omega)
      have s1 : IntKind.i64.wrap (32 * (out.length : Int)) = 32 * out.length := IntWalk.i64_in _ (by omega)
      have s2 : IntKind.i64.wrap ((b.length : Int) - 32 * (out.length : Int)) = b.length - 32 * out.length := IntWalk.i64_in _ (by omega)
      by_cases h2 : 32 ≤ b.length - 32 * out.length
      · have h2b : decide ((32 : Int) ≤ (b.length : Int) - 32 * out.length) = true := decide_eq_true (by omega)
        go_upto_region 3 with fail
        obtain ⟨ad, e, -⟩ := Kd.at_int HL.out ((32 * out.length : Nat) : Int) (by omega) (by omega)
        cases e
        have hcn : ¬ c = 32 * out.length := by omega
        have k1 : (32 : Int) * out.length ≤ b.length := by omega
        have k2 : (32 : Int) * out.length ≤ c := by omega
        have k3 : (32 : Int) ≤ (c : Int) - 32 * out.length := by omega
        have k4 : (0 : Int) ≤ 32 * out.length := by omega
        have hc1 := Kd.C_drop (m := 32 * out.length) (Kd.C_below HL.out HBW.out) h32 hc
        have e0 : ((some ad : Option Addr).map (·.add (32 * out.length * (Kd.int .u8).sz))) = some (ad.add (32 * out.length)) := by
          show some (ad.add (32 * out.length * 1)) = _
          rw [Nat.mul_one]
        rw [if_neg hcn, e0] at hc1
        clear e0
        have hlt : ((b.drop (32 * out.length)).take 32).length = 32 := by rw [List.length_take, List.length_drop]; omega
        have HC1 := Aside0.mk (show Kd.C (Kd.int .u8) wr (some (ad.add (32 * out.length))) ((b.drop (32 * out.length)).take 32).length ((b.drop (32 * out.length)).take 32) from by
          have := Kd.C_take (m := 32) hc1 (by rw [List.length_drop]; omega)
          simpa using this)
        have LE1 := Aside0.mk (show ((b.drop (32 * out.length)).take 32).length ≤ c - 32 * out.length by rw [hlt]; omega)
        have BT1 := Aside0.mk ((HB.out.drop (32 * out.length)).take 32)
        have N1 := Aside0.mk hlt
        obtain ⟨q1, q2, q3, q4, q5, hq⟩ : ∃ q1 q2 q3 q4 q5, oneF ((b.drop (32 * out.length)).take 32) = (q1, q2, q3, q4, q5) := ⟨_, _, _, _, _, rfl⟩
        have HQ := Aside0.mk hq
        obtain ⟨d, hd⟩ : ∃ d, 2048 - out.length = d + 1 := ⟨2047 - out.length, by omega⟩
        have hstep : readL (2048 - out.length) (b.drop (32 * out.length)) = if q5 = true then (⟨q1, q2, q3, q4⟩ : S32) :: readL d (b.drop (32 * (out.length + 1))) else [] := by
          rw [hd]
          simp only [readL]
          rw [hq, List.length_drop, List.drop_drop]
          simp only [recOf]
          have e2 : 32 * out.length + 32 = 32 * (out.length + 1) := by omega
          rw [e2]
          by_cases h : q5 = true
          · rw [if_pos ⟨by omega, h⟩, if_pos h]
          · rw [if_neg (fun q => h q.2), if_neg h]
        have HS := Aside0.mk hstep
        have HD := Aside0.mk hd
        clear hq hd hstep hc1 hlt
        cases q5 with
        | true =>
          go_wp2_with (first | (go_at_call 37; (with_reducible refine (one_at (some (ad.add (32 * out.length))) (c - 32 * out.length) 32 ((b.drop (32 * out.length)).take 32) _ HC1.out LE1.out BT1.out N1.out rfl _ HQ.out).mono ?_); rintro e w1 ⟨rfl, hb⟩; have HB1 := Aside0.mk (below_step HBW.out hb); have HO1 := Aside0.mk (Kd.R_below HO.out hb); clear hb) | ((with_reducible refine gate_builtin (b := .append) (xs := #[.tmp 31, .tmp 33]) rfl ?_); at_builtin; refine Kd.R_append k32 (w0 := w) w.heap.size rfl (.tmp 31) (.tmp 33) 27 32 (.agg #[(.int .i64 0), (.int .i64 0), (.int .i64 0), (.int .i64 0)]) 32 rfl Try.underlying27 info32 rfl (by decide) (by omega) (.slice Ao out.length co) out (⟨q1, q2, q3, q4⟩ : S32) [.int .i64 q1, .int .i64 q2, .int .i64 q3, .int .i64 q4] (fun _ => True) (fun _ => False) rfl (by rw [World.size_alloc]; rfl) ?aP (fun _ hk => hk.elim) ?aF ?aO ?aB ?aS ?aL ?_; (case aP => exact k32_mkM _ _ _ (⟨q1, q2, q3, q4⟩ : S32)); (case aF => exact (fun _ _ => trivial)); (case aO => exact (by repeat (first | exact HO1.out | apply Kd.R_alloc | apply Kd.R_drewN | apply Kd.R_drew))); (case aB => exact (by repeat (first | exact HB1.out | apply below_alloc | apply pw_below_drewN | apply below_drew1))); (case aS => exact below_size (by repeat (first | exact HB1.out | apply below_alloc | apply pw_below_drewN | apply below_drew1))); (case aL => omega); intro v8 w8 ho hb hg hat; have HO8 := Aside0.mk ho; have HB8 := Aside0.mk hb; clear ho hb hg hat))
          go_roundg m
          case measure => omega
          case rel =>
            refine ⟨out ++ [⟨q1, q2, q3, q4⟩], by simp; omega, by simp; omega, ⟨?_⟩, ⟨by repeat (first | exact HO8.out | apply Kd.R_alloc | apply Kd.R_drewN | apply Kd.R_drew)⟩, ⟨by repeat (first | exact HB8.out | apply below_alloc | apply pw_below_drewN | apply below_drew1)⟩⟩
            rw [HE.out, HS.out]
            first | rw [if_pos trivial] | rw [if_pos rfl]
            have hd := HD.out
            rw [List.append_assoc, List.length_append, List.length_singleton, show 2048 - (out.length + 1) = d by omega]
            rfl
        | false =>
          go_wp2_with (go_at_call 37; (with_reducible refine (one_at (some (ad.add (32 * out.length))) (c - 32 * out.length) 32 ((b.drop (32 * out.length)).take 32) _ HC1.out LE1.out BT1.out N1.out rfl _ HQ.out).mono ?_); rintro e w1 ⟨rfl, hb⟩; have HB1 := Aside0.mk (below_step HBW.out hb); have HO1 := Aside0.mk (Kd.R_below HO.out hb); clear hb)
          go_ret2
          refine ⟨.slice Ao out.length co, ?_, ?_, (by repeat (first | exact HB1.out | apply below_alloc | apply pw_below_drewN | apply below_drew1))⟩
          · have e := HE.out
            rw [HS.out, if_neg (by simp), List.append_nil] at e
            rw [e]
            rfl
          · have e := HE.out
            rw [HS.out, if_neg (by simp), List.append_nil] at e
            rw [e]
            exact (by repeat (first | exact HO1.out | apply Kd.R_alloc | apply Kd.R_drewN | apply Kd.R_drew))
      · have h2b : decide ((32 : Int) ≤ (b.length : Int) - 32 * out.length) = false := decide_eq_false (by omega)
        go_wp2_with fail
        go_ret2
        have e : RF = out := by
          rw [HE.out]
          have : readL (2048 - out.length) (b.drop (32 * out.length)) = [] := by
            obtain ⟨d, hd⟩ : ∃ d, 2048 - out.length = d + 1 := ⟨2047 - out.length, by omega⟩
            rw [hd]
            simp only [readL]
            rw [if_neg (fun q => by have := q.1; rw [List.length_drop] at this; omega)]
          rw [this, List.append_nil]
        exact ⟨.slice Ao out.length co, by rw [e]; rfl, by rw [e]; exact HO.out, HBW.out⟩
    · have h1b : decide ((out.length : Int) < 2048) = false := decide_eq_false (by omega)
      have s1 : IntKind.i64.wrap (32 * (out.length : Int)) = 32 * out.length := IntWalk.i64_in _ (by omega)
      go_wp2_with fail
      go_ret2
      have e : RF = out := by
        rw [HE.out, show 2048 - out.length = 0 by omega]
        simp [readL]
      exact ⟨.slice Ao out.length co, by rw [e]; rfl, by rw [e]; exact HO.out, HBW.out⟩
end Go.Proofs.Ytgniegpeeaphlaa.HandA
