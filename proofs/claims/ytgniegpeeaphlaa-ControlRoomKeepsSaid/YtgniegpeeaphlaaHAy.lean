/- The law's own case: a zone that is cut, and a crash in the middle of the record that it has power again. -/
import Derived.Test.YtgniegpeeaphlaaHAk
namespace Go.Proofs.Ytgniegpeeaphlaa.HandA
open Go.RowKit Go.Proofs.Ytgniegpeeaphlaa.PR Go.Proofs.YtgniegpeeaphlaaW.PrintWords Go.Proofs.YtgniegpeeaphlaaW.PrintLast Go.Proofs.YtgniegpeeaphlaaW.PrintMore
set_option linter.unusedVariables false
set_option linter.unusedSimpArgs false
theorem xor_byt (a b : Int) : 0 ≤ bits .xor .u8 a b ∧ bits .xor .u8 a b < 256 := by
  show 0 ≤ IntKind.u8.wrap _ ∧ IntKind.u8.wrap _ < 256
  rw [show ∀ n, IntKind.u8.wrap n = n % 256 from fun n => by simp [IntKind.wrap, IntKind.bits, IntKind.signed]]
  omega
/-- What remains of what was only written. -/
def restF (l2 : List Int) (k br : Int) : List Int :=
  if 0 < keepF l2.length k then (l2.take (keepF l2.length k)).set (keepF l2.length k - 1) (bits .xor .u8 (rd (l2.take (keepF l2.length k)) ((keepF l2.length k - 1 : Nat) : Int)) br) else []
theorem keep_le (n : Nat) (k : Int) : keepF n k ≤ n := by
  unfold keepF mx mn
  repeat' split
  all_goals omega
theorem rd_right (a b : List Int) (i : Nat) : rd (a ++ b) ((a.length + i : Nat) : Int) = rd b (i : Int) := by
  unfold rd
  rw [Int.toNat_natCast, Int.toNat_natCast]
  simp [List.getElem?_append_right]
theorem crash_eq (l1 l2 : List Int) (k br : Int) : crashF l1 l2 k br = l1 ++ restF l2 k br := by
  have hk := keep_le l2.length k
  unfold crashF restF
  by_cases h : 0 < keepF l2.length k
  · rw [if_pos h, if_pos h]
    have hl : (l1 ++ l2.take (keepF l2.length k)).length - 1 = l1.length + (keepF l2.length k - 1) := by
      rw [List.length_append, List.length_take]
      omega
    rw [hl, rd_right, List.set_append_right _ _ (by omega)]
    congr 2
    omega
  · rw [if_neg h, if_neg h, show keepF l2.length k = 0 by omega]
    rfl
theorem rest_len (l2 : List Int) (k br : Int) : (restF l2 k br).length = keepF l2.length k := by
  have hk := keep_le l2.length k
  unfold restF
  split
  · rw [List.length_set, List.length_take]
    omega
  · simp
    omega
theorem rest_byt {l2 : List Int} (h : Byt l2) (k br : Int) : Byt (restF l2 k br) := by
  unfold restF
  split
  · exact (h.take _).set (xor_byt _ _)
  · exact Byt.nil
theorem readL_short (n : Nat) {b : List Int} (h : b.length < 32) : readL n b = [] := by
  cases n with
  | zero => rfl
  | succ n =>
    simp only [readL]
    rw [if_neg (fun q => by omega)]
/-- What was written and then cut short is read up to there. -/
theorem readF_all {l : List S32} {rest : List Int} (h : ∀ r ∈ l, Rok r) (hl : l.length ≤ 2048) (hr : rest.length < 32) : readF (allB l ++ rest) = l := by
  unfold readF
  rw [readL_all l 2048 rest h hl, readL_short _ hr, List.append_nil]
abbrev LB1 : List Int := bytesF 1 3 0 5
abbrev LB2 : List Int := bytesF 2 3 0 9
theorem ok1 : Rok ⟨1, 3, 0, 5⟩ := by unfold Rok; decide
theorem ok2 : Rok ⟨2, 3, 0, 9⟩ := by unfold Rok; decide
theorem readF_nil : readF [] = [] := readL_short _ (by simp)
theorem all1 : allB [⟨1, 3, 0, 5⟩] = LB1 := by simp [allB, recB]
theorem readF_1 : readF LB1 = [⟨1, 3, 0, 5⟩] := by
  have := readF_all (l := [⟨1, 3, 0, 5⟩]) (rest := []) (by simp [ok1]) (by simp) (by simp)
  rw [List.append_nil, all1] at this
  exact this
theorem len1 : LB1.length = 32 := bytes_len _ _ _ _
theorem len2 : LB2.length = 32 := bytes_len _ _ _ _
theorem wr_first (w : World) : Calls Try.prog 25 #[.agg #[.slice none 0 0, .slice none 0 0], .agg #[.int .i64 1, .int .i64 3, .int .i64 0, .int .i64 5]] w fun e w' => ∃ A1 c1 A2 c2, e = .returned (.tuple #[.agg #[.slice A1 0 c1, .slice A2 32 c2], .int .i64 0]) ∧
    Kd.R kb 5 w' w.heap.size (fun _ => True) (.slice A1 0 c1) [] ∧ Kd.R kb 5 w' w.heap.size (fun _ => True) (.slice A2 32 c2) LB1 ∧ Below w.heap.size w w' := by
  have hf : writeF [] [] 1 3 0 5 = (LB1, 0) := by
    unfold writeF
    rw [if_pos (show rvB 1 3 0 5 = true from ok1), readF_nil, if_pos (by simp), if_neg (by simp)]
    simp
  refine (write_calls none 0 [] none 0 [] 1 3 0 5 w (Kd.C_nil _ _) (by simp) (Kd.C_nil _ _) (by simp) (by simp) Byt.nil LB1 0 hf).mono ?_
  rintro e w' ⟨v1, v2, rfl, -, -, h, hb⟩
  obtain ⟨q1, q2⟩ := h rfl
  obtain ⟨A1, c1, rfl⟩ : ∃ A c, v1 = .slice A 0 c := Kd.R_slice q1
  obtain ⟨A2, c2, rfl⟩ : ∃ A c, v2 = .slice A 32 c := by have := Kd.R_slice q2; rw [len1] at this; exact this
  exact ⟨A1, c1, A2, c2, rfl, Kd.R_mono q1 (fun _ _ => trivial), Kd.R_mono q2 (fun _ _ => trivial), hb⟩
theorem sy_first (A1 : Option Addr) (c1 : Nat) (A2 : Option Addr) (c2 base : Nat) (w : World) (h1 : Kd.R kb 5 w base (fun _ => True) (.slice A1 0 c1) []) (h2 : Kd.R kb 5 w base (fun _ => True) (.slice A2 32 c2) LB1) :
    Calls Try.prog 26 #[.agg #[.slice A1 0 c1, .slice A2 32 c2]] w fun e w' => ∃ A c, e = .returned (.agg #[.slice A 32 c, .slice none 0 0]) ∧ Kd.R kb 5 w' w.heap.size (fun _ => True) (.slice A 32 c) LB1 ∧ Below w.heap.size w w' := by
  have := sync_calls A1 c1 [] A2 c2 LB1 w (Kd.R_reads' h1).2.2 (by simp) (Kd.R_reads' h2).2.2 (by have := (Kd.R_reads' h2).2.1; rw [len1]; exact this) (by rw [len1]; simp)
  rw [len1] at this
  refine this.mono ?_
  rintro e w' ⟨v, rfl, hr, hb⟩
  obtain ⟨A, c, rfl⟩ : ∃ A c, v = .slice A 32 c := by have := Kd.R_slice hr; rw [List.nil_append, len1] at this; exact this
  exact ⟨A, c, rfl, hr, hb⟩
theorem wr_second (A1 : Option Addr) (c1 base : Nat) (w : World) (h1 : Kd.R kb 5 w base (fun _ => True) (.slice A1 32 c1) LB1) :
    Calls Try.prog 25 #[.agg #[.slice A1 32 c1, .slice none 0 0], .agg #[.int .i64 2, .int .i64 3, .int .i64 0, .int .i64 9]] w fun e w' => ∃ A1 c1 A2 c2, e = .returned (.tuple #[.agg #[.slice A1 32 c1, .slice A2 32 c2], .int .i64 0]) ∧
    Kd.R kb 5 w' w.heap.size (fun _ => True) (.slice A1 32 c1) LB1 ∧ Kd.R kb 5 w' w.heap.size (fun _ => True) (.slice A2 32 c2) LB2 ∧ Below w.heap.size w w' := by
  have hf : writeF LB1 [] 2 3 0 9 = (LB2, 0) := by
    unfold writeF
    rw [if_pos (show rvB 2 3 0 9 = true from ok2), readF_1, if_pos (by rw [len1]; simp), if_neg (by rw [len1]; simp)]
    simp
  have := write_calls A1 c1 LB1 none 0 [] 2 3 0 9 w (Kd.R_reads' h1).2.2 (by have := (Kd.R_reads' h1).2.1; rw [len1]; exact this) (Kd.C_nil _ _) (by simp) (by rw [len1]; simp) (bytes_byt _ _ _ _) LB2 0 hf
  rw [len1] at this
  refine this.mono ?_
  rintro e w' ⟨v1, v2, rfl, -, -, h, hb⟩
  obtain ⟨q1, q2⟩ := h rfl
  obtain ⟨A1, c1, rfl⟩ : ∃ A c, v1 = .slice A 32 c := by have := Kd.R_slice q1; rw [len1] at this; exact this
  obtain ⟨A2, c2, rfl⟩ : ∃ A c, v2 = .slice A 32 c := by have := Kd.R_slice q2; rw [len2] at this; exact this
  exact ⟨A1, c1, A2, c2, rfl, Kd.R_mono q1 (fun _ _ => trivial), Kd.R_mono q2 (fun _ _ => trivial), hb⟩
theorem keep10 : keepF 32 10 = 10 := by decide
theorem cr_first (A1 : Option Addr) (c1 : Nat) (A2 : Option Addr) (c2 base : Nat) (w : World) (h1 : Kd.R kb 5 w base (fun _ => True) (.slice A1 32 c1) LB1) (h2 : Kd.R kb 5 w base (fun _ => True) (.slice A2 32 c2) LB2) :
    Calls Try.prog 27 #[.agg #[.slice A1 32 c1, .slice A2 32 c2], .int .i64 10, .int .u8 0] w fun e w' => ∃ A c, e = .returned (.agg #[.slice A 42 c, .slice none 0 0]) ∧ Kd.R kb 5 w' w.heap.size (fun _ => True) (.slice A 42 c) (LB1 ++ restF LB2 10 0) ∧ Below w.heap.size w w' := by
  have := crash_calls A1 c1 LB1 A2 c2 LB2 10 0 w (Kd.R_reads' h1).2.2 (by have := (Kd.R_reads' h1).2.1; rw [len1]; exact this) (Kd.R_reads' h2).2.2 (by have := (Kd.R_reads' h2).2.1; rw [len2]; exact this) (by rw [len1, len2]; simp)
  rw [len1, len2, crash_eq] at this
  refine this.mono ?_
  rintro e w' ⟨v, rfl, hr, hb⟩
  obtain ⟨A, c, rfl⟩ : ∃ A c, v = .slice A 42 c := by have := Kd.R_slice hr; rw [List.length_append, rest_len, len1, len2, keep10] at this; exact this
  exact ⟨A, c, rfl, hr, hb⟩
theorem rs_first (A1 : Option Addr) (c1 base : Nat) (w : World) (h1 : Kd.R kb 5 w base (fun _ => True) (.slice A1 42 c1) (LB1 ++ restF LB2 10 0)) :
    Calls Try.prog 29 #[.agg #[.slice A1 42 c1, .slice none 0 0]] w fun e w' => ∃ A c, e = .returned (.tuple #[.agg #[.slice A 1 c, .int .i64 0, .slice none 0 0], .int .i64 10]) ∧ Kd.R ki 3 w' w.heap.size (fun _ => True) (.slice A 1 c) [3] ∧ Below w.heap.size w w' := by
  have hlen : (LB1 ++ restF LB2 10 0).length = 42 := by rw [List.length_append, rest_len, len1, len2, keep10]
  have hrd : readF (LB1 ++ restF LB2 10 0) = [⟨1, 3, 0, 5⟩] := by
    have := readF_all (l := [⟨1, 3, 0, 5⟩]) (rest := restF LB2 10 0) (by simp [ok1]) (by simp) (by rw [rest_len, len2, keep10]; omega)
    rw [all1] at this
    exact this
  have := restart_one A1 c1 (LB1 ++ restF LB2 10 0) none 0 0 3 0 5 w (Kd.R_reads' h1).2.2 (by have := (Kd.R_reads' h1).2.1; rw [hlen]; exact this) (by rw [hlen]; omega) ((bytes_byt _ _ _ _).append (rest_byt (bytes_byt _ _ _ _) _ _)) hrd ok1
  rw [hlen] at this
  refine this.mono ?_
  rintro e w' ⟨v, rfl, hr, hb⟩
  obtain ⟨A, c, rfl⟩ : ∃ A c, v = .slice A 1 c := Kd.R_slice hr
  exact ⟨A, c, rfl, hr, hb⟩
/-- The disk in its variable. -/
structure Ad (w W : World) (bd : Nat) (v1 v2 : Value) (L1 L2 : List Int) : Prop where
  bel : Below w.heap.size w W
  hb : w.heap.size ≤ bd
  box : W.heap[bd]? = some (.cells #[v1, v2] 49 (0, 0))
  r1 : Kd.R kb 5 W w.heap.size (fun _ => True) v1 L1
  r2 : Kd.R kb 5 W w.heap.size (fun _ => True) v2 L2
theorem Ad.below {w W W' : World} {bd : Nat} {v1 v2 : Value} {L1 L2 : List Int} (h : Ad w W bd v1 v2 L1 L2) (hb : Below W.heap.size W W') : Ad w W' bd v1 v2 L1 L2 := ⟨below_step h.bel hb, h.hb, blk_below h.box hb, Kd.R_below h.r1 hb, Kd.R_below h.r2 hb⟩
theorem Ad.first {w w1 : World} {v1 v2 : Value} {L1 L2 : List Int} (hb : Below w.heap.size w w1) (r1 : Kd.R kb 5 w1 w.heap.size (fun _ => True) v1 L1) (r2 : Kd.R kb 5 w1 w.heap.size (fun _ => True) v2 L2) : Ad w (w1.alloc (Obj.cells #[v1, v2] 49)) w1.heap.size v1 v2 L1 L2 :=
  ⟨below_alloc hb _, hb.size, blk_new w1 _, Kd.R_alloc r1 _, Kd.R_alloc r2 _⟩
theorem Ad.put {w W W' : World} {bd : Nat} {v1 v2 u1 u2 : Value} {L1 L2 M1 M2 : List Int} (h : Ad w W bd v1 v2 L1 L2) (hb : Below W.heap.size W W') (r1 : Kd.R kb 5 W' W.heap.size (fun _ => True) u1 M1) (r2 : Kd.R kb 5 W' W.heap.size (fun _ => True) u2 M2) :
    Ad w ((W'.setCell ⟨bd, 0, none⟩ u1).setCell ⟨bd, 1, none⟩ u2) bd u1 u2 M1 M2 := by
  have h' := h.below hb
  exact ⟨below_set (below_set h'.bel h.hb) h.hb, h.hb, set2 h'.box u1 u2, R_setT (R_setT (Kd.R_lower r1 h.bel.size) h'.box (by decide)) (blk_set h'.box 0 u1) (by decide), R_setT (R_setT (Kd.R_lower r2 h.bel.size) h'.box (by decide)) (blk_set h'.box 0 u1) (by decide)⟩
set_option maxHeartbeats 8000000 in
set_option maxRecDepth 100000 in
theorem awake_calls (w : World) : Calls Try.prog 9 #[] w fun e w' => e = .returned (.bool true) ∧ Below w.heap.size w w' := by
  have hu49 := Try.underlying49
  have hu35 := Try.underlying35
  go_enter Try.func9, Try.ntmps9
  go_upto_region 2 with (go_at_call 25; (with_reducible refine (wr_first _).mono ?_); rintro e w1 ⟨A1, c1, A2, c2, rfl, r1, r2, hb⟩; have D1 := Aside0.mk (Ad.first hb r1 r2); clear hb r1 r2)
  generalize w1.alloc (Obj.cells #[Value.slice A1 0 c1, Value.slice A2 32 c2] 49) = W1 at D1 ⊢
  generalize w1.heap.size = bd at D1 ⊢
  obtain ⟨x0, _, x1, _⟩ := box2 D1.out.box
  go_upto_region 3 with (go_at_call 26; (with_reducible refine (sy_first A1 c1 A2 c2 w.heap.size _ D1.out.r1 D1.out.r2).mono ?_); rintro e w2 ⟨A3, c3, rfl, r1, hb⟩; have D2 := Aside0.mk (D1.out.put hb r1 (Kd.R_nil _ _ _ _ _)); obtain ⟨p0, q0, p1, q1⟩ := box2 (blk_below D1.out.box hb); clear hb r1)
  generalize (w2.setCell ⟨bd, 0, none⟩ (.slice A3 32 c3)).setCell ⟨bd, 1, none⟩ (.slice none 0 0) = W2 at D2 ⊢
  clear D1 x0 x1 p0 q0 p1 q1
  obtain ⟨x0, _, x1, _⟩ := box2 D2.out.box
  go_upto_region 4 with (go_at_call 25; (with_reducible refine (wr_second A3 c3 w.heap.size _ D2.out.r1).mono ?_); rintro e w3 ⟨A4, c4, A5, c5, rfl, r1, r2, hb⟩; have D3 := Aside0.mk (D2.out.put hb r1 r2); obtain ⟨p0, q0, p1, q1⟩ := box2 (blk_below D2.out.box hb); clear hb r1 r2)
  generalize (w3.setCell ⟨bd, 0, none⟩ (.slice A4 32 c4)).setCell ⟨bd, 1, none⟩ (.slice A5 32 c5) = W3 at D3 ⊢
  clear D2 x0 x1 p0 q0 p1 q1
  obtain ⟨x0, _, x1, _⟩ := box2 D3.out.box
  go_upto_region 5 with (first | (go_at_call 27; (with_reducible refine (cr_first A4 c4 A5 c5 w.heap.size _ D3.out.r1 D3.out.r2).mono ?_); rintro e w4 ⟨A6, c6, rfl, r1, hb⟩; have D4 := Aside0.mk (D3.out.below hb); have R6 := Aside0.mk r1; clear hb r1) | (go_at_call 29; (with_reducible refine (rs_first A6 c6 _ _ R6.out).mono ?_); rintro e w5 ⟨A7, c7, rfl, r1, hb⟩; have D5 := Aside0.mk (D4.out.below (below_alloc hb (Obj.cells #[Value.slice A7 1 c7, Value.int .i64 0, Value.slice none 0 0] 35))); have R7 := Aside0.mk (Kd.R_alloc r1 (Obj.cells #[Value.slice A7 1 c7, Value.int .i64 0, Value.slice none 0 0] 35)); clear hb r1))
  have hx := blk_new w5 (Obj.cells #[Value.slice A7 1 c7, Value.int .i64 0, Value.slice none 0 0] 35)
  generalize w5.alloc (Obj.cells #[Value.slice A7 1 c7, Value.int .i64 0, Value.slice none 0 0] 35) = W5 at D5 R7 hx ⊢
  generalize w5.heap.size = bx at hx ⊢
  clear D3 D4 x0 x1 R6
  obtain ⟨x0, _, x1, _⟩ := box2 D5.out.box
  obtain ⟨y0, _, y1, _, y2, _⟩ := box3 hx
  obtain ⟨ad, e, d⟩ := Kd.at_int (Kd.R_reads' R7.out).2.2 0 (by omega) (by simp)
  cases e
  have d0 : W5.cell? ad = some (.int .i64 3) := by
    have za : ad.add (Int.toNat 0) = ad := by simp [Addr.add]
    rw [za] at d
    exact d
  clear d
  go_wp2_with fail
  go_ret
  exact ⟨rfl, D5.out.bel⟩
end Go.Proofs.Ytgniegpeeaphlaa.HandA
