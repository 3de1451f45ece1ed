/- Clone, Grow and Concat of bytes, walked. -/
import Derived.Test.YtgniegpeeaphlaaPRx0
import Derived.Test.YtgniegpeeaphlaaWZeros
import Derived.WalkKit
import Derived.Lib.SliceRun
namespace Go.Proofs.Ytgniegpeeaphlaa.HandA
open Go.RowKit Go.Proofs.Ytgniegpeeaphlaa.PR Go.Proofs.YtgniegpeeaphlaaW.PrintWords Go.Proofs.YtgniegpeeaphlaaW.PrintLast Go.Proofs.YtgniegpeeaphlaaW.PrintMore
set_option linter.unusedVariables false
set_option linter.unusedSimpArgs false
abbrev kb : Kd Int := Kd.int .u8
theorem eql38 (w : World) (a : Option Addr) (n c n' c' : Nat) : (binOp .eql 38 (.slice a n c) (.slice none n' c')).run Try.prog w = .ok (.bool a.isNone) w := Lib.run_eql_slice_nil w _ _ a n c n' c' Try.underlying38
/-- An empty row that is not nil. -/
theorem R_empty {α : Type} (d : Kd α) (e : Nat) (w : World) (base g c : Nat) (cs : Array Value) (ok : Nat → Prop) (hg : w.heap[g]? = some (.cells cs e (0, 0))) (hb : base ≤ g) (hok : ok g) (hc : c ≤ maxLen) (hs : cs.size = c * d.sz) : d.R e w base ok (.slice (some ⟨g, 0, none⟩) 0 c) [] :=
  ⟨fun k hk => by
    have : g = k := by simpa [Value.ownBlock] using hk
    subst this
    exact hok, [], ⟨by simp, .inr ⟨g, c, cs, rfl, hb, hg, Nat.zero_le _, hc, hs, by simp⟩⟩, Reps.none _ _⟩
set_option maxHeartbeats 4000000 in
set_option maxRecDepth 100000 in
theorem clone_calls (A : Option Addr) (c : Nat) (l : List Int) (w : World) (hl : Kd.C kb w A l.length l) (hc : l.length ≤ c) (hz : l.length ≤ 140737488355327) :
    Calls Try.prog 52 #[.slice A l.length c] w fun e w' => ∃ v, e = .returned v ∧ Kd.R kb 5 w' w.heap.size (fun _ => True) v l ∧ Below w.heap.size w w' := by
  have HL := Aside0.mk hl
  clear hl
  have q38 := eql38
  rcases A with _ | ad
  · obtain rfl : l = [] := by
      rcases l with _ | ⟨x, l⟩
      · rfl
      · obtain ⟨ad, e, _⟩ := HL.out.2.2 (by simp)
        cases e
    go_enter Try.func52, Try.ntmps52
    go_wp2_with fail
    go_ret
    exact ⟨_, rfl, Kd.R_nil _ _ _ _ _, Below.refl _ _⟩
  · go_enter Try.func52, Try.ntmps52
    go_wp2_with ((with_reducible refine gate_builtin (b := .append) (xs := #[.tmp 5, .tmp 6]) rfl ?_); at_builtin; refine Kd.R_append_rows kb (w0 := w) w.heap.size rfl (.tmp 5) (.tmp 6) 38 5 (.int .u8 0) 1 rfl Try.underlying38 info5 rfl (by decide) (by omega) (.slice (some ⟨w.heap.size, 0, none⟩) 0 0) ([] : List Int) l _ _ _ (fun _ => True) (fun _ => False) rfl rfl ?aO ?aR (fun _ _ h => h) (fun _ h => h.elim) ?aF ?aB ?aS ?aL ?_; (case aR => exact Kd.C_alloc HL.out _); (case aB => exact below_alloc (Below.refl _ _) _); (case aF => exact (fun _ _ => trivial)); (case aO => exact R_empty _ _ _ _ _ _ #[] _ (blk_new w _) (Nat.le_refl _) trivial (Nat.zero_le _) rfl); (case aS => simp); (case aL => simp; omega); intro v1 w1 ho hb hg hat; have HO := Aside0.mk ho; have HB := Aside0.mk hb; clear ho hb hg hat)
    obtain ⟨Ao, co, rfl⟩ := Kd.R_slice HO.out
    go_ret
    exact ⟨_, rfl, HO.out, HB.out⟩
set_option maxHeartbeats 4000000 in
set_option maxRecDepth 100000 in
theorem grow_calls (n : Nat) (w : World) (hn : n ≤ 140737488355327) :
    Calls Try.prog 68 #[.slice none 0 0, .int .i64 n] w fun e w' => ∃ v, e = .returned v ∧ Kd.R kb 5 w' w.heap.size (fun _ => True) v [] ∧ Below w.heap.size w w' := by
  by_cases h0 : n = 0
  · subst h0
    go_enter Try.func68, Try.ntmps68
    go_wp2_with fail
    go_ret
    exact ⟨_, rfl, Kd.R_nil _ _ _ _ _, Below.refl _ _⟩
  · have hp : (0 : Int) < n := by omega
    have hw : IntKind.i64.wrap (n : Int) = n := IntWalk.i64_in _ (by omega)
    have HP := Aside0.mk h0
    clear h0
    go_enter Try.func68, Try.ntmps68
    go_wp2_with ((with_reducible refine gate_builtin (b := .append) (xs := #[.tmp 20, .tmp 21]) rfl ?_); at_builtin; refine Kd.R_append_zeros kb (w0 := w) w.heap.size rfl (.tmp 20) (.tmp 21) 38 3 5 (.int .u8 0) 1 rfl Try.underlying38 Try.underlying3 info5 rfl (by decide) (by omega) (.slice none 0 0) ([] : List Int) (0 : Int) (n : Int) (fun _ => True) rfl rfl ?aZ (fun _ _ => trivial) ?aO (by omega) ?aB ?aS ?aL ?_; (case aZ => exact rfl); (case aB => exact Below.refl _ _); (case aO => exact Kd.R_nil _ _ _ _ _); (case aS => exact Nat.le_refl _); (case aL => simp; omega); intro v1 w1 ho hb hg hat; obtain ⟨inner, hown⟩ := Kd.R_own ho; obtain ⟨hin, ⟨_, hz0⟩ | ⟨g, cap, cur, rfl, hgb, hcell, hnc, hcm, hcs, htk⟩⟩ := hown; exact absurd hz0 (by simp; omega); have HE := Aside0.mk (R_empty kb 5 w1 w.heap.size g cap cur (fun _ => True) hcell hgb trivial hcm hcs); have HB := Aside0.mk hb; clear ho hb hg hat hin hgb hcell hcm hcs htk)
    go_ret
    exact ⟨_, rfl, HE.out, HB.out⟩
set_option maxHeartbeats 8000000 in
set_option maxRecDepth 100000 in
/-- Two rows, one behind the other. -/
theorem concat_calls (gb : Nat) (A1 : Option Addr) (c1 : Nat) (l1 : List Int) (A2 : Option Addr) (c2 : Nat) (l2 : List Int) (w : World) (hb : w.heap[gb]? = some (.cells #[.slice A1 l1.length c1, .slice A2 l2.length c2] 38 (0, 0)))
    (hr1 : Kd.C kb w A1 l1.length l1) (hc1 : l1.length ≤ c1) (hr2 : Kd.C kb w A2 l2.length l2) (hc2 : l2.length ≤ c2) (hz : l1.length + l2.length ≤ 140737488355327) :
    Calls Try.prog 53 #[.slice (some ⟨gb, 0, none⟩) 2 2] w fun e w' => ∃ v, e = .returned v ∧ Kd.R kb 5 w' w.heap.size (fun _ => True) v (l1 ++ l2) ∧ Below w.heap.size w w' := by
  have HR1 := Aside0.mk hr1
  have HR2 := Aside0.mk hr2
  have HBK := Aside0.mk hb
  have k0 : w.cell? ⟨gb, 0, none⟩ = some (.slice A1 l1.length c1) := (blk_cell hb 0).trans rfl
  have k1 : w.cell? ⟨gb, 1, none⟩ = some (.slice A2 l2.length c2) := (blk_cell hb 1).trans rfl
  have s1 : IntKind.i64.wrap ((l1.length : Int) + l2.length) = l1.length + l2.length := IntWalk.i64_in _ (by omega)
  have s2 : IntKind.i64.wrap (l1.length : Int) = l1.length := IntWalk.i64_in _ (by omega)
  have p1 : ¬ ((l1.length : Int) < 0) := by omega
  have p2 : ¬ ((l1.length : Int) + l2.length < 0) := by omega
  have hz := Aside0.mk hz
  clear hr1 hr2 hb
  go_enter Try.func53, Try.ntmps53
  go_wp2_with fail
  go_loopg [3, 11] 2 (fun m v3 v11 w' => ((m = 2 ∧ v11 = .int .i64 0 ∧ v3 = .int .i64 0) ∨ (m = 1 ∧ v11 = .int .i64 1 ∧ v3 = .int .i64 l1.length) ∨ (m = 0 ∧ v11 = .int .i64 2 ∧ v3 = .int .i64 (l1.length + l2.length))) ∧ w = w')
  case atStart => exact ⟨.inl ⟨rfl, rfl, rfl⟩, rfl⟩
  case round =>
    obtain ⟨hm, rfl⟩ := hrel
    rcases hm with ⟨rfl, rfl, rfl⟩ | ⟨rfl, rfl, rfl⟩ | ⟨rfl, rfl, rfl⟩
    · go_wp2_with fail
      go_roundg 1
      case measure => omega
      case rel => exact ⟨.inr (.inl ⟨rfl, rfl, by first | rfl | simp⟩), rfl⟩
    · go_wp2_with fail
      go_roundg 0
      case measure => omega
      case rel => exact ⟨.inr (.inr ⟨rfl, rfl, by first | rfl | simp⟩), rfl⟩
    · clear k0 k1
      have hgr := Aside0.mk (grow_calls (l1.length + l2.length) w (by have := hz.out; omega))
      go_wp2_with (go_at_call 68; (with_reducible refine (by have h := hgr.out; rw [Int.natCast_add] at h; exact h : Calls _ _ _ _ _).mono ?_); rintro e w3 ⟨v, rfl, hr, hb⟩; have HG := Aside0.mk hr; have HGB := Aside0.mk hb; clear hr hb)
      go_loopg [6, 27] 2 (fun m v6 v27 w' => ((m = 2 ∧ v27 = .int .i64 0 ∧ Aside0 (Kd.R kb 5 w' w.heap.size (fun _ => True) v6 [])) ∨ (m = 1 ∧ v27 = .int .i64 1 ∧ Aside0 (Kd.R kb 5 w' w.heap.size (fun _ => True) v6 l1)) ∨ (m = 0 ∧ v27 = .int .i64 2 ∧ Aside0 (Kd.R kb 5 w' w.heap.size (fun _ => True) v6 (l1 ++ l2)))) ∧ Aside0 (Below w.heap.size w w'))
      case atStart => exact ⟨.inl ⟨rfl, rfl, HG⟩, HGB⟩
      case round =>
        obtain ⟨hm, HBx⟩ := hrel
        clear HG HGB hgr
        have hbk := blk_below HBK.out HBx.out
        rcases hm with ⟨rfl, rfl, HO⟩ | ⟨rfl, rfl, HO⟩ | ⟨rfl, rfl, HO⟩
        · have k0 : wr.cell? ⟨gb, 0, none⟩ = some (.slice A1 l1.length c1) := (blk_cell hbk 0).trans rfl
          clear hbk
          obtain ⟨A6, c6, rfl⟩ := Kd.R_slice HO.out
          go_wp2_with ((with_reducible refine gate_builtin (b := .append) (xs := #[.tmp 31, .tmp 32]) rfl ?_); at_builtin; refine Kd.R_append_rows kb (w0 := w) w.heap.size rfl (.tmp 31) (.tmp 32) 38 5 (.int .u8 0) 1 rfl Try.underlying38 info5 rfl (by decide) (by omega) _ ([] : List Int) (l1) _ _ _ (fun _ => True) (fun _ => False) rfl rfl ?aO ?aR (fun _ _ h => h) (fun _ h => h.elim) ?aF ?aB ?aS ?aL ?_; (case aR => exact Kd.C_below HR1.out HBx.out); (case aB => exact HBx.out); (case aF => exact (fun _ _ => trivial)); (case aO => exact HO.out); (case aS => exact HBx.out.size); (case aL => have := hz.out; simp; omega); intro v1 w1 ho hb hg hat; have HO1 := Aside0.mk ho; have HB1 := Aside0.mk hb; clear ho hb hg hat)
          go_roundg 1
          case measure => omega
          case rel => exact ⟨.inr (.inl ⟨rfl, rfl, ⟨by simpa using HO1.out⟩⟩), HB1⟩
        · have k1 : wr.cell? ⟨gb, 1, none⟩ = some (.slice A2 l2.length c2) := (blk_cell hbk 1).trans rfl
          clear hbk
          obtain ⟨A6, c6, rfl⟩ := Kd.R_slice HO.out
          go_wp2_with ((with_reducible refine gate_builtin (b := .append) (xs := #[.tmp 31, .tmp 32]) rfl ?_); at_builtin; refine Kd.R_append_rows kb (w0 := w) w.heap.size rfl (.tmp 31) (.tmp 32) 38 5 (.int .u8 0) 1 rfl Try.underlying38 info5 rfl (by decide) (by omega) _ (l1) (l2) _ _ _ (fun _ => True) (fun _ => False) rfl rfl ?aO ?aR (fun _ _ h => h) (fun _ h => h.elim) ?aF ?aB ?aS ?aL ?_; (case aR => exact Kd.C_below HR2.out HBx.out); (case aB => exact HBx.out); (case aF => exact (fun _ _ => trivial)); (case aO => exact HO.out); (case aS => exact HBx.out.size); (case aL => have := hz.out; simp; omega); intro v1 w1 ho hb hg hat; have HO1 := Aside0.mk ho; have HB1 := Aside0.mk hb; clear ho hb hg hat)
          go_roundg 0
          case measure => omega
          case rel => exact ⟨.inr (.inr ⟨rfl, rfl, HO1⟩), HB1⟩
        · clear hbk
          obtain ⟨A6, c6, rfl⟩ := Kd.R_slice HO.out
          go_wp2_with fail
          go_ret
          exact ⟨_, rfl, (by have := HO.out; rw [List.length_append] at this; exact this), HBx.out⟩
end Go.Proofs.Ytgniegpeeaphlaa.HandA
