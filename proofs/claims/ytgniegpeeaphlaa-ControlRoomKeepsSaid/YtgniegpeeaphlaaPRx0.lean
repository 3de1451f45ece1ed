-- written by wip/myprint.py (the kit's print over hand-proved contracts)
import Derived.Test.YtgniegpeeaphlaaProg
import Derived.Below
import Derived.Deep.Draws
import Derived.Deep.AppendLies
import Derived.Maps.AppendAt
import Derived.OwnWalk
import Derived.Laws.BytesArg
import Derived.Laws.MakeOwn
import Derived.Laws.OwnMore
import Derived.Deep.OwnRows
import Derived.Tactics
import Derived.Lib.ConvBytes
import Derived.Laws.Slices
import Derived.WalkKit
import Derived.KernelRfl
import Derived.RowKit3
import Derived.Deep.LoopGhost
import Derived.Deep.QuietTactic
import Derived.BigQuiet
import Derived.WideLaws
import Derived.Deep.DeepCutAuto
import Derived.Deep.CutBlock
import Derived.Deep.RegionHeld3
import Derived.Laws.Rows
import Derived.Lib.AppendStr
import Derived.ArgAppend
import Derived.Laws.IdiomCopy
import Derived.OrdersHeld
import Derived.Laws.BitsLemmas
import Derived.RowKit
import Derived.Test.YtgniegpeeaphlaaWWords
import Derived.Test.YtgniegpeeaphlaaWLast
import Derived.Test.YtgniegpeeaphlaaWTab
import Derived.Test.YtgniegpeeaphlaaWQPut
import Derived.Test.YtgniegpeeaphlaaWApart
import Derived.Test.YtgniegpeeaphlaaWArr
import Derived.Test.YtgniegpeeaphlaaWZeros
import Derived.Test.YtgniegpeeaphlaaWFoot
import Derived.Test.YtgniegpeeaphlaaWKept
import Derived.Test.YtgniegpeeaphlaaWShare
import Derived.Test.YtgniegpeeaphlaaWN
import Derived.Test.YtgniegpeeaphlaaWEqStruct
import Derived.Test.YtgniegpeeaphlaaWRepsOne
import Derived.Test.YtgniegpeeaphlaaWGuard
import Derived.Test.YtgniegpeeaphlaaWNEv
import Derived.Test.YtgniegpeeaphlaaWMore
namespace Go.Proofs.Ytgniegpeeaphlaa.PR
open Go.RowKit Go.Proofs.YtgniegpeeaphlaaW.PrintWords Go.Proofs.YtgniegpeeaphlaaW.PrintLast Go.Proofs.YtgniegpeeaphlaaW.PrintMore
attribute [local go_sem] max2_int min2_int max_two min_two max_three min_three max_four min_four   -- for this text's walks alone
set_option linter.unusedVariables false
set_option linter.unusedSimpArgs false



def errW : Option Int → Value
 | none => .nilIface
 | some c => .iface 0 (.int .i64 c)
theorem errW_none : errW none = .nilIface := rfl
theorem errW_some (c : Int) : errW (some c) = .iface 0 (.int .i64 c) := rfl

theorem info3 : (Try.prog.info? 3).map (fun i => (i.zero, i.size, i.bytes)) = some (some (.int .i64 0), 1, 8) := by kernel_rfl
theorem info5 : (Try.prog.info? 5).map (fun i => (i.zero, i.size, i.bytes)) = some (some (.int .u8 0), 1, 1) := by kernel_rfl
theorem info32 : (Try.prog.info? 32).map (fun i => (i.zero, i.size, i.bytes)) = some (some (.agg #[(.int .i64 0), (.int .i64 0), (.int .i64 0), (.int .i64 0)]), 4, 32) := by kernel_rfl
-- the values' own types
def rd_L2 (xs : List (List Int)) (i : Int) : (List Int) := xs.getD i.toNat ([] : List Int)
theorem at_L2 {w : World} {A : Option Addr} {n : Nat} {xs : List (List Int)} (h : Kd.C (Kd.slice 5 (Kd.int .u8)) w A n xs) (i : Int) (h0 : 0 ≤ i) (h1 : i < n) : ∃ ad A0 c0, A = some ad ∧ w.cell? (ad.add i.toNat) = some (.slice A0 (rd_L2 xs i).length c0) ∧ (rd_L2 xs i).length ≤ c0 ∧ (Kd.int .u8).C w A0 (rd_L2 xs i).length (rd_L2 xs i) := by
 obtain ⟨ad, c, e, _, hK, hc0⟩ := Kd.C_get h ([] : List Int) i h0 h1
 have hc : ∀ j u, c[j]? = some u → w.cell? (ad.add (i.toNat * 1 + j)) = some u := hc0
 obtain ⟨A0, c0, rfl, l0, g0⟩ := hK
 exact ⟨ad, A0, c0, e, by have hq := hc 0 _ rfl; rwa [Nat.mul_one, Nat.add_zero] at hq, l0, g0⟩

/-! #### struct type 32 -/
structure S32 where
 f0 : Int
 f1 : Int
 f2 : Int
 f3 : Int
def z32 : S32 := ⟨(0 : Int), (0 : Int), (0 : Int), (0 : Int)⟩
def k32 : Kd S32 := Kd.iso (Kd.pair (Kd.int .i64) (Kd.pair (Kd.int .i64) (Kd.pair (Kd.int .i64) (Kd.int .i64)))) (fun x : S32 => (x.f0, x.f1, x.f2, x.f3))
theorem k32_open {w : World} {x : S32} {cs : List Value} (h : k32.K w x cs) : cs = [.int .i64 x.f0, .int .i64 x.f1, .int .i64 x.f2, .int .i64 x.f3] := by
 obtain ⟨_, _, rfl, rfl, ⟨_, _, rfl, rfl, ⟨_, _, rfl, rfl, rfl⟩⟩⟩ := h
 exact rfl
theorem k32_openM {w : World} {base : Nat} {ok : Nat → Prop} {x : S32} {cs : List Value} (h : k32.M w base ok x cs) : cs = [.int .i64 x.f0, .int .i64 x.f1, .int .i64 x.f2, .int .i64 x.f3] := by
 obtain ⟨_, _, rfl, rfl, ⟨_, _, rfl, rfl, ⟨_, _, rfl, rfl, rfl⟩⟩⟩ := h
 exact rfl
theorem k32_mk (w : World) (x : S32)  : k32.K w x [.int .i64 x.f0, .int .i64 x.f1, .int .i64 x.f2, .int .i64 x.f3] := ⟨[.int .i64 x.f0], [.int .i64 x.f1, .int .i64 x.f2, .int .i64 x.f3], rfl, rfl, ⟨[.int .i64 x.f1], [.int .i64 x.f2, .int .i64 x.f3], rfl, rfl, ⟨[.int .i64 x.f2], [.int .i64 x.f3], rfl, rfl, rfl⟩⟩⟩
theorem k32_mkM (w : World) (base : Nat) (ok : Nat → Prop) (x : S32)  : k32.M w base ok x [.int .i64 x.f0, .int .i64 x.f1, .int .i64 x.f2, .int .i64 x.f3] := ⟨[.int .i64 x.f0], [.int .i64 x.f1, .int .i64 x.f2, .int .i64 x.f3], rfl, rfl, ⟨[.int .i64 x.f1], [.int .i64 x.f2, .int .i64 x.f3], rfl, rfl, ⟨[.int .i64 x.f2], [.int .i64 x.f3], rfl, rfl, rfl⟩⟩⟩
theorem k32_mkF (W : World) (ok : Nat → Prop) (x : S32) : Kd.FK k32 W ok x [.int .i64 x.f0, .int .i64 x.f1, .int .i64 x.f2, .int .i64 x.f3] := fun W2 _ => k32_mk W2 x
def rd_T32 (xs : List S32) (i : Int) : S32 := xs.getD i.toNat z32
theorem at_T32 {w : World} {A : Option Addr} {n : Nat} {xs : List S32} (h : Kd.C k32 w A n xs) (i : Int) (h0 : 0 ≤ i) (h1 : i < n) : ∃ ad , A = some ad ∧ w.cell? (ad.add (i.toNat * 4)) = some (.int .i64 (rd_T32 xs i).f0) ∧ w.cell? ⟨(ad.add (i.toNat * 4)).block, (ad.add (i.toNat * 4)).off + 1, none⟩ = some (.int .i64 (rd_T32 xs i).f1) ∧ w.cell? ⟨(ad.add (i.toNat * 4)).block, (ad.add (i.toNat * 4)).off + 2, none⟩ = some (.int .i64 (rd_T32 xs i).f2) ∧ w.cell? ⟨(ad.add (i.toNat * 4)).block, (ad.add (i.toNat * 4)).off + 3, none⟩ = some (.int .i64 (rd_T32 xs i).f3) := by
 obtain ⟨ad, c, e, _, hK, hc0⟩ := Kd.C_get h z32 i h0 h1
 have hc : ∀ j u, c[j]? = some u → w.cell? (ad.add (i.toNat * 4 + j)) = some u := hc0
 obtain rfl := k32_open hK
 exact ⟨ad, e, hc 0 _ rfl, by rw [← add_field _ _ 1 (by omega)]; exact hc 1 _ rfl, by rw [← add_field _ _ 2 (by omega)]; exact hc 2 _ rfl, by rw [← add_field _ _ 3 (by omega)]; exact hc 3 _ rfl⟩

abbrev sZ1 {α : Type} := @List.setIfInBounds_toArray α
abbrev sZ2 {α : Type} := @List.set_cons_zero α
abbrev sZ3 {α : Type} := @List.set_cons_succ α
abbrev D14m0 : Array Bool := #[false, false, false, false, false, false, false, false, false, false, false, false, false, false]
abbrev D14m12 : Array Bool := #[false, true, false, false, true, false, false, false, false, false, false, false, false, false]
abbrev D14m1fff : Array Bool := #[true, true, true, true, true, true, true, true, true, true, true, true, true, false]
abbrev D14m2 : Array Bool := #[false, true, false, false, false, false, false, false, false, false, false, false, false, false]
abbrev D14m3fff : Array Bool := #[true, true, true, true, true, true, true, true, true, true, true, true, true, true]
abbrev D14m492 : Array Bool := #[false, true, false, false, true, false, false, true, false, false, true, false, false, false]
abbrev D14m496 : Array Bool := #[false, true, true, false, true, false, false, true, false, false, true, false, false, false]
abbrev D14m4b6 : Array Bool := #[false, true, true, false, true, true, false, true, false, false, true, false, false, false]
abbrev D14m5b6 : Array Bool := #[false, true, true, false, true, true, false, true, true, false, true, false, false, false]
abbrev D14m92 : Array Bool := #[false, true, false, false, true, false, false, true, false, false, false, false, false, false]
abbrev D14mdb6 : Array Bool := #[false, true, true, false, true, true, false, true, true, false, true, true, false, false]
abbrev D14mdb7 : Array Bool := #[true, true, true, false, true, true, false, true, true, false, true, true, false, false]
abbrev D14mdbf : Array Bool := #[true, true, true, true, true, true, false, true, true, false, true, true, false, false]
abbrev D14mdff : Array Bool := #[true, true, true, true, true, true, true, true, true, false, true, true, false, false]
abbrev D14mfff : Array Bool := #[true, true, true, true, true, true, true, true, true, true, true, true, false, false]
abbrev D15m0 : Array Bool := #[false, false, false, false, false, false, false, false, false, false, false, false, false, false, false]
abbrev D15m1 : Array Bool := #[true, false, false, false, false, false, false, false, false, false, false, false, false, false, false]
abbrev D15m1b : Array Bool := #[true, true, false, true, true, false, false, false, false, false, false, false, false, false, false]
abbrev D15m1fff : Array Bool := #[true, true, true, true, true, true, true, true, true, true, true, true, true, false, false]
abbrev D15m26db : Array Bool := #[true, true, false, true, true, false, true, true, false, true, true, false, false, true, false]
abbrev D15m26df : Array Bool := #[true, true, true, true, true, false, true, true, false, true, true, false, false, true, false]
abbrev D15m26ff : Array Bool := #[true, true, true, true, true, true, true, true, false, true, true, false, false, true, false]
abbrev D15m27ff : Array Bool := #[true, true, true, true, true, true, true, true, true, true, true, false, false, true, false]
abbrev D15m2db : Array Bool := #[true, true, false, true, true, false, true, true, false, true, false, false, false, false, false]
abbrev D15m2fff : Array Bool := #[true, true, true, true, true, true, true, true, true, true, true, true, false, true, false]
abbrev D15m3 : Array Bool := #[true, true, false, false, false, false, false, false, false, false, false, false, false, false, false]
abbrev D15m3fff : Array Bool := #[true, true, true, true, true, true, true, true, true, true, true, true, true, true, false]
abbrev D15m5b : Array Bool := #[true, true, false, true, true, false, true, false, false, false, false, false, false, false, false]
abbrev D15m6db : Array Bool := #[true, true, false, true, true, false, true, true, false, true, true, false, false, false, false]
abbrev D15m6df : Array Bool := #[true, true, true, true, true, false, true, true, false, true, true, false, false, false, false]
abbrev D15m6ff : Array Bool := #[true, true, true, true, true, true, true, true, false, true, true, false, false, false, false]
abbrev D15m7ff : Array Bool := #[true, true, true, true, true, true, true, true, true, true, true, false, false, false, false]
abbrev D15m7fff : Array Bool := #[true, true, true, true, true, true, true, true, true, true, true, true, true, true, true]
abbrev D15mb : Array Bool := #[true, true, false, true, false, false, false, false, false, false, false, false, false, false, false]
abbrev D15mdb : Array Bool := #[true, true, false, true, true, false, true, true, false, false, false, false, false, false, false]
abbrev D15mfff : Array Bool := #[true, true, true, true, true, true, true, true, true, true, true, true, false, false, false]
abbrev D16m0 : Array Bool := #[false, false, false, false, false, false, false, false, false, false, false, false, false, false, false, false]
abbrev D16m1 : Array Bool := #[true, false, false, false, false, false, false, false, false, false, false, false, false, false, false, false]
abbrev D16m17f : Array Bool := #[true, true, true, true, true, true, true, false, true, false, false, false, false, false, false, false]
abbrev D16m1f : Array Bool := #[true, true, true, true, true, false, false, false, false, false, false, false, false, false, false, false]
abbrev D16m1ff : Array Bool := #[true, true, true, true, true, true, true, true, true, false, false, false, false, false, false, false]
abbrev D16m1fff : Array Bool := #[true, true, true, true, true, true, true, true, true, true, true, true, true, false, false, false]
abbrev D16m2 : Array Bool := #[false, true, false, false, false, false, false, false, false, false, false, false, false, false, false, false]
abbrev D16m3 : Array Bool := #[true, true, false, false, false, false, false, false, false, false, false, false, false, false, false, false]
abbrev D16m37f : Array Bool := #[true, true, true, true, true, true, true, false, true, true, false, false, false, false, false, false]
abbrev D16m3f : Array Bool := #[true, true, true, true, true, true, false, false, false, false, false, false, false, false, false, false]
abbrev D16m3ff : Array Bool := #[true, true, true, true, true, true, true, true, true, true, false, false, false, false, false, false]
abbrev D16m3fff : Array Bool := #[true, true, true, true, true, true, true, true, true, true, true, true, true, true, false, false]
abbrev D16m6 : Array Bool := #[false, true, true, false, false, false, false, false, false, false, false, false, false, false, false, false]
abbrev D16m7 : Array Bool := #[true, true, true, false, false, false, false, false, false, false, false, false, false, false, false, false]
abbrev D16m77f : Array Bool := #[true, true, true, true, true, true, true, false, true, true, true, false, false, false, false, false]
abbrev D16m7f : Array Bool := #[true, true, true, true, true, true, true, false, false, false, false, false, false, false, false, false]
abbrev D16m7ff : Array Bool := #[true, true, true, true, true, true, true, true, true, true, true, false, false, false, false, false]
abbrev D16m7fff : Array Bool := #[true, true, true, true, true, true, true, true, true, true, true, true, true, true, true, false]
abbrev D16mf : Array Bool := #[true, true, true, true, false, false, false, false, false, false, false, false, false, false, false, false]
abbrev D16mff : Array Bool := #[true, true, true, true, true, true, true, true, false, false, false, false, false, false, false, false]
abbrev D16mfff : Array Bool := #[true, true, true, true, true, true, true, true, true, true, true, true, false, false, false, false]
abbrev D16mffff : Array Bool := #[true, true, true, true, true, true, true, true, true, true, true, true, true, true, true, true]
abbrev D7m0 : Array Bool := #[false, false, false, false, false, false, false]
abbrev D7m1f : Array Bool := #[true, true, true, true, true, false, false]
abbrev D7m2 : Array Bool := #[false, true, false, false, false, false, false]
abbrev D7m3 : Array Bool := #[true, true, false, false, false, false, false]
abbrev D7m3f : Array Bool := #[true, true, true, true, true, true, false]
abbrev D7m7 : Array Bool := #[true, true, true, false, false, false, false]
abbrev D7m7f : Array Bool := #[true, true, true, true, true, true, true]
abbrev D7mf : Array Bool := #[true, true, true, true, false, false, false]
abbrev D8m0 : Array Bool := #[false, false, false, false, false, false, false, false]
abbrev D8m1 : Array Bool := #[true, false, false, false, false, false, false, false]
abbrev D8m15 : Array Bool := #[true, false, true, false, true, false, false, false]
abbrev D8m17 : Array Bool := #[true, true, true, false, true, false, false, false]
abbrev D8m1b : Array Bool := #[true, true, false, true, true, false, false, false]
abbrev D8m1f : Array Bool := #[true, true, true, true, true, false, false, false]
abbrev D8m3f : Array Bool := #[true, true, true, true, true, true, false, false]
abbrev D8m5 : Array Bool := #[true, false, true, false, false, false, false, false]
abbrev D8m7f : Array Bool := #[true, true, true, true, true, true, true, false]
abbrev D8m9 : Array Bool := #[true, false, false, true, false, false, false, false]
abbrev D8mb : Array Bool := #[true, true, false, true, false, false, false, false]
abbrev D8mff : Array Bool := #[true, true, true, true, true, true, true, true]
end Go.Proofs.Ytgniegpeeaphlaa.PR
