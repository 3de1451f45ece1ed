import Derived.Test.YtejmjeanhlkenaaProg
import Derived.Below
import Derived.Deep.Draws
import Derived.Deep.AppendLies
import Derived.Maps.AppendAt
import Derived.OwnWalk
import Derived.Laws.BytesArg
import Derived.Laws.MakeOwn
import Derived.Laws.OwnMore
import Derived.Deep.OwnRows
import Derived.Tactics
import Derived.Lib.ConvBytes
import Derived.Laws.Slices
import Derived.WalkKit
import Derived.KernelRfl
import Derived.RowKit3
import Derived.Deep.LoopGhost
import Derived.Deep.QuietTactic
import Derived.BigQuiet
import Derived.WideLaws
import Derived.Deep.DeepCutAuto
import Derived.Deep.CutBlock
import Derived.Deep.RegionHeld3
import Derived.Laws.Rows
import Derived.Lib.AppendStr
import Derived.ArgAppend
import Derived.Laws.IdiomCopy
import Derived.OrdersHeld
import Derived.Laws.BitsLemmas
import Derived.RowKit
import Derived.Test.YtejmjeanhlkenaaVWords
import Derived.Test.YtejmjeanhlkenaaVLast
import Derived.Test.YtejmjeanhlkenaaVTab
import Derived.Test.YtejmjeanhlkenaaVFour
import Derived.Test.YtejmjeanhlkenaaVQPut
import Derived.Test.YtejmjeanhlkenaaVApart
import Derived.Test.YtejmjeanhlkenaaVArr
import Derived.Test.YtejmjeanhlkenaaVZeros
import Derived.Test.YtejmjeanhlkenaaVFoot
import Derived.Test.YtejmjeanhlkenaaVKept
import Derived.Test.YtejmjeanhlkenaaVShare
import Derived.Test.YtejmjeanhlkenaaVN
import Derived.Test.YtejmjeanhlkenaaVFootNe
import Derived.Test.YtejmjeanhlkenaaVRepsOne
import Derived.Test.YtejmjeanhlkenaaVInv
import Derived.Test.YtejmjeanhlkenaaVInvWords
import Derived.Test.YtejmjeanhlkenaaVGuard
import Derived.Test.YtejmjeanhlkenaaVNEv
import Derived.Test.YtejmjeanhlkenaaVMore
-- written by wip/myprint.py (the kit's print over hand-proved contracts)
namespace Go.Proofs.Ytejmjeanhlkenaa.PB
open Go.RowKit Go.Proofs.YtejmjeanhlkenaaW.PrintWords Go.Proofs.YtejmjeanhlkenaaW.PrintLast Go.Proofs.YtejmjeanhlkenaaW.PrintMore
attribute [local go_sem] max2_int min2_int max_two min_two max_three min_three max_four min_four   -- for this text's walks alone
set_option linter.unusedVariables false
set_option linter.unusedSimpArgs false



def errW : Option Int → Value
 | none => .nilIface
 | some c => .iface 0 (.int .i64 c)
theorem errW_none : errW none = .nilIface := rfl
theorem errW_some (c : Int) : errW (some c) = .iface 0 (.int .i64 c) := rfl

theorem info3 : (Try.prog.info? 3).map (fun i => (i.zero, i.size, i.bytes)) = some (some (.int .i64 0), 1, 8) := by kernel_rfl
theorem info4 : (Try.prog.info? 4).map (fun i => (i.zero, i.size, i.bytes)) = some (some (.bool false), 1, 1) := by kernel_rfl
theorem info31 : (Try.prog.info? 31).map (fun i => (i.zero, i.size, i.bytes)) = some (some (.agg #[(.int .i64 0), (.int .i64 0)]), 2, 16) := by kernel_rfl
-- the values' own types
/-! #### struct type 31 -/
structure S31 where
 f0 : Int
 f1 : Int
def z31 : S31 := ⟨(0 : Int), (0 : Int)⟩
def k31 : Kd S31 := Kd.iso (Kd.pair (Kd.int .i64) (Kd.int .i64)) (fun x : S31 => (x.f0, x.f1))
theorem k31_heap : Kd.Heap k31 := Kd.heap_iso _ (Kd.heap_pair (Kd.heap_int .i64) (Kd.heap_int .i64))
theorem k31_open {w : World} {x : S31} {cs : List Value} (h : k31.K w x cs) : cs = [.int .i64 x.f0, .int .i64 x.f1] := by
 obtain ⟨_, _, rfl, rfl, rfl⟩ := h
 exact rfl
theorem k31_openM {w : World} {base : Nat} {ok : Nat → Prop} {x : S31} {cs : List Value} (h : k31.M w base ok x cs) : cs = [.int .i64 x.f0, .int .i64 x.f1] := by
 obtain ⟨_, _, rfl, rfl, rfl⟩ := h
 exact rfl
theorem k31_mk (w : World) (x : S31)  : k31.K w x [.int .i64 x.f0, .int .i64 x.f1] := ⟨[.int .i64 x.f0], [.int .i64 x.f1], rfl, rfl, rfl⟩
theorem k31_mkM (w : World) (base : Nat) (ok : Nat → Prop) (x : S31)  : k31.M w base ok x [.int .i64 x.f0, .int .i64 x.f1] := ⟨[.int .i64 x.f0], [.int .i64 x.f1], rfl, rfl, rfl⟩
theorem k31_mkF (W : World) (ok : Nat → Prop) (x : S31) : Kd.FK k31 W ok x [.int .i64 x.f0, .int .i64 x.f1] := fun W2 _ => k31_mk W2 x
def rd_T31 (xs : List S31) (i : Int) : S31 := xs.getD i.toNat z31
theorem at_T31 {w : World} {A : Option Addr} {n : Nat} {xs : List S31} (h : Kd.C k31 w A n xs) (i : Int) (h0 : 0 ≤ i) (h1 : i < n) : ∃ ad , A = some ad ∧ w.cell? (ad.add (i.toNat * 2)) = some (.int .i64 (rd_T31 xs i).f0) ∧ w.cell? ⟨(ad.add (i.toNat * 2)).block, (ad.add (i.toNat * 2)).off + 1, none⟩ = some (.int .i64 (rd_T31 xs i).f1) := by
 obtain ⟨ad, c, e, _, hK, hc0⟩ := Kd.C_get h z31 i h0 h1
 have hc : ∀ j u, c[j]? = some u → w.cell? (ad.add (i.toNat * 2 + j)) = some u := hc0
 obtain rfl := k31_open hK
 exact ⟨ad, e, hc 0 _ rfl, by rw [← add_field _ _ 1 (by omega)]; exact hc 1 _ rfl⟩

abbrev sZ1 {α : Type} := @List.setIfInBounds_toArray α
abbrev sZ2 {α : Type} := @List.set_cons_zero α
abbrev sZ3 {α : Type} := @List.set_cons_succ α
abbrev D10m0 : Array Bool := #[false, false, false, false, false, false, false, false, false, false]
abbrev D10m1 : Array Bool := #[true, false, false, false, false, false, false, false, false, false]
abbrev D10m1f : Array Bool := #[true, true, true, true, true, false, false, false, false, false]
abbrev D10m1ff : Array Bool := #[true, true, true, true, true, true, true, true, true, false]
abbrev D10m3f : Array Bool := #[true, true, true, true, true, true, false, false, false, false]
abbrev D10m3ff : Array Bool := #[true, true, true, true, true, true, true, true, true, true]
abbrev D10m5 : Array Bool := #[true, false, true, false, false, false, false, false, false, false]
abbrev D10m7f : Array Bool := #[true, true, true, true, true, true, true, false, false, false]
abbrev D10md : Array Bool := #[true, false, true, true, false, false, false, false, false, false]
abbrev D10mf : Array Bool := #[true, true, true, true, false, false, false, false, false, false]
abbrev D10mff : Array Bool := #[true, true, true, true, true, true, true, true, false, false]
abbrev D11m0 : Array Bool := #[false, false, false, false, false, false, false, false, false, false, false]
abbrev D11m1 : Array Bool := #[true, false, false, false, false, false, false, false, false, false, false]
abbrev D11m15 : Array Bool := #[true, false, true, false, true, false, false, false, false, false, false]
abbrev D11m1ff : Array Bool := #[true, true, true, true, true, true, true, true, true, false, false]
abbrev D11m3ff : Array Bool := #[true, true, true, true, true, true, true, true, true, true, false]
abbrev D11m5 : Array Bool := #[true, false, true, false, false, false, false, false, false, false, false]
abbrev D11m55 : Array Bool := #[true, false, true, false, true, false, true, false, false, false, false]
abbrev D11m57 : Array Bool := #[true, true, true, false, true, false, true, false, false, false, false]
abbrev D11m5d : Array Bool := #[true, false, true, true, true, false, true, false, false, false, false]
abbrev D11m5f : Array Bool := #[true, true, true, true, true, false, true, false, false, false, false]
abbrev D11m75 : Array Bool := #[true, false, true, false, true, true, true, false, false, false, false]
abbrev D11m77 : Array Bool := #[true, true, true, false, true, true, true, false, false, false, false]
abbrev D11m7d : Array Bool := #[true, false, true, true, true, true, true, false, false, false, false]
abbrev D11m7f : Array Bool := #[true, true, true, true, true, true, true, false, false, false, false]
abbrev D11m7ff : Array Bool := #[true, true, true, true, true, true, true, true, true, true, true]
abbrev D11md5 : Array Bool := #[true, false, true, false, true, false, true, true, false, false, false]
abbrev D11md7 : Array Bool := #[true, true, true, false, true, false, true, true, false, false, false]
abbrev D11mdd : Array Bool := #[true, false, true, true, true, false, true, true, false, false, false]
abbrev D11mdf : Array Bool := #[true, true, true, true, true, false, true, true, false, false, false]
abbrev D11mf5 : Array Bool := #[true, false, true, false, true, true, true, true, false, false, false]
abbrev D11mf7 : Array Bool := #[true, true, true, false, true, true, true, true, false, false, false]
abbrev D11mfd : Array Bool := #[true, false, true, true, true, true, true, true, false, false, false]
abbrev D11mff : Array Bool := #[true, true, true, true, true, true, true, true, false, false, false]
abbrev D12m0 : Array Bool := #[false, false, false, false, false, false, false, false, false, false, false, false]
abbrev D12m1 : Array Bool := #[true, false, false, false, false, false, false, false, false, false, false, false]
abbrev D12m16f : Array Bool := #[true, true, true, true, false, true, true, false, true, false, false, false]
abbrev D12m17f : Array Bool := #[true, true, true, true, true, true, true, false, true, false, false, false]
abbrev D12m1ff : Array Bool := #[true, true, true, true, true, true, true, true, true, false, false, false]
abbrev D12m2d : Array Bool := #[true, false, true, true, false, true, false, false, false, false, false, false]
abbrev D12m3ff : Array Bool := #[true, true, true, true, true, true, true, true, true, true, false, false]
abbrev D12m5 : Array Bool := #[true, false, true, false, false, false, false, false, false, false, false, false]
abbrev D12m6d : Array Bool := #[true, false, true, true, false, true, true, false, false, false, false, false]
abbrev D12m6f : Array Bool := #[true, true, true, true, false, true, true, false, false, false, false, false]
abbrev D12m7ff : Array Bool := #[true, true, true, true, true, true, true, true, true, true, true, false]
abbrev D12md : Array Bool := #[true, false, true, true, false, false, false, false, false, false, false, false]
abbrev D12mfff : Array Bool := #[true, true, true, true, true, true, true, true, true, true, true, true]
abbrev D13m0 : Array Bool := #[false, false, false, false, false, false, false, false, false, false, false, false, false]
abbrev D13m1 : Array Bool := #[true, false, false, false, false, false, false, false, false, false, false, false, false]
abbrev D13m15 : Array Bool := #[true, false, true, false, true, false, false, false, false, false, false, false, false]
abbrev D13m17 : Array Bool := #[true, true, true, false, true, false, false, false, false, false, false, false, false]
abbrev D13m1f : Array Bool := #[true, true, true, true, true, false, false, false, false, false, false, false, false]
abbrev D13m1ff : Array Bool := #[true, true, true, true, true, true, true, true, true, false, false, false, false]
abbrev D13m1fff : Array Bool := #[true, true, true, true, true, true, true, true, true, true, true, true, true]
abbrev D13m3f : Array Bool := #[true, true, true, true, true, true, false, false, false, false, false, false, false]
abbrev D13m3ff : Array Bool := #[true, true, true, true, true, true, true, true, true, true, false, false, false]
abbrev D13m5 : Array Bool := #[true, false, true, false, false, false, false, false, false, false, false, false, false]
abbrev D13m7f : Array Bool := #[true, true, true, true, true, true, true, false, false, false, false, false, false]
abbrev D13m7ff : Array Bool := #[true, true, true, true, true, true, true, true, true, true, true, false, false]
abbrev D13mff : Array Bool := #[true, true, true, true, true, true, true, true, false, false, false, false, false]
abbrev D13mfff : Array Bool := #[true, true, true, true, true, true, true, true, true, true, true, true, false]
abbrev D14m0 : Array Bool := #[false, false, false, false, false, false, false, false, false, false, false, false, false, false]
abbrev D14m1 : Array Bool := #[true, false, false, false, false, false, false, false, false, false, false, false, false, false]
abbrev D14m1ff : Array Bool := #[true, true, true, true, true, true, true, true, true, false, false, false, false, false]
abbrev D14m1fff : Array Bool := #[true, true, true, true, true, true, true, true, true, true, true, true, true, false]
abbrev D14m25 : Array Bool := #[true, false, true, false, false, true, false, false, false, false, false, false, false, false]
abbrev D14m3ff : Array Bool := #[true, true, true, true, true, true, true, true, true, true, false, false, false, false]
abbrev D14m3fff : Array Bool := #[true, true, true, true, true, true, true, true, true, true, true, true, true, true]
abbrev D14m5 : Array Bool := #[true, false, true, false, false, false, false, false, false, false, false, false, false, false]
abbrev D14m65 : Array Bool := #[true, false, true, false, false, true, true, false, false, false, false, false, false, false]
abbrev D14m67 : Array Bool := #[true, true, true, false, false, true, true, false, false, false, false, false, false, false]
abbrev D14m6f : Array Bool := #[true, true, true, true, false, true, true, false, false, false, false, false, false, false]
abbrev D14m7f : Array Bool := #[true, true, true, true, true, true, true, false, false, false, false, false, false, false]
abbrev D14m7ff : Array Bool := #[true, true, true, true, true, true, true, true, true, true, true, false, false, false]
abbrev D14mff : Array Bool := #[true, true, true, true, true, true, true, true, false, false, false, false, false, false]
abbrev D14mfff : Array Bool := #[true, true, true, true, true, true, true, true, true, true, true, true, false, false]
abbrev D16m0 : Array Bool := #[false, false, false, false, false, false, false, false, false, false, false, false, false, false, false, false]
abbrev D16m1 : Array Bool := #[true, false, false, false, false, false, false, false, false, false, false, false, false, false, false, false]
abbrev D16m125 : Array Bool := #[true, false, true, false, false, true, false, false, true, false, false, false, false, false, false, false]
abbrev D16m15 : Array Bool := #[true, false, true, false, true, false, false, false, false, false, false, false, false, false, false, false]
abbrev D16m1b6f : Array Bool := #[true, true, true, true, false, true, true, false, true, true, false, true, true, false, false, false]
abbrev D16m1b7f : Array Bool := #[true, true, true, true, true, true, true, false, true, true, false, true, true, false, false, false]
abbrev D16m1bff : Array Bool := #[true, true, true, true, true, true, true, true, true, true, false, true, true, false, false, false]
abbrev D16m1ff : Array Bool := #[true, true, true, true, true, true, true, true, true, false, false, false, false, false, false, false]
abbrev D16m1fff : Array Bool := #[true, true, true, true, true, true, true, true, true, true, true, true, true, false, false, false]
abbrev D16m25 : Array Bool := #[true, false, true, false, false, true, false, false, false, false, false, false, false, false, false, false]
abbrev D16m35 : Array Bool := #[true, false, true, false, true, true, false, false, false, false, false, false, false, false, false, false]
abbrev D16m3ff : Array Bool := #[true, true, true, true, true, true, true, true, true, true, false, false, false, false, false, false]
abbrev D16m3fff : Array Bool := #[true, true, true, true, true, true, true, true, true, true, true, true, true, true, false, false]
abbrev D16m5 : Array Bool := #[true, false, true, false, false, false, false, false, false, false, false, false, false, false, false, false]
abbrev D16m75 : Array Bool := #[true, false, true, false, true, true, true, false, false, false, false, false, false, false, false, false]
abbrev D16m7ff : Array Bool := #[true, true, true, true, true, true, true, true, true, true, true, false, false, false, false, false]
abbrev D16m7fff : Array Bool := #[true, true, true, true, true, true, true, true, true, true, true, true, true, true, true, false]
abbrev D16m925 : Array Bool := #[true, false, true, false, false, true, false, false, true, false, false, true, false, false, false, false]
abbrev D16m927 : Array Bool := #[true, true, true, false, false, true, false, false, true, false, false, true, false, false, false, false]
abbrev D16m92f : Array Bool := #[true, true, true, true, false, true, false, false, true, false, false, true, false, false, false, false]
abbrev D16m96f : Array Bool := #[true, true, true, true, false, true, true, false, true, false, false, true, false, false, false, false]
abbrev D16mb6f : Array Bool := #[true, true, true, true, false, true, true, false, true, true, false, true, false, false, false, false]
abbrev D16mf5 : Array Bool := #[true, false, true, false, true, true, true, true, false, false, false, false, false, false, false, false]
abbrev D16mf7 : Array Bool := #[true, true, true, false, true, true, true, true, false, false, false, false, false, false, false, false]
abbrev D16mff : Array Bool := #[true, true, true, true, true, true, true, true, false, false, false, false, false, false, false, false]
abbrev D16mfff : Array Bool := #[true, true, true, true, true, true, true, true, true, true, true, true, false, false, false, false]
abbrev D16mffff : Array Bool := #[true, true, true, true, true, true, true, true, true, true, true, true, true, true, true, true]
abbrev D18m0 : Array Bool := #[false, false, false, false, false, false, false, false, false, false, false, false, false, false, false, false, false, false]
abbrev D18m1 : Array Bool := #[true, false, false, false, false, false, false, false, false, false, false, false, false, false, false, false, false, false]
abbrev D18m15d : Array Bool := #[true, false, true, true, true, false, true, false, true, false, false, false, false, false, false, false, false, false]
abbrev D18m175d : Array Bool := #[true, false, true, true, true, false, true, false, true, true, true, false, true, false, false, false, false, false]
abbrev D18m175f : Array Bool := #[true, true, true, true, true, false, true, false, true, true, true, false, true, false, false, false, false, false]
abbrev D18m177f : Array Bool := #[true, true, true, true, true, true, true, false, true, true, true, false, true, false, false, false, false, false]
abbrev D18m17ff : Array Bool := #[true, true, true, true, true, true, true, true, true, true, true, false, true, false, false, false, false, false]
abbrev D18m1d : Array Bool := #[true, false, true, true, true, false, false, false, false, false, false, false, false, false, false, false, false, false]
abbrev D18m1fff : Array Bool := #[true, true, true, true, true, true, true, true, true, true, true, true, true, false, false, false, false, false]
abbrev D18m1ffff : Array Bool := #[true, true, true, true, true, true, true, true, true, true, true, true, true, true, true, true, true, false]
abbrev D18m35d : Array Bool := #[true, false, true, true, true, false, true, false, true, true, false, false, false, false, false, false, false, false]
abbrev D18m3ffff : Array Bool := #[true, true, true, true, true, true, true, true, true, true, true, true, true, true, true, true, true, true]
abbrev D18m5 : Array Bool := #[true, false, true, false, false, false, false, false, false, false, false, false, false, false, false, false, false, false]
abbrev D18m5d : Array Bool := #[true, false, true, true, true, false, true, false, false, false, false, false, false, false, false, false, false, false]
abbrev D18m5fff : Array Bool := #[true, true, true, true, true, true, true, true, true, true, true, true, true, false, true, false, false, false]
abbrev D18m75d : Array Bool := #[true, false, true, true, true, false, true, false, true, true, true, false, false, false, false, false, false, false]
abbrev D18m7fff : Array Bool := #[true, true, true, true, true, true, true, true, true, true, true, true, true, true, true, false, false, false]
abbrev D18md : Array Bool := #[true, false, true, true, false, false, false, false, false, false, false, false, false, false, false, false, false, false]
abbrev D18mffff : Array Bool := #[true, true, true, true, true, true, true, true, true, true, true, true, true, true, true, true, false, false]
abbrev D19m0 : Array Bool := #[false, false, false, false, false, false, false, false, false, false, false, false, false, false, false, false, false, false, false]
abbrev D19m1 : Array Bool := #[true, false, false, false, false, false, false, false, false, false, false, false, false, false, false, false, false, false, false]
abbrev D19m1eff : Array Bool := #[true, true, true, true, true, true, true, true, false, true, true, true, true, false, false, false, false, false, false]
abbrev D19m1f : Array Bool := #[true, true, true, true, true, false, false, false, false, false, false, false, false, false, false, false, false, false, false]
abbrev D19m1ff : Array Bool := #[true, true, true, true, true, true, true, true, true, false, false, false, false, false, false, false, false, false, false]
abbrev D19m1fff : Array Bool := #[true, true, true, true, true, true, true, true, true, true, true, true, true, false, false, false, false, false, false]
abbrev D19m1ffff : Array Bool := #[true, true, true, true, true, true, true, true, true, true, true, true, true, true, true, true, true, false, false]
abbrev D19m2ff : Array Bool := #[true, true, true, true, true, true, true, true, false, true, false, false, false, false, false, false, false, false, false]
abbrev D19m3 : Array Bool := #[true, true, false, false, false, false, false, false, false, false, false, false, false, false, false, false, false, false, false]
abbrev D19m3f : Array Bool := #[true, true, true, true, true, true, false, false, false, false, false, false, false, false, false, false, false, false, false]
abbrev D19m3ff : Array Bool := #[true, true, true, true, true, true, true, true, true, true, false, false, false, false, false, false, false, false, false]
abbrev D19m3fff : Array Bool := #[true, true, true, true, true, true, true, true, true, true, true, true, true, true, false, false, false, false, false]
abbrev D19m3ffff : Array Bool := #[true, true, true, true, true, true, true, true, true, true, true, true, true, true, true, true, true, true, false]
abbrev D19m6ff : Array Bool := #[true, true, true, true, true, true, true, true, false, true, true, false, false, false, false, false, false, false, false]
abbrev D19m7 : Array Bool := #[true, true, true, false, false, false, false, false, false, false, false, false, false, false, false, false, false, false, false]
abbrev D19m7f : Array Bool := #[true, true, true, true, true, true, true, false, false, false, false, false, false, false, false, false, false, false, false]
abbrev D19m7ff : Array Bool := #[true, true, true, true, true, true, true, true, true, true, true, false, false, false, false, false, false, false, false]
abbrev D19m7fff : Array Bool := #[true, true, true, true, true, true, true, true, true, true, true, true, true, true, true, false, false, false, false]
abbrev D19m7ffff : Array Bool := #[true, true, true, true, true, true, true, true, true, true, true, true, true, true, true, true, true, true, true]
abbrev D19meff : Array Bool := #[true, true, true, true, true, true, true, true, false, true, true, true, false, false, false, false, false, false, false]
abbrev D19mf : Array Bool := #[true, true, true, true, false, false, false, false, false, false, false, false, false, false, false, false, false, false, false]
abbrev D19mff : Array Bool := #[true, true, true, true, true, true, true, true, false, false, false, false, false, false, false, false, false, false, false]
abbrev D19mfff : Array Bool := #[true, true, true, true, true, true, true, true, true, true, true, true, false, false, false, false, false, false, false]
abbrev D19mffff : Array Bool := #[true, true, true, true, true, true, true, true, true, true, true, true, true, true, true, true, false, false, false]
abbrev D21m0 : Array Bool := #[false, false, false, false, false, false, false, false, false, false, false, false, false, false, false, false, false, false, false, false, false]
abbrev D21m1 : Array Bool := #[true, false, false, false, false, false, false, false, false, false, false, false, false, false, false, false, false, false, false, false, false]
abbrev D21m12ff : Array Bool := #[true, true, true, true, true, true, true, true, false, true, false, false, true, false, false, false, false, false, false, false, false]
abbrev D21m16d : Array Bool := #[true, false, true, true, false, true, true, false, true, false, false, false, false, false, false, false, false, false, false, false, false]
abbrev D21m196d : Array Bool := #[true, false, true, true, false, true, true, false, true, false, false, true, true, false, false, false, false, false, false, false, false]
abbrev D21m1f : Array Bool := #[true, true, true, true, true, false, false, false, false, false, false, false, false, false, false, false, false, false, false, false, false]
abbrev D21m1ff : Array Bool := #[true, true, true, true, true, true, true, true, true, false, false, false, false, false, false, false, false, false, false, false, false]
abbrev D21m1fff : Array Bool := #[true, true, true, true, true, true, true, true, true, true, true, true, true, false, false, false, false, false, false, false, false]
abbrev D21m1ffff : Array Bool := #[true, true, true, true, true, true, true, true, true, true, true, true, true, true, true, true, true, false, false, false, false]
abbrev D21m1fffff : Array Bool := #[true, true, true, true, true, true, true, true, true, true, true, true, true, true, true, true, true, true, true, true, true]
abbrev D21m2d : Array Bool := #[true, false, true, true, false, true, false, false, false, false, false, false, false, false, false, false, false, false, false, false, false]
abbrev D21m2ff : Array Bool := #[true, true, true, true, true, true, true, true, false, true, false, false, false, false, false, false, false, false, false, false, false]
abbrev D21m32ff : Array Bool := #[true, true, true, true, true, true, true, true, false, true, false, false, true, true, false, false, false, false, false, false, false]
abbrev D21m396d : Array Bool := #[true, false, true, true, false, true, true, false, true, false, false, true, true, true, false, false, false, false, false, false, false]
abbrev D21m3f : Array Bool := #[true, true, true, true, true, true, false, false, false, false, false, false, false, false, false, false, false, false, false, false, false]
abbrev D21m3ff : Array Bool := #[true, true, true, true, true, true, true, true, true, true, false, false, false, false, false, false, false, false, false, false, false]
abbrev D21m3fff : Array Bool := #[true, true, true, true, true, true, true, true, true, true, true, true, true, true, false, false, false, false, false, false, false]
abbrev D21m3ffff : Array Bool := #[true, true, true, true, true, true, true, true, true, true, true, true, true, true, true, true, true, true, false, false, false]
abbrev D21m4f2ff : Array Bool := #[true, true, true, true, true, true, true, true, false, true, false, false, true, true, true, true, false, false, true, false, false]
abbrev D21m4f3ff : Array Bool := #[true, true, true, true, true, true, true, true, true, true, false, false, true, true, true, true, false, false, true, false, false]
abbrev D21m4f7ff : Array Bool := #[true, true, true, true, true, true, true, true, true, true, true, false, true, true, true, true, false, false, true, false, false]
abbrev D21m4ffff : Array Bool := #[true, true, true, true, true, true, true, true, true, true, true, true, true, true, true, true, false, false, true, false, false]
abbrev D21m5 : Array Bool := #[true, false, true, false, false, false, false, false, false, false, false, false, false, false, false, false, false, false, false, false, false]
abbrev D21m5ffff : Array Bool := #[true, true, true, true, true, true, true, true, true, true, true, true, true, true, true, true, true, false, true, false, false]
abbrev D21m6d : Array Bool := #[true, false, true, true, false, true, true, false, false, false, false, false, false, false, false, false, false, false, false, false, false]
abbrev D21m7 : Array Bool := #[true, true, true, false, false, false, false, false, false, false, false, false, false, false, false, false, false, false, false, false, false]
abbrev D21m72ff : Array Bool := #[true, true, true, true, true, true, true, true, false, true, false, false, true, true, true, false, false, false, false, false, false]
abbrev D21m796d : Array Bool := #[true, false, true, true, false, true, true, false, true, false, false, true, true, true, true, false, false, false, false, false, false]
abbrev D21m796f : Array Bool := #[true, true, true, true, false, true, true, false, true, false, false, true, true, true, true, false, false, false, false, false, false]
abbrev D21m797f : Array Bool := #[true, true, true, true, true, true, true, false, true, false, false, true, true, true, true, false, false, false, false, false, false]
abbrev D21m79ff : Array Bool := #[true, true, true, true, true, true, true, true, true, false, false, true, true, true, true, false, false, false, false, false, false]
abbrev D21m7bff : Array Bool := #[true, true, true, true, true, true, true, true, true, true, false, true, true, true, true, false, false, false, false, false, false]
abbrev D21m7f : Array Bool := #[true, true, true, true, true, true, true, false, false, false, false, false, false, false, false, false, false, false, false, false, false]
abbrev D21m7ff : Array Bool := #[true, true, true, true, true, true, true, true, true, true, true, false, false, false, false, false, false, false, false, false, false]
abbrev D21m7fff : Array Bool := #[true, true, true, true, true, true, true, true, true, true, true, true, true, true, true, false, false, false, false, false, false]
abbrev D21m7ffff : Array Bool := #[true, true, true, true, true, true, true, true, true, true, true, true, true, true, true, true, true, true, true, false, false]
abbrev D21m96d : Array Bool := #[true, false, true, true, false, true, true, false, true, false, false, true, false, false, false, false, false, false, false, false, false]
abbrev D21md : Array Bool := #[true, false, true, true, false, false, false, false, false, false, false, false, false, false, false, false, false, false, false, false, false]
abbrev D21mf : Array Bool := #[true, true, true, true, false, false, false, false, false, false, false, false, false, false, false, false, false, false, false, false, false]
abbrev D21mf2ff : Array Bool := #[true, true, true, true, true, true, true, true, false, true, false, false, true, true, true, true, false, false, false, false, false]
abbrev D21mff : Array Bool := #[true, true, true, true, true, true, true, true, false, false, false, false, false, false, false, false, false, false, false, false, false]
abbrev D21mfff : Array Bool := #[true, true, true, true, true, true, true, true, true, true, true, true, false, false, false, false, false, false, false, false, false]
abbrev D21mffff : Array Bool := #[true, true, true, true, true, true, true, true, true, true, true, true, true, true, true, true, false, false, false, false, false]
abbrev D21mfffff : Array Bool := #[true, true, true, true, true, true, true, true, true, true, true, true, true, true, true, true, true, true, true, true, false]
abbrev D23m0 : Array Bool := #[false, false, false, false, false, false, false, false, false, false, false, false, false, false, false, false, false, false, false, false, false, false, false]
abbrev D23m1 : Array Bool := #[true, false, false, false, false, false, false, false, false, false, false, false, false, false, false, false, false, false, false, false, false, false, false]
abbrev D23m1e2ff : Array Bool := #[true, true, true, true, true, true, true, true, false, true, false, false, false, true, true, true, true, false, false, false, false, false, false]
abbrev D23m1f : Array Bool := #[true, true, true, true, true, false, false, false, false, false, false, false, false, false, false, false, false, false, false, false, false, false, false]
abbrev D23m1fe2ff : Array Bool := #[true, true, true, true, true, true, true, true, false, true, false, false, false, true, true, true, true, true, true, true, true, false, false]
abbrev D23m1fe3ff : Array Bool := #[true, true, true, true, true, true, true, true, true, true, false, false, false, true, true, true, true, true, true, true, true, false, false]
abbrev D23m1fe7ff : Array Bool := #[true, true, true, true, true, true, true, true, true, true, true, false, false, true, true, true, true, true, true, true, true, false, false]
abbrev D23m1fefff : Array Bool := #[true, true, true, true, true, true, true, true, true, true, true, true, false, true, true, true, true, true, true, true, true, false, false]
abbrev D23m1ff : Array Bool := #[true, true, true, true, true, true, true, true, true, false, false, false, false, false, false, false, false, false, false, false, false, false, false]
abbrev D23m1fff : Array Bool := #[true, true, true, true, true, true, true, true, true, true, true, true, true, false, false, false, false, false, false, false, false, false, false]
abbrev D23m1ffff : Array Bool := #[true, true, true, true, true, true, true, true, true, true, true, true, true, true, true, true, true, false, false, false, false, false, false]
abbrev D23m1fffff : Array Bool := #[true, true, true, true, true, true, true, true, true, true, true, true, true, true, true, true, true, true, true, true, true, false, false]
abbrev D23m22ff : Array Bool := #[true, true, true, true, true, true, true, true, false, true, false, false, false, true, false, false, false, false, false, false, false, false, false]
abbrev D23m2ff : Array Bool := #[true, true, true, true, true, true, true, true, false, true, false, false, false, false, false, false, false, false, false, false, false, false, false]
abbrev D23m3e2ff : Array Bool := #[true, true, true, true, true, true, true, true, false, true, false, false, false, true, true, true, true, true, false, false, false, false, false]
abbrev D23m3f : Array Bool := #[true, true, true, true, true, true, false, false, false, false, false, false, false, false, false, false, false, false, false, false, false, false, false]
abbrev D23m3ff : Array Bool := #[true, true, true, true, true, true, true, true, true, true, false, false, false, false, false, false, false, false, false, false, false, false, false]
abbrev D23m3fff : Array Bool := #[true, true, true, true, true, true, true, true, true, true, true, true, true, true, false, false, false, false, false, false, false, false, false]
abbrev D23m3ffff : Array Bool := #[true, true, true, true, true, true, true, true, true, true, true, true, true, true, true, true, true, true, false, false, false, false, false]
abbrev D23m3fffff : Array Bool := #[true, true, true, true, true, true, true, true, true, true, true, true, true, true, true, true, true, true, true, true, true, true, false]
abbrev D23m5 : Array Bool := #[true, false, true, false, false, false, false, false, false, false, false, false, false, false, false, false, false, false, false, false, false, false, false]
abbrev D23m62ff : Array Bool := #[true, true, true, true, true, true, true, true, false, true, false, false, false, true, true, false, false, false, false, false, false, false, false]
abbrev D23m7 : Array Bool := #[true, true, true, false, false, false, false, false, false, false, false, false, false, false, false, false, false, false, false, false, false, false, false]
abbrev D23m7e2ff : Array Bool := #[true, true, true, true, true, true, true, true, false, true, false, false, false, true, true, true, true, true, true, false, false, false, false]
abbrev D23m7e3ff : Array Bool := #[true, true, true, true, true, true, true, true, true, true, false, false, false, true, true, true, true, true, true, false, false, false, false]
abbrev D23m7e7ff : Array Bool := #[true, true, true, true, true, true, true, true, true, true, true, false, false, true, true, true, true, true, true, false, false, false, false]
abbrev D23m7efff : Array Bool := #[true, true, true, true, true, true, true, true, true, true, true, true, false, true, true, true, true, true, true, false, false, false, false]
abbrev D23m7f : Array Bool := #[true, true, true, true, true, true, true, false, false, false, false, false, false, false, false, false, false, false, false, false, false, false, false]
abbrev D23m7ff : Array Bool := #[true, true, true, true, true, true, true, true, true, true, true, false, false, false, false, false, false, false, false, false, false, false, false]
abbrev D23m7fff : Array Bool := #[true, true, true, true, true, true, true, true, true, true, true, true, true, true, true, false, false, false, false, false, false, false, false]
abbrev D23m7ffff : Array Bool := #[true, true, true, true, true, true, true, true, true, true, true, true, true, true, true, true, true, true, true, false, false, false, false]
abbrev D23m7fffff : Array Bool := #[true, true, true, true, true, true, true, true, true, true, true, true, true, true, true, true, true, true, true, true, true, true, true]
abbrev D23me2ff : Array Bool := #[true, true, true, true, true, true, true, true, false, true, false, false, false, true, true, true, false, false, false, false, false, false, false]
abbrev D23mf : Array Bool := #[true, true, true, true, false, false, false, false, false, false, false, false, false, false, false, false, false, false, false, false, false, false, false]
abbrev D23mfe2ff : Array Bool := #[true, true, true, true, true, true, true, true, false, true, false, false, false, true, true, true, true, true, true, true, false, false, false]
abbrev D23mff : Array Bool := #[true, true, true, true, true, true, true, true, false, false, false, false, false, false, false, false, false, false, false, false, false, false, false]
abbrev D23mfff : Array Bool := #[true, true, true, true, true, true, true, true, true, true, true, true, false, false, false, false, false, false, false, false, false, false, false]
abbrev D23mffff : Array Bool := #[true, true, true, true, true, true, true, true, true, true, true, true, true, true, true, true, false, false, false, false, false, false, false]
abbrev D23mfffff : Array Bool := #[true, true, true, true, true, true, true, true, true, true, true, true, true, true, true, true, true, true, true, true, false, false, false]
abbrev D27m0 : Array Bool := #[false, false, false, false, false, false, false, false, false, false, false, false, false, false, false, false, false, false, false, false, false, false, false, false, false, false, false]
abbrev D27m1 : Array Bool := #[true, false, false, false, false, false, false, false, false, false, false, false, false, false, false, false, false, false, false, false, false, false, false, false, false, false, false]
abbrev D27m13ff : Array Bool := #[true, true, true, true, true, true, true, true, true, true, false, false, true, false, false, false, false, false, false, false, false, false, false, false, false, false, false]
abbrev D27m17ff : Array Bool := #[true, true, true, true, true, true, true, true, true, true, true, false, true, false, false, false, false, false, false, false, false, false, false, false, false, false, false]
abbrev D27m1f : Array Bool := #[true, true, true, true, true, false, false, false, false, false, false, false, false, false, false, false, false, false, false, false, false, false, false, false, false, false, false]
abbrev D27m1ff : Array Bool := #[true, true, true, true, true, true, true, true, true, false, false, false, false, false, false, false, false, false, false, false, false, false, false, false, false, false, false]
abbrev D27m1ffff : Array Bool := #[true, true, true, true, true, true, true, true, true, true, true, true, true, true, true, true, true, false, false, false, false, false, false, false, false, false, false]
abbrev D27m1ffffff : Array Bool := #[true, true, true, true, true, true, true, true, true, true, true, true, true, true, true, true, true, true, true, true, true, true, true, true, true, false, false]
abbrev D27m2fffff : Array Bool := #[true, true, true, true, true, true, true, true, true, true, true, true, true, true, true, true, true, true, true, true, false, true, false, false, false, false, false]
abbrev D27m3 : Array Bool := #[true, true, false, false, false, false, false, false, false, false, false, false, false, false, false, false, false, false, false, false, false, false, false, false, false, false, false]
abbrev D27m37ff : Array Bool := #[true, true, true, true, true, true, true, true, true, true, true, false, true, true, false, false, false, false, false, false, false, false, false, false, false, false, false]
abbrev D27m3f : Array Bool := #[true, true, true, true, true, true, false, false, false, false, false, false, false, false, false, false, false, false, false, false, false, false, false, false, false, false, false]
abbrev D27m3ff : Array Bool := #[true, true, true, true, true, true, true, true, true, true, false, false, false, false, false, false, false, false, false, false, false, false, false, false, false, false, false]
abbrev D27m3fff : Array Bool := #[true, true, true, true, true, true, true, true, true, true, true, true, true, true, false, false, false, false, false, false, false, false, false, false, false, false, false]
abbrev D27m3ffff : Array Bool := #[true, true, true, true, true, true, true, true, true, true, true, true, true, true, true, true, true, true, false, false, false, false, false, false, false, false, false]
abbrev D27m3ffffff : Array Bool := #[true, true, true, true, true, true, true, true, true, true, true, true, true, true, true, true, true, true, true, true, true, true, true, true, true, true, false]
abbrev D27m6fffff : Array Bool := #[true, true, true, true, true, true, true, true, true, true, true, true, true, true, true, true, true, true, true, true, false, true, true, false, false, false, false]
abbrev D27m7 : Array Bool := #[true, true, true, false, false, false, false, false, false, false, false, false, false, false, false, false, false, false, false, false, false, false, false, false, false, false, false]
abbrev D27m7f : Array Bool := #[true, true, true, true, true, true, true, false, false, false, false, false, false, false, false, false, false, false, false, false, false, false, false, false, false, false, false]
abbrev D27m7fff : Array Bool := #[true, true, true, true, true, true, true, true, true, true, true, true, true, true, true, false, false, false, false, false, false, false, false, false, false, false, false]
abbrev D27m7ffff : Array Bool := #[true, true, true, true, true, true, true, true, true, true, true, true, true, true, true, true, true, true, true, false, false, false, false, false, false, false, false]
abbrev D27m7fffff : Array Bool := #[true, true, true, true, true, true, true, true, true, true, true, true, true, true, true, true, true, true, true, true, true, true, true, false, false, false, false]
abbrev D27m7ffffff : Array Bool := #[true, true, true, true, true, true, true, true, true, true, true, true, true, true, true, true, true, true, true, true, true, true, true, true, true, true, true]
abbrev D27mf : Array Bool := #[true, true, true, true, false, false, false, false, false, false, false, false, false, false, false, false, false, false, false, false, false, false, false, false, false, false, false]
abbrev D27mff : Array Bool := #[true, true, true, true, true, true, true, true, false, false, false, false, false, false, false, false, false, false, false, false, false, false, false, false, false, false, false]
abbrev D27mffff : Array Bool := #[true, true, true, true, true, true, true, true, true, true, true, true, true, true, true, true, false, false, false, false, false, false, false, false, false, false, false]
abbrev D27mfffff : Array Bool := #[true, true, true, true, true, true, true, true, true, true, true, true, true, true, true, true, true, true, true, true, false, false, false, false, false, false, false]
abbrev D27mffffff : Array Bool := #[true, true, true, true, true, true, true, true, true, true, true, true, true, true, true, true, true, true, true, true, true, true, true, true, false, false, false]
abbrev D31m0 : Array Bool := #[false, false, false, false, false, false, false, false, false, false, false, false, false, false, false, false, false, false, false, false, false, false, false, false, false, false, false, false, false, false, false]
abbrev D31m1 : Array Bool := #[true, false, false, false, false, false, false, false, false, false, false, false, false, false, false, false, false, false, false, false, false, false, false, false, false, false, false, false, false, false, false]
abbrev D31m17 : Array Bool := #[true, true, true, false, true, false, false, false, false, false, false, false, false, false, false, false, false, false, false, false, false, false, false, false, false, false, false, false, false, false, false]
abbrev D31m19dffff : Array Bool := #[true, true, true, true, true, true, true, true, true, true, true, true, true, true, true, true, true, false, true, true, true, false, false, true, true, false, false, false, false, false, false]
abbrev D31m1dffff : Array Bool := #[true, true, true, true, true, true, true, true, true, true, true, true, true, true, true, true, true, false, true, true, true, false, false, false, false, false, false, false, false, false, false]
abbrev D31m1f : Array Bool := #[true, true, true, true, true, false, false, false, false, false, false, false, false, false, false, false, false, false, false, false, false, false, false, false, false, false, false, false, false, false, false]
abbrev D31m1ff : Array Bool := #[true, true, true, true, true, true, true, true, true, false, false, false, false, false, false, false, false, false, false, false, false, false, false, false, false, false, false, false, false, false, false]
abbrev D31m1fff : Array Bool := #[true, true, true, true, true, true, true, true, true, true, true, true, true, false, false, false, false, false, false, false, false, false, false, false, false, false, false, false, false, false, false]
abbrev D31m1ffff : Array Bool := #[true, true, true, true, true, true, true, true, true, true, true, true, true, true, true, true, true, false, false, false, false, false, false, false, false, false, false, false, false, false, false]
abbrev D31m1fffff : Array Bool := #[true, true, true, true, true, true, true, true, true, true, true, true, true, true, true, true, true, true, true, true, true, false, false, false, false, false, false, false, false, false, false]
abbrev D31m1ffffff : Array Bool := #[true, true, true, true, true, true, true, true, true, true, true, true, true, true, true, true, true, true, true, true, true, true, true, true, true, false, false, false, false, false, false]
abbrev D31m1fffffff : Array Bool := #[true, true, true, true, true, true, true, true, true, true, true, true, true, true, true, true, true, true, true, true, true, true, true, true, true, true, true, true, true, false, false]
abbrev D31m3 : Array Bool := #[true, true, false, false, false, false, false, false, false, false, false, false, false, false, false, false, false, false, false, false, false, false, false, false, false, false, false, false, false, false, false]
abbrev D31m39dffff : Array Bool := #[true, true, true, true, true, true, true, true, true, true, true, true, true, true, true, true, true, false, true, true, true, false, false, true, true, true, false, false, false, false, false]
abbrev D31m3f : Array Bool := #[true, true, true, true, true, true, false, false, false, false, false, false, false, false, false, false, false, false, false, false, false, false, false, false, false, false, false, false, false, false, false]
abbrev D31m3ff : Array Bool := #[true, true, true, true, true, true, true, true, true, true, false, false, false, false, false, false, false, false, false, false, false, false, false, false, false, false, false, false, false, false, false]
abbrev D31m3fff : Array Bool := #[true, true, true, true, true, true, true, true, true, true, true, true, true, true, false, false, false, false, false, false, false, false, false, false, false, false, false, false, false, false, false]
abbrev D31m3ffff : Array Bool := #[true, true, true, true, true, true, true, true, true, true, true, true, true, true, true, true, true, true, false, false, false, false, false, false, false, false, false, false, false, false, false]
abbrev D31m3fffff : Array Bool := #[true, true, true, true, true, true, true, true, true, true, true, true, true, true, true, true, true, true, true, true, true, true, false, false, false, false, false, false, false, false, false]
abbrev D31m3ffffff : Array Bool := #[true, true, true, true, true, true, true, true, true, true, true, true, true, true, true, true, true, true, true, true, true, true, true, true, true, true, false, false, false, false, false]
abbrev D31m3fffffff : Array Bool := #[true, true, true, true, true, true, true, true, true, true, true, true, true, true, true, true, true, true, true, true, true, true, true, true, true, true, true, true, true, true, false]
abbrev D31m5ffff : Array Bool := #[true, true, true, true, true, true, true, true, true, true, true, true, true, true, true, true, true, false, true, false, false, false, false, false, false, false, false, false, false, false, false]
abbrev D31m7 : Array Bool := #[true, true, true, false, false, false, false, false, false, false, false, false, false, false, false, false, false, false, false, false, false, false, false, false, false, false, false, false, false, false, false]
abbrev D31m79dffff : Array Bool := #[true, true, true, true, true, true, true, true, true, true, true, true, true, true, true, true, true, false, true, true, true, false, false, true, true, true, true, false, false, false, false]
abbrev D31m79fffff : Array Bool := #[true, true, true, true, true, true, true, true, true, true, true, true, true, true, true, true, true, true, true, true, true, false, false, true, true, true, true, false, false, false, false]
abbrev D31m7bfffff : Array Bool := #[true, true, true, true, true, true, true, true, true, true, true, true, true, true, true, true, true, true, true, true, true, true, false, true, true, true, true, false, false, false, false]
abbrev D31m7f : Array Bool := #[true, true, true, true, true, true, true, false, false, false, false, false, false, false, false, false, false, false, false, false, false, false, false, false, false, false, false, false, false, false, false]
abbrev D31m7ff : Array Bool := #[true, true, true, true, true, true, true, true, true, true, true, false, false, false, false, false, false, false, false, false, false, false, false, false, false, false, false, false, false, false, false]
abbrev D31m7fff : Array Bool := #[true, true, true, true, true, true, true, true, true, true, true, true, true, true, true, false, false, false, false, false, false, false, false, false, false, false, false, false, false, false, false]
abbrev D31m7ffff : Array Bool := #[true, true, true, true, true, true, true, true, true, true, true, true, true, true, true, true, true, true, true, false, false, false, false, false, false, false, false, false, false, false, false]
abbrev D31m7fffff : Array Bool := #[true, true, true, true, true, true, true, true, true, true, true, true, true, true, true, true, true, true, true, true, true, true, true, false, false, false, false, false, false, false, false]
abbrev D31m7ffffff : Array Bool := #[true, true, true, true, true, true, true, true, true, true, true, true, true, true, true, true, true, true, true, true, true, true, true, true, true, true, true, false, false, false, false]
abbrev D31m7fffffff : Array Bool := #[true, true, true, true, true, true, true, true, true, true, true, true, true, true, true, true, true, true, true, true, true, true, true, true, true, true, true, true, true, true, true]
abbrev D31m9dffff : Array Bool := #[true, true, true, true, true, true, true, true, true, true, true, true, true, true, true, true, true, false, true, true, true, false, false, true, false, false, false, false, false, false, false]
abbrev D31mdffff : Array Bool := #[true, true, true, true, true, true, true, true, true, true, true, true, true, true, true, true, true, false, true, true, false, false, false, false, false, false, false, false, false, false, false]
abbrev D31mf : Array Bool := #[true, true, true, true, false, false, false, false, false, false, false, false, false, false, false, false, false, false, false, false, false, false, false, false, false, false, false, false, false, false, false]
abbrev D31mff : Array Bool := #[true, true, true, true, true, true, true, true, false, false, false, false, false, false, false, false, false, false, false, false, false, false, false, false, false, false, false, false, false, false, false]
abbrev D31mfff : Array Bool := #[true, true, true, true, true, true, true, true, true, true, true, true, false, false, false, false, false, false, false, false, false, false, false, false, false, false, false, false, false, false, false]
abbrev D31mffff : Array Bool := #[true, true, true, true, true, true, true, true, true, true, true, true, true, true, true, true, false, false, false, false, false, false, false, false, false, false, false, false, false, false, false]
abbrev D31mfffff : Array Bool := #[true, true, true, true, true, true, true, true, true, true, true, true, true, true, true, true, true, true, true, true, false, false, false, false, false, false, false, false, false, false, false]
abbrev D31mffffff : Array Bool := #[true, true, true, true, true, true, true, true, true, true, true, true, true, true, true, true, true, true, true, true, true, true, true, true, false, false, false, false, false, false, false]
abbrev D31mfffffff : Array Bool := #[true, true, true, true, true, true, true, true, true, true, true, true, true, true, true, true, true, true, true, true, true, true, true, true, true, true, true, true, false, false, false]
abbrev D35m0 : Array Bool := #[false, false, false, false, false, false, false, false, false, false, false, false, false, false, false, false, false, false, false, false, false, false, false, false, false, false, false, false, false, false, false, false, false, false, false]
abbrev D35m1 : Array Bool := #[true, false, false, false, false, false, false, false, false, false, false, false, false, false, false, false, false, false, false, false, false, false, false, false, false, false, false, false, false, false, false, false, false, false, false]
abbrev D35m17 : Array Bool := #[true, true, true, false, true, false, false, false, false, false, false, false, false, false, false, false, false, false, false, false, false, false, false, false, false, false, false, false, false, false, false, false, false, false, false]
abbrev D35m17fffff : Array Bool := #[true, true, true, true, true, true, true, true, true, true, true, true, true, true, true, true, true, true, true, true, true, true, true, false, true, false, false, false, false, false, false, false, false, false, false]
abbrev D35m1f : Array Bool := #[true, true, true, true, true, false, false, false, false, false, false, false, false, false, false, false, false, false, false, false, false, false, false, false, false, false, false, false, false, false, false, false, false, false, false]
abbrev D35m1ff : Array Bool := #[true, true, true, true, true, true, true, true, true, false, false, false, false, false, false, false, false, false, false, false, false, false, false, false, false, false, false, false, false, false, false, false, false, false, false]
abbrev D35m1fff : Array Bool := #[true, true, true, true, true, true, true, true, true, true, true, true, true, false, false, false, false, false, false, false, false, false, false, false, false, false, false, false, false, false, false, false, false, false, false]
abbrev D35m1ffff : Array Bool := #[true, true, true, true, true, true, true, true, true, true, true, true, true, true, true, true, true, false, false, false, false, false, false, false, false, false, false, false, false, false, false, false, false, false, false]
abbrev D35m1fffff : Array Bool := #[true, true, true, true, true, true, true, true, true, true, true, true, true, true, true, true, true, true, true, true, true, false, false, false, false, false, false, false, false, false, false, false, false, false, false]
abbrev D35m1ffffff : Array Bool := #[true, true, true, true, true, true, true, true, true, true, true, true, true, true, true, true, true, true, true, true, true, true, true, true, true, false, false, false, false, false, false, false, false, false, false]
abbrev D35m1fffffff : Array Bool := #[true, true, true, true, true, true, true, true, true, true, true, true, true, true, true, true, true, true, true, true, true, true, true, true, true, true, true, true, true, false, false, false, false, false, false]
abbrev D35m1ffffffff : Array Bool := #[true, true, true, true, true, true, true, true, true, true, true, true, true, true, true, true, true, true, true, true, true, true, true, true, true, true, true, true, true, true, true, true, true, false, false]
abbrev D35m3 : Array Bool := #[true, true, false, false, false, false, false, false, false, false, false, false, false, false, false, false, false, false, false, false, false, false, false, false, false, false, false, false, false, false, false, false, false, false, false]
abbrev D35m37fffff : Array Bool := #[true, true, true, true, true, true, true, true, true, true, true, true, true, true, true, true, true, true, true, true, true, true, true, false, true, true, false, false, false, false, false, false, false, false, false]
abbrev D35m3f : Array Bool := #[true, true, true, true, true, true, false, false, false, false, false, false, false, false, false, false, false, false, false, false, false, false, false, false, false, false, false, false, false, false, false, false, false, false, false]
abbrev D35m3ff : Array Bool := #[true, true, true, true, true, true, true, true, true, true, false, false, false, false, false, false, false, false, false, false, false, false, false, false, false, false, false, false, false, false, false, false, false, false, false]
abbrev D35m3fff : Array Bool := #[true, true, true, true, true, true, true, true, true, true, true, true, true, true, false, false, false, false, false, false, false, false, false, false, false, false, false, false, false, false, false, false, false, false, false]
abbrev D35m3ffff : Array Bool := #[true, true, true, true, true, true, true, true, true, true, true, true, true, true, true, true, true, true, false, false, false, false, false, false, false, false, false, false, false, false, false, false, false, false, false]
abbrev D35m3fffff : Array Bool := #[true, true, true, true, true, true, true, true, true, true, true, true, true, true, true, true, true, true, true, true, true, true, false, false, false, false, false, false, false, false, false, false, false, false, false]
abbrev D35m3ffffff : Array Bool := #[true, true, true, true, true, true, true, true, true, true, true, true, true, true, true, true, true, true, true, true, true, true, true, true, true, true, false, false, false, false, false, false, false, false, false]
abbrev D35m3fffffff : Array Bool := #[true, true, true, true, true, true, true, true, true, true, true, true, true, true, true, true, true, true, true, true, true, true, true, true, true, true, true, true, true, true, false, false, false, false, false]
abbrev D35m3ffffffff : Array Bool := #[true, true, true, true, true, true, true, true, true, true, true, true, true, true, true, true, true, true, true, true, true, true, true, true, true, true, true, true, true, true, true, true, true, true, false]
abbrev D35m5ff : Array Bool := #[true, true, true, true, true, true, true, true, true, false, true, false, false, false, false, false, false, false, false, false, false, false, false, false, false, false, false, false, false, false, false, false, false, false, false]
abbrev D35m7 : Array Bool := #[true, true, true, false, false, false, false, false, false, false, false, false, false, false, false, false, false, false, false, false, false, false, false, false, false, false, false, false, false, false, false, false, false, false, false]
abbrev D35m77fffff : Array Bool := #[true, true, true, true, true, true, true, true, true, true, true, true, true, true, true, true, true, true, true, true, true, true, true, false, true, true, true, false, false, false, false, false, false, false, false]
abbrev D35m7f : Array Bool := #[true, true, true, true, true, true, true, false, false, false, false, false, false, false, false, false, false, false, false, false, false, false, false, false, false, false, false, false, false, false, false, false, false, false, false]
abbrev D35m7ff : Array Bool := #[true, true, true, true, true, true, true, true, true, true, true, false, false, false, false, false, false, false, false, false, false, false, false, false, false, false, false, false, false, false, false, false, false, false, false]
abbrev D35m7fff : Array Bool := #[true, true, true, true, true, true, true, true, true, true, true, true, true, true, true, false, false, false, false, false, false, false, false, false, false, false, false, false, false, false, false, false, false, false, false]
abbrev D35m7ffff : Array Bool := #[true, true, true, true, true, true, true, true, true, true, true, true, true, true, true, true, true, true, true, false, false, false, false, false, false, false, false, false, false, false, false, false, false, false, false]
abbrev D35m7fffff : Array Bool := #[true, true, true, true, true, true, true, true, true, true, true, true, true, true, true, true, true, true, true, true, true, true, true, false, false, false, false, false, false, false, false, false, false, false, false]
abbrev D35m7ffffff : Array Bool := #[true, true, true, true, true, true, true, true, true, true, true, true, true, true, true, true, true, true, true, true, true, true, true, true, true, true, true, false, false, false, false, false, false, false, false]
abbrev D35m7fffffff : Array Bool := #[true, true, true, true, true, true, true, true, true, true, true, true, true, true, true, true, true, true, true, true, true, true, true, true, true, true, true, true, true, true, true, false, false, false, false]
abbrev D35m7ffffffff : Array Bool := #[true, true, true, true, true, true, true, true, true, true, true, true, true, true, true, true, true, true, true, true, true, true, true, true, true, true, true, true, true, true, true, true, true, true, true]
abbrev D35mf : Array Bool := #[true, true, true, true, false, false, false, false, false, false, false, false, false, false, false, false, false, false, false, false, false, false, false, false, false, false, false, false, false, false, false, false, false, false, false]
abbrev D35mf7fffff : Array Bool := #[true, true, true, true, true, true, true, true, true, true, true, true, true, true, true, true, true, true, true, true, true, true, true, false, true, true, true, true, false, false, false, false, false, false, false]
abbrev D35mff : Array Bool := #[true, true, true, true, true, true, true, true, false, false, false, false, false, false, false, false, false, false, false, false, false, false, false, false, false, false, false, false, false, false, false, false, false, false, false]
abbrev D35mfff : Array Bool := #[true, true, true, true, true, true, true, true, true, true, true, true, false, false, false, false, false, false, false, false, false, false, false, false, false, false, false, false, false, false, false, false, false, false, false]
abbrev D35mffff : Array Bool := #[true, true, true, true, true, true, true, true, true, true, true, true, true, true, true, true, false, false, false, false, false, false, false, false, false, false, false, false, false, false, false, false, false, false, false]
abbrev D35mfffff : Array Bool := #[true, true, true, true, true, true, true, true, true, true, true, true, true, true, true, true, true, true, true, true, false, false, false, false, false, false, false, false, false, false, false, false, false, false, false]
abbrev D35mffffff : Array Bool := #[true, true, true, true, true, true, true, true, true, true, true, true, true, true, true, true, true, true, true, true, true, true, true, true, false, false, false, false, false, false, false, false, false, false, false]
abbrev D35mfffffff : Array Bool := #[true, true, true, true, true, true, true, true, true, true, true, true, true, true, true, true, true, true, true, true, true, true, true, true, true, true, true, true, false, false, false, false, false, false, false]
abbrev D35mffffffff : Array Bool := #[true, true, true, true, true, true, true, true, true, true, true, true, true, true, true, true, true, true, true, true, true, true, true, true, true, true, true, true, true, true, true, true, false, false, false]
abbrev D8m0 : Array Bool := #[false, false, false, false, false, false, false, false]
abbrev D8m1 : Array Bool := #[true, false, false, false, false, false, false, false]
abbrev D8m1f : Array Bool := #[true, true, true, true, true, false, false, false]
abbrev D8m2 : Array Bool := #[false, true, false, false, false, false, false, false]
abbrev D8m3f : Array Bool := #[true, true, true, true, true, true, false, false]
abbrev D8m5 : Array Bool := #[true, false, true, false, false, false, false, false]
abbrev D8m7f : Array Bool := #[true, true, true, true, true, true, true, false]
abbrev D8ma : Array Bool := #[false, true, false, true, false, false, false, false]
abbrev D8mb : Array Bool := #[true, true, false, true, false, false, false, false]
abbrev D8md : Array Bool := #[true, false, true, true, false, false, false, false]
abbrev D8mf : Array Bool := #[true, true, true, true, false, false, false, false]
abbrev D8mff : Array Bool := #[true, true, true, true, true, true, true, true]
abbrev D9m0 : Array Bool := #[false, false, false, false, false, false, false, false, false]
abbrev D9m1 : Array Bool := #[true, false, false, false, false, false, false, false, false]
abbrev D9m1d : Array Bool := #[true, false, true, true, true, false, false, false, false]
abbrev D9m1f : Array Bool := #[true, true, true, true, true, false, false, false, false]
abbrev D9m1ff : Array Bool := #[true, true, true, true, true, true, true, true, true]
abbrev D9m3f : Array Bool := #[true, true, true, true, true, true, false, false, false]
abbrev D9m5 : Array Bool := #[true, false, true, false, false, false, false, false, false]
abbrev D9m7f : Array Bool := #[true, true, true, true, true, true, true, false, false]
abbrev D9md : Array Bool := #[true, false, true, true, false, false, false, false, false]
abbrev D9mff : Array Bool := #[true, true, true, true, true, true, true, true, false]
end Go.Proofs.Ytejmjeanhlkenaa.PB
