-- Laid by a program of this claim's own (wip/tools/mkprint.py, ext.py): walks of the functions that the statements reach.
import Derived.Test.YtcljafgpjoagpaaProg
import Derived.Below
import Derived.Deep.Draws
import Derived.Deep.AppendLies
import Derived.Maps.AppendAt
import Derived.OwnWalk
import Derived.Laws.BytesArg
import Derived.Laws.MakeOwn
import Derived.Laws.OwnMore
import Derived.Deep.OwnRows
import Derived.Tactics
import Derived.Lib.ConvBytes
import Derived.Laws.Slices
import Derived.WalkKit
import Derived.KernelRfl
import Derived.RowKit3
import Derived.Deep.LoopGhost
import Derived.Deep.QuietTactic
import Derived.BigQuiet
import Derived.WideLaws
import Derived.Deep.DeepCutAuto
import Derived.Deep.CutBlock
import Derived.Deep.RegionHeld3
import Derived.Laws.Rows
import Derived.Lib.AppendStr
import Derived.ArgAppend
import Derived.Laws.IdiomCopy
import Derived.OrdersHeld
import Derived.Laws.BitsLemmas
import Derived.RowKit
import Derived.Test.YtcljafgpjoagpaaExtWords
import Derived.Test.YtcljafgpjoagpaaExtBytes
import Derived.Test.YtcljafgpjoagpaaWWords
import Derived.Test.YtcljafgpjoagpaaWLast
import Derived.Test.YtcljafgpjoagpaaWTab
import Derived.Test.YtcljafgpjoagpaaWFour
import Derived.Test.YtcljafgpjoagpaaWQPut
import Derived.Test.YtcljafgpjoagpaaWApart
import Derived.Test.YtcljafgpjoagpaaWArr
import Derived.Test.YtcljafgpjoagpaaWZeros
import Derived.Test.YtcljafgpjoagpaaWFoot
import Derived.Test.YtcljafgpjoagpaaWKept
import Derived.Test.YtcljafgpjoagpaaWShare
import Derived.Test.YtcljafgpjoagpaaWN
import Derived.Test.YtcljafgpjoagpaaWFootNe
import Derived.Test.YtcljafgpjoagpaaWAt
import Derived.Test.YtcljafgpjoagpaaWEqStruct
import Derived.Test.YtcljafgpjoagpaaWRepsOne
import Derived.Test.YtcljafgpjoagpaaWInv
import Derived.Test.YtcljafgpjoagpaaWInvWords
import Derived.Test.YtcljafgpjoagpaaWGuard
import Derived.Test.YtcljafgpjoagpaaWNEv
import Derived.Test.YtcljafgpjoagpaaWMore
namespace Go.Proofs.Ytcljafgpjoagpaa.Pa
open Go.RowKit Go.Proofs.Ytcljafgpjoagpaa.Ext Go.Proofs.YtcljafgpjoagpaaW.PrintWords Go.Proofs.YtcljafgpjoagpaaW.PrintLast Go.Proofs.YtcljafgpjoagpaaW.PrintMore
attribute [local go_sem] max2_int min2_int max_two min_two max_three min_three max_four min_four   -- for this text's walks alone
set_option linter.unusedVariables false
set_option linter.unusedSimpArgs false



def errW : Option Int → Value
  | none => .nilIface
  | some c => .iface 0 (.int .i64 c)
theorem errW_none : errW none = .nilIface := rfl
theorem errW_some (c : Int) : errW (some c) = .iface 0 (.int .i64 c) := rfl

theorem info3 : (Try.prog.info? 3).map (fun i => (i.zero, i.size, i.bytes)) = some (some (.int .i64 0), 1, 8) := by kernel_rfl
theorem info5 : (Try.prog.info? 5).map (fun i => (i.zero, i.size, i.bytes)) = some (some (.int .u8 0), 1, 1) := by kernel_rfl
theorem info25 : (Try.prog.info? 25).map (fun i => (i.zero, i.size, i.bytes)) = some (some (.agg #[(.int .i64 0), (.int .i64 0)]), 2, 16) := by kernel_rfl
-- the values' own types
/-! #### struct type 25 -/
structure S25 where
  f0 : Int
  f1 : Int
def z25 : S25 := ⟨(0 : Int), (0 : Int)⟩
def k25 : Kd S25 := Kd.iso (Kd.pair (Kd.int .i64) (Kd.int .i64)) (fun x : S25 => (x.f0, x.f1))
theorem k25_heap : Kd.Heap k25 := Kd.heap_iso _ (Kd.heap_pair (Kd.heap_int .i64) (Kd.heap_int .i64))
theorem k25_open {w : World} {x : S25} {cs : List Value} (h : k25.K w x cs) : cs = [.int .i64 x.f0, .int .i64 x.f1] := by
  obtain ⟨_, _, rfl, rfl, rfl⟩ := h
  exact rfl
theorem k25_openM {w : World} {base : Nat} {ok : Nat → Prop} {x : S25} {cs : List Value} (h : k25.M w base ok x cs) : cs = [.int .i64 x.f0, .int .i64 x.f1] := by
  obtain ⟨_, _, rfl, rfl, rfl⟩ := h
  exact rfl
theorem k25_mk (w : World) (x : S25)  : k25.K w x [.int .i64 x.f0, .int .i64 x.f1] := ⟨[.int .i64 x.f0], [.int .i64 x.f1], rfl, rfl, rfl⟩
theorem k25_mkM (w : World) (base : Nat) (ok : Nat → Prop) (x : S25)  : k25.M w base ok x [.int .i64 x.f0, .int .i64 x.f1] := ⟨[.int .i64 x.f0], [.int .i64 x.f1], rfl, rfl, rfl⟩
theorem k25_mkF (W : World) (ok : Nat → Prop) (x : S25) : Kd.FK k25 W ok x [.int .i64 x.f0, .int .i64 x.f1] := fun W2 _ => k25_mk W2 x
def rd_T25 (xs : List S25) (i : Int) : S25 := xs.getD i.toNat z25
theorem at_T25 {w : World} {A : Option Addr} {n : Nat} {xs : List S25} (h : Kd.C k25 w A n xs) (i : Int) (h0 : 0 ≤ i) (h1 : i < n) : ∃ ad , A = some ad ∧ w.cell? (ad.add (i.toNat * 2)) = some (.int .i64 (rd_T25 xs i).f0) ∧ w.cell? ⟨(ad.add (i.toNat * 2)).block, (ad.add (i.toNat * 2)).off + 1, none⟩ = some (.int .i64 (rd_T25 xs i).f1) := by
  obtain ⟨ad, c, e, _, hK, hc0⟩ := Kd.C_get h z25 i h0 h1
  have hc : ∀ j u, c[j]? = some u → w.cell? (ad.add (i.toNat * 2 + j)) = some u := hc0
  obtain rfl := k25_open hK
  exact ⟨ad, e, hc 0 _ rfl, by rw [← add_field _ _ 1 (by omega)]; exact hc 1 _ rfl⟩

end Go.Proofs.Ytcljafgpjoagpaa.Pa
