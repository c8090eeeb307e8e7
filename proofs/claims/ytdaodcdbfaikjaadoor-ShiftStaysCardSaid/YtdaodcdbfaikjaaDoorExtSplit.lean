/- bytes.Index at a separator of one byte: its own text walked. bytes.explode is told as what is never come to. -/
import Derived.Test.YtdaodcdbfaikjaaDoorExtBytes
namespace Go.Proofs.YtdaodcdbfaikjaaDoor.Pa
open Go Go.RowKit Go.Proofs.YtdaodcdbfaikjaaDoorW.PrintWords Go.Proofs.YtdaodcdbfaikjaaDoorW.PrintLast Go.Proofs.YtdaodcdbfaikjaaDoorW.PrintMore
set_option linter.unusedVariables false
set_option linter.unusedSimpArgs false

def bytes_Index.f (l0 l1 : List Int) : Option Int := if l1.length = 1 then some (Lib.indexByte (Lib.bytesOf l0) (l1.getD 0 0).toNat.toUInt8) else none
def bytes_explode.f (_ : List Int) (_ : Int) : Option (List (List Int)) := none

set_option maxHeartbeats 4000000 in
set_option maxRecDepth 1000000 in
theorem bytes_Index.calls (A0 : Option Addr) (c0 : Nat) (l0 : List Int) (A1 : Option Addr) (c1 : Nat) (l1 : List Int) (r : Int) (w : World) (hr0 : Kd.C (Kd.int .u8) w A0 l0.length l0) (hc0 : l0.length ≤ c0) (hr1 : Kd.C (Kd.int .u8) w A1 l1.length l1) (hc1 : l1.length ≤ c1) (h : bytes_Index.f l0 l1 = some r) :
    Calls Tryd.prog 53 #[.slice A0 l0.length c0, .slice A1 l1.length c1] w fun e w' => e = .returned (.int .i64 r) ∧ Drawn0 w w' := by
  unfold bytes_Index.f at h
  by_cases h1 : l1.length = 1
  · rw [if_pos h1] at h
    obtain rfl := Option.some.inj h
    clear h
    obtain ⟨cv, rfl⟩ : ∃ cv, l1 = [cv] := by
      cases l1 with
      | nil => simp at h1
      | cons x t => cases t with
        | nil => exact ⟨x, rfl⟩
        | cons y t => simp at h1
    rcases cells_of hr1 with ⟨_, h2⟩ | ⟨ad1, rfl, hcell1⟩
    · cases h2
    have hx1 : w.cell? ad1 = some (.int .u8 cv) := by have := hcell1 0 (by simp); rw [Addr.add_zero'] at this; exact this
    clear hr1 hcell1 h1
    have hcall := bytes_IndexByte.calls A0 c0 l0 cv _ w hr0 hc0 rfl
    clear hr0 hc0
    go_enter Tryd.func53, Tryd.ntmps53
    go_wp2_with (first | (go_at_call 56; refine hcall.mono ?_; rintro e w' ⟨rfl, hb⟩; obtain ⟨q, rfl⟩ := hb.out; clear hb))
    go_ret
    exact ⟨by first | rfl | (simp; done), ⟨⟨_, rfl⟩⟩⟩
  · rw [if_neg h1] at h
    cases h

theorem bytes_explode.calls (P0_ : Nat → Prop) (A0 : Option Addr) (c0 : Nat) (l0 : List Int) (a1 : Int) (r : List (List Int)) (w : World) (hs0 : Kd.V (Kd.int .u8) 5 w w.heap.size (fun k_ => P0_ k_) (.slice A0 l0.length c0) l0) (h : bytes_explode.f l0 a1 = some r) :
    Calls Tryd.prog 51 #[.slice A0 l0.length c0, .int .i64 a1] w fun e w' => ∃ v0_ : Value, e = .returned (v0_) ∧ Kd.N (Kd.slice 5 (Kd.int .u8)) 27 w' w.heap.size (fun k_ => (P0_ k_ ∨ w.heap.size ≤ k_)) v0_ r ∧ Below w.heap.size w w' := by
  cases h

end Go.Proofs.YtdaodcdbfaikjaaDoor.Pa
