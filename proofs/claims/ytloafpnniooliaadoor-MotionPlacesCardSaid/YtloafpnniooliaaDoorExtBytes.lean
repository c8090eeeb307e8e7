/- bytes.Count at a separator of one byte, and bytes.IndexByte, over what a slice reads as: their own texts walked, the model's entries run. -/
import Derived.Test.YtloafpnniooliaaDoorWMore
import Derived.Test.YtloafpnniooliaaDoorProg
import Derived.Below
import Derived.WalkKit
import Derived.Lib.Walk
import Derived.Lib.BytesEntry
import Derived.Laws.Externs
namespace Go.Proofs.YtloafpnniooliaaDoor.Pa
open Go Go.RowKit Go.Proofs.YtloafpnniooliaaDoorW.PrintWords Go.Proofs.YtloafpnniooliaaDoorW.PrintLast Go.Proofs.YtloafpnniooliaaDoorW.PrintMore
set_option linter.unusedVariables false
set_option linter.unusedSimpArgs false

def bytes_Count.f (l0 l1 : List Int) : Option Int := if l1.length = 1 then some (Lib.countByte (Lib.bytesOf l0) (l1.getD 0 0).toNat.toUInt8) else none
def bytes_IndexByte.f (l0 : List Int) (a1 : Int) : Option Int := some (Lib.indexByte (Lib.bytesOf l0) a1.toNat.toUInt8)

section
variable {P : Program} (w : World)
theorem run_countAt (a : Addr) (n c : Nat) (xs : List Int) (hx : xs.length = n) (hc : ∀ i, i < n → w.cell? (a.add i) = some (.int .u8 (xs.getD i 0))) (cv : Int) :
    (Extern.BytealgCount.count #[.slice (some a) n c, .int .u8 cv]).run P w = .ok (.int .i64 (Lib.countByte (Lib.bytesOf xs) cv.toNat.toUInt8)) w := by
  have hl := Lib.run_loadBytesX (P := P) w xs a .empty (fun j x hj => by
    have hjl : j < xs.length := (List.getElem?_eq_some_iff.1 hj).1
    rw [hc j (by omega), List.getD_eq_getElem?_getD, hj]
    rfl)
  rw [hx] at hl
  have hs := Lib.run_countString (P := P) ⟨(Lib.bytesOf xs).toArray⟩ cv w
  have he : (⟨ByteArray.empty.data ++ (Lib.bytesOf xs).toArray⟩ : ByteArray) = ⟨(Lib.bytesOf xs).toArray⟩ := by
    apply ByteArray.ext
    show (#[] : Array UInt8) ++ (Lib.bytesOf xs).toArray = (Lib.bytesOf xs).toArray
    simp
  rw [he] at hl
  change Sem.run P (do
    let b ← Extern.Bytes.bytesOf (.slice (some a) n c)
    let c' ← Extern.Bytes.asByte (.int .u8 cv)
    pure (goInt (b.foldl (fun n x => if x == c' then n + 1 else n) (0 : Nat)))) w = _
  change Sem.run P (do
    let b ← Extern.Bytes.bytesOf (.string ⟨(Lib.bytesOf xs).toArray⟩)
    let c' ← Extern.Bytes.asByte (.int .u8 cv)
    pure (goInt (b.foldl (fun n x => if x == c' then n + 1 else n) (0 : Nat)))) w = _ at hs
  simp only [Extern.Bytes.bytesOf, Sem.run_bind, Sem.run_pure, hl, Result.andThen] at hs ⊢
  simpa using hs
theorem run_countNil (l c : Nat) (cv : Int) :
    (Extern.BytealgCount.count #[.slice none l c, .int .u8 cv]).run P w = .ok (.int .i64 0) w := by
  have hs := Lib.run_countString (P := P) .empty cv w
  exact hs
theorem run_indexByteAt (a : Addr) (n c : Nat) (xs : List Int) (hx : xs.length = n) (hc : ∀ i, i < n → w.cell? (a.add i) = some (.int .u8 (xs.getD i 0))) (cv : Int) :
    (Extern.BytealgIndexByte.indexByte #[.slice (some a) n c, .int .u8 cv]).run P w = .ok (.int .i64 (Lib.indexByte (Lib.bytesOf xs) cv.toNat.toUInt8)) w := by
  have hl := Lib.run_loadBytesX (P := P) w xs a .empty (fun j x hj => by
    have hjl : j < xs.length := (List.getElem?_eq_some_iff.1 hj).1
    rw [hc j (by omega), List.getD_eq_getElem?_getD, hj]
    rfl)
  rw [hx] at hl
  have hs := Lib.run_indexByteString (P := P) ⟨(Lib.bytesOf xs).toArray⟩ cv w
  have he : (⟨ByteArray.empty.data ++ (Lib.bytesOf xs).toArray⟩ : ByteArray) = ⟨(Lib.bytesOf xs).toArray⟩ := by
    apply ByteArray.ext
    show (#[] : Array UInt8) ++ (Lib.bytesOf xs).toArray = (Lib.bytesOf xs).toArray
    simp
  rw [he] at hl
  change Sem.run P (do
    let b ← Extern.Bytes.bytesOf (.slice (some a) n c)
    let c ← Extern.Bytes.asByte (.int .u8 cv)
    match (List.range b.size).find? fun i => b[i]! == c with
    | some i => pure (goInt i)
    | none => pure (goInt (-1))) w = _
  change Sem.run P (do
    let b ← Extern.Bytes.bytesOf (.string ⟨(Lib.bytesOf xs).toArray⟩)
    let c ← Extern.Bytes.asByte (.int .u8 cv)
    match (List.range b.size).find? fun i => b[i]! == c with
    | some i => pure (goInt i)
    | none => pure (goInt (-1))) w = _ at hs
  simp only [Extern.Bytes.bytesOf, Sem.run_bind, Sem.run_pure, hl, Result.andThen] at hs ⊢
  exact hs
end

/-- What a slice reads as, cell by cell; nil holds nothing. -/
theorem cells_of {w : World} {A : Option Addr} {l : List Int} (h : Kd.C (Kd.int .u8) w A l.length l) : (A = none ∧ l = []) ∨ ∃ ad, A = some ad ∧ ∀ j, j < l.length → w.cell? (ad.add j) = some (.int .u8 (l.getD j 0)) := by
  cases A with
  | none =>
    left
    refine ⟨rfl, ?_⟩
    cases l with
    | nil => rfl
    | cons x t =>
      obtain ⟨ad, e, _⟩ := Kd.at_int h 0 (by omega) (by simp only [List.length_cons]; omega)
      cases e
  | some ad =>
    right
    refine ⟨ad, rfl, fun j hj => ?_⟩
    obtain ⟨ad', e', h1⟩ := Kd.at_int h (j : Int) (by omega) (by omega)
    cases e'
    simpa [rd] using h1

set_option maxHeartbeats 4000000 in
set_option maxRecDepth 1000000 in
theorem bytes_IndexByte.calls (A0 : Option Addr) (c0 : Nat) (l0 : List Int) (a1 : Int) (r : Int) (w : World) (hr0 : Kd.C (Kd.int .u8) w A0 l0.length l0) (hc0 : l0.length ≤ c0) (h : bytes_IndexByte.f l0 a1 = some r) :
    Calls Tryd.prog 53 #[.slice A0 l0.length c0, .int .u8 a1] w fun e w' => e = .returned (.int .i64 r) ∧ Drawn0 w w' := by
  obtain rfl := Option.some.inj h
  clear h
  rcases cells_of hr0 with ⟨rfl, rfl⟩ | ⟨ad, rfl, hcell⟩
  · clear hr0
    go_enter Tryd.func53, Tryd.ntmps53
    go_wp2
    rw [run_callFunc_extern Tryd.func73 (by kernel_rfl) (by kernel_rfl) (by kernel_rfl) (e := Extern.BytealgIndexByte.indexByte) (by kernel_rfl), Lib.run_indexByteNil w 0 c0 a1]
    simp only [Result.andThen]
    rw [Oper.upon_value]
    go_wp2
    go_ret
    exact ⟨by first | rfl | (simp; done), by repeat (first | exact Drawn0.refl _ | apply Drawn0.step)⟩
  · have hrun := run_indexByteAt (P := Tryd.prog) w ad l0.length c0 l0 rfl hcell a1
    clear hr0 hcell
    go_enter Tryd.func53, Tryd.ntmps53
    go_wp2
    rw [run_callFunc_extern Tryd.func73 (by kernel_rfl) (by kernel_rfl) (by kernel_rfl) (e := Extern.BytealgIndexByte.indexByte) (by kernel_rfl), hrun]
    simp only [Result.andThen]
    rw [Oper.upon_value]
    go_wp2
    go_ret
    exact ⟨by first | rfl | (simp; done), by repeat (first | exact Drawn0.refl _ | apply Drawn0.step)⟩

set_option maxHeartbeats 4000000 in
set_option maxRecDepth 1000000 in
theorem bytes_Count.calls (A0 : Option Addr) (c0 : Nat) (l0 : List Int) (A1 : Option Addr) (c1 : Nat) (l1 : List Int) (r : Int) (w : World) (hr0 : Kd.C (Kd.int .u8) w A0 l0.length l0) (hc0 : l0.length ≤ c0) (hr1 : Kd.C (Kd.int .u8) w A1 l1.length l1) (hc1 : l1.length ≤ c1) (h : bytes_Count.f l0 l1 = some r) :
    Calls Tryd.prog 52 #[.slice A0 l0.length c0, .slice A1 l1.length c1] w fun e w' => e = .returned (.int .i64 r) ∧ Drawn0 w w' := by
  unfold bytes_Count.f at h
  by_cases h1 : l1.length = 1
  · rw [if_pos h1] at h
    obtain rfl := Option.some.inj h
    clear h
    obtain ⟨cv, rfl⟩ : ∃ cv, l1 = [cv] := by
      cases l1 with
      | nil => simp at h1
      | cons x t => cases t with
        | nil => exact ⟨x, rfl⟩
        | cons y t => simp at h1
    rcases cells_of hr1 with ⟨_, h2⟩ | ⟨ad1, rfl, hcell1⟩
    · cases h2
    have hx1 : w.cell? ad1 = some (.int .u8 cv) := by have := hcell1 0 (by simp); rw [Addr.add_zero'] at this; exact this
    clear hr1 hcell1 h1
    rcases cells_of hr0 with ⟨rfl, rfl⟩ | ⟨ad, rfl, hcell⟩
    · clear hr0
      go_enter Tryd.func52, Tryd.ntmps52
      go_wp2
      rw [run_callFunc_extern Tryd.func71 (by kernel_rfl) (by kernel_rfl) (by kernel_rfl) (e := Extern.BytealgCount.count) (by kernel_rfl), run_countNil w 0 c0 cv]
      simp only [Result.andThen]
      rw [Oper.upon_value]
      go_wp2
      go_ret
      exact ⟨by first | rfl | (simp; done), by repeat (first | exact Drawn0.refl _ | apply Drawn0.step)⟩
    · have hrun := run_countAt (P := Tryd.prog) w ad l0.length c0 l0 rfl hcell cv
      clear hr0 hcell
      go_enter Tryd.func52, Tryd.ntmps52
      go_wp2
      rw [run_callFunc_extern Tryd.func71 (by kernel_rfl) (by kernel_rfl) (by kernel_rfl) (e := Extern.BytealgCount.count) (by kernel_rfl), hrun]
      simp only [Result.andThen]
      rw [Oper.upon_value]
      go_wp2
      go_ret
      exact ⟨by first | rfl | (simp; done), by repeat (first | exact Drawn0.refl _ | apply Drawn0.step)⟩
  · rw [if_neg h1] at h
    cases h

end Go.Proofs.YtloafpnniooliaaDoor.Pa
