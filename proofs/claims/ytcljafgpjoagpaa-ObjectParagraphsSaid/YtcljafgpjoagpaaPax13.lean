-- Laid by a program of this claim's own (wip/tools/mkprint.py, ext.py): walks of the functions that the statements reach.
import Derived.Test.YtcljafgpjoagpaaPax0
import Derived.Test.YtcljafgpjoagpaaPax1
import Derived.Test.YtcljafgpjoagpaaPax4
import Derived.Test.YtcljafgpjoagpaaPax5
import Derived.Test.YtcljafgpjoagpaaPax6
import Derived.Test.YtcljafgpjoagpaaPax9
namespace Go.Proofs.Ytcljafgpjoagpaa.Pa
open Go.RowKit Go.Proofs.Ytcljafgpjoagpaa.Ext Go.Proofs.YtcljafgpjoagpaaW.PrintWords Go.Proofs.YtcljafgpjoagpaaW.PrintLast Go.Proofs.YtcljafgpjoagpaaW.PrintMore
attribute [local go_sem] max2_int min2_int max_two min_two max_three min_three max_four min_four   -- for this text's walks alone
set_option linter.unusedVariables false
set_option linter.unusedSimpArgs false

attribute [local go_sem high] eqA27
/-! ### platenlaw20_ObjectParagraphs: function 6 -/
mutual
def platenlaw20_ObjectParagraphs.j0 : Nat → List Int → Int → Int → Bool → Option (Bool)
  | 0, _, _, _, _ => none
  | k + 1, x0, x1, x2, x25 => if x25 = true then ((platenlaw20_inner.f k).bind fun t370 => (some t370)) else ((platenlaw20_place.f x0 x1).bind fun t371 => ((object_Inner.f k x0 t371 112).bind fun bt372 => (if bt372.2.2.2 = 0 then (if bt372.2.2.1 = true then (if bt372.1 < 0 then (platenlaw20_ObjectParagraphs.j1 k x0 x2 t371 true bt372.1 bt372.2.1 bt372.2.2.1) else (if bt372.2.1 < 0 then (platenlaw20_ObjectParagraphs.j1 k x0 x2 t371 true bt372.1 bt372.2.1 bt372.2.2.1) else (platenlaw20_ObjectParagraphs.j1 k x0 x2 t371 (decide (bt372.2.1 > (wrap64 ((x0.length : Int) - bt372.1)))) bt372.1 bt372.2.1 bt372.2.2.1))) else (platenlaw20_ObjectParagraphs.j1 k x0 x2 t371 true bt372.1 bt372.2.1 bt372.2.2.1)) else (platenlaw20_ObjectParagraphs.j1 k x0 x2 t371 true bt372.1 bt372.2.1 bt372.2.2.1))))
def platenlaw20_ObjectParagraphs.j1 : Nat → List Int → Int → Int → Bool → Int → Int → Bool → Option (Bool)
  | 0, _, _, _, _, _, _, _ => none
  | k + 1, x0, x2, x7, x66, x377000, x377001, x377002 => if x66 = true then (some false) else ((platenref03_Spans.f k x0).bind fun t377 => ((platenref03_Of.f k x0 x377000).bind fun t380 => ((platenref03_Of.f k x0 x7).bind fun t381 => (if 0 ≤ t381 then (if t381 < (t377.length : Int) then ((platenref03_Text.f x0 ((rd_T25 t377 t381).f0) ((rd_T25 t377 t381).f1)).bind fun t383 => ((platenref03_Bare.f k t383).bind fun t386 => (platenlaw20_ObjectParagraphs.l0 k x0 x2 t377 t380 t381 t386 t380 x377000 x377001 x377002))) else (none)) else (none)))))
def platenlaw20_ObjectParagraphs.j3 : Nat → List Int → Int → List (S25) → Int → Int → Bool → Int → Int → Int → Bool → Option (Bool)
  | 0, _, _, _, _, _, _, _, _, _, _ => none
  | k + 1, x0, x2, x10, x11, x12, x13, x14, x377000, x377001, x377002 => (platenref03_Whole.f k x0 x11 x14).bind fun bt392 => (if x377000 = bt392.1 then (if x377001 = bt392.2.1 then (if x11 > x12 then (platenlaw20_ObjectParagraphs.j4 k x0 x2 x10 x11 x13 true x377000 x377001 x377002) else (if x14 < x12 then (platenlaw20_ObjectParagraphs.j4 k x0 x2 x10 x11 x13 true x377000 x377001 x377002) else (if 0 ≤ x11 then (if x11 < (x10.length : Int) then ((platenref03_Text.f x0 ((rd_T25 x10 x11).f0) ((rd_T25 x10 x11).f1)).bind fun t397 => ((platenref03_Bare.f k t397).bind fun t400 => (platenlaw20_ObjectParagraphs.j4 k x0 x2 x10 x11 x13 (t400 != x13) x377000 x377001 x377002))) else (none)) else (none)))) else (platenlaw20_ObjectParagraphs.j4 k x0 x2 x10 x11 x13 true x377000 x377001 x377002)) else (platenlaw20_ObjectParagraphs.j4 k x0 x2 x10 x11 x13 true x377000 x377001 x377002))
def platenlaw20_ObjectParagraphs.j4 : Nat → List Int → Int → List (S25) → Int → Bool → Bool → Int → Int → Bool → Option (Bool)
  | 0, _, _, _, _, _, _, _, _, _ => none
  | k + 1, x0, x2, x10, x11, x13, x145, x377000, x377001, x377002 => if x145 = true then (some false) else (if x11 > 0 then (if 0 ≤ (wrap64 (x11 - 1)) then (if (wrap64 (x11 - 1)) < (x10.length : Int) then ((platenref03_Text.f x0 ((rd_T25 x10 (wrap64 (x11 - 1))).f0) ((rd_T25 x10 (wrap64 (x11 - 1))).f1)).bind fun t402 => ((platenref03_Bare.f k t402).bind fun t405 => (platenlaw20_ObjectParagraphs.j5 k x0 x2 (t405 == x13) x377000 x377001 x377002))) else (none)) else (none)) else (platenlaw20_ObjectParagraphs.j5 k x0 x2 false x377000 x377001 x377002))
def platenlaw20_ObjectParagraphs.j5 : Nat → List Int → Int → Bool → Int → Int → Bool → Option (Bool)
  | 0, _, _, _, _, _, _ => none
  | k + 1, x0, x2, x159, x377000, x377001, x377002 => if x159 = true then (some false) else (if x377001 = 0 then (some true) else ((object_Inner.f k x0 (wrap64 (x377000 + (Int.tmod (wrap64 (x2)) x377001))) 112).bind fun bt406 => (if bt406.2.2.2 = 0 then (some ((bt406.1 == x377000 && (bt406.2.1 == x377001)) && (bt406.2.2.1 == x377002))) else (some false))))
def platenlaw20_ObjectParagraphs.l0 : Nat → List Int → Int → List (S25) → Int → Int → Bool → Int → Int → Int → Bool → Option (Bool)
  | 0, _, _, _, _, _, _, _, _, _, _ => none
  | k + 1, x0, x2, x10, x11, x12, x13, x14, x377000, x377001, x377002 => if x14 < (wrap64 ((x10.length : Int) - 1)) then (if 0 ≤ (wrap64 (x14 + 1)) then (if (wrap64 (x14 + 1)) < (x10.length : Int) then ((platenref03_Text.f x0 ((rd_T25 x10 (wrap64 (x14 + 1))).f0) ((rd_T25 x10 (wrap64 (x14 + 1))).f1)).bind fun t388 => ((platenref03_Bare.f k t388).bind fun t391 => (if (t391 == x13) = true then (platenlaw20_ObjectParagraphs.l0 k x0 x2 x10 x11 x12 x13 (wrap64 (x14 + 1)) x377000 x377001 x377002) else (platenlaw20_ObjectParagraphs.j3 k x0 x2 x10 x11 x12 x13 x14 x377000 x377001 x377002)))) else (none)) else (none)) else (platenlaw20_ObjectParagraphs.j3 k x0 x2 x10 x11 x12 x13 x14 x377000 x377001 x377002)
end
def platenlaw20_ObjectParagraphs.f (k : Nat) (l0 : List Int) (a1 : Int) (a2 : Int) : Option (Bool) := (platenlaw20_inner.f k).bind fun t369 => (if t369 = true then (platenlaw20_ObjectParagraphs.j0 k l0 a1 a2 (decide ((l0.length : Int) > 200))) else (platenlaw20_ObjectParagraphs.j0 k l0 a1 a2 true))
theorem platenlaw20_ObjectParagraphs.mono_l : ∀ k, (∀ y0 y1 y2 y3, LeO (platenlaw20_ObjectParagraphs.j0 k y0 y1 y2 y3) (platenlaw20_ObjectParagraphs.j0 (k + 1) y0 y1 y2 y3)) ∧ (∀ y0 y1 y2 y3 y4 y5 y6, LeO (platenlaw20_ObjectParagraphs.j1 k y0 y1 y2 y3 y4 y5 y6) (platenlaw20_ObjectParagraphs.j1 (k + 1) y0 y1 y2 y3 y4 y5 y6)) ∧ (∀ y0 y1 y2 y3 y4 y5 y6 y7 y8 y9, LeO (platenlaw20_ObjectParagraphs.j3 k y0 y1 y2 y3 y4 y5 y6 y7 y8 y9) (platenlaw20_ObjectParagraphs.j3 (k + 1) y0 y1 y2 y3 y4 y5 y6 y7 y8 y9)) ∧ (∀ y0 y1 y2 y3 y4 y5 y6 y7 y8, LeO (platenlaw20_ObjectParagraphs.j4 k y0 y1 y2 y3 y4 y5 y6 y7 y8) (platenlaw20_ObjectParagraphs.j4 (k + 1) y0 y1 y2 y3 y4 y5 y6 y7 y8)) ∧ (∀ y0 y1 y2 y3 y4 y5, LeO (platenlaw20_ObjectParagraphs.j5 k y0 y1 y2 y3 y4 y5) (platenlaw20_ObjectParagraphs.j5 (k + 1) y0 y1 y2 y3 y4 y5)) ∧ (∀ y0 y1 y2 y3 y4 y5 y6 y7 y8 y9, LeO (platenlaw20_ObjectParagraphs.l0 k y0 y1 y2 y3 y4 y5 y6 y7 y8 y9) (platenlaw20_ObjectParagraphs.l0 (k + 1) y0 y1 y2 y3 y4 y5 y6 y7 y8 y9))
  | 0 => ⟨fun _ _ _ _ r h => by simp [platenlaw20_ObjectParagraphs.j0] at h, fun _ _ _ _ _ _ _ r h => by simp [platenlaw20_ObjectParagraphs.j1] at h, fun _ _ _ _ _ _ _ _ _ _ r h => by simp [platenlaw20_ObjectParagraphs.j3] at h, fun _ _ _ _ _ _ _ _ _ r h => by simp [platenlaw20_ObjectParagraphs.j4] at h, fun _ _ _ _ _ _ r h => by simp [platenlaw20_ObjectParagraphs.j5] at h, fun _ _ _ _ _ _ _ _ _ _ r h => by simp [platenlaw20_ObjectParagraphs.l0] at h⟩
  | k + 1 => by
    obtain ⟨ih0, ih1, ih2, ih3, ih4, ih5⟩ := platenlaw20_ObjectParagraphs.mono_l k
    refine ⟨?_, ?_, ?_, ?_, ?_, ?_⟩
    · intro y0 y1 y2 y3
      unfold platenlaw20_ObjectParagraphs.j0
      repeat' first
      | (with_reducible exact ih0 _ _ _ _)
      | (with_reducible exact ih1 _ _ _ _ _ _ _)
      | (with_reducible exact ih2 _ _ _ _ _ _ _ _ _ _)
      | (with_reducible exact ih3 _ _ _ _ _ _ _ _ _)
      | (with_reducible exact ih4 _ _ _ _ _ _)
      | (with_reducible exact ih5 _ _ _ _ _ _ _ _ _ _)
      | (with_reducible exact object_Inner.mono _ _ _ _)
      | (with_reducible exact platenlaw20_inner.mono _)
      | (with_reducible exact platenref03_Bare.mono _ _)
      | (with_reducible exact platenref03_Of.mono _ _ _)
      | (with_reducible exact platenref03_Spans.mono _ _)
      | (with_reducible exact platenref03_Whole.mono _ _ _ _)
      | (with_reducible exact LeO.refl _)
      | (with_reducible exact LeO.none _)
      | (with_reducible refine LeO.ite ?_ ?_)
      | (with_reducible refine LeO.bind ?_ (fun _ => ?_))
      | exact ih0 _ _ _ _
      | exact ih1 _ _ _ _ _ _ _
      | exact ih2 _ _ _ _ _ _ _ _ _ _
      | exact ih3 _ _ _ _ _ _ _ _ _
      | exact ih4 _ _ _ _ _ _
      | exact ih5 _ _ _ _ _ _ _ _ _ _
      | exact object_Inner.mono _ _ _ _
      | exact platenlaw20_inner.mono _
      | exact platenref03_Bare.mono _ _
      | exact platenref03_Of.mono _ _ _
      | exact platenref03_Spans.mono _ _
      | exact platenref03_Whole.mono _ _ _ _
      | exact LeO.none _
      | refine LeO.ite ?_ ?_
      | refine LeO.bind ?_ (fun _ => ?_)
    · intro y0 y1 y2 y3 y4 y5 y6
      unfold platenlaw20_ObjectParagraphs.j1
      repeat' first
      | (with_reducible exact ih0 _ _ _ _)
      | (with_reducible exact ih1 _ _ _ _ _ _ _)
      | (with_reducible exact ih2 _ _ _ _ _ _ _ _ _ _)
      | (with_reducible exact ih3 _ _ _ _ _ _ _ _ _)
      | (with_reducible exact ih4 _ _ _ _ _ _)
      | (with_reducible exact ih5 _ _ _ _ _ _ _ _ _ _)
      | (with_reducible exact object_Inner.mono _ _ _ _)
      | (with_reducible exact platenlaw20_inner.mono _)
      | (with_reducible exact platenref03_Bare.mono _ _)
      | (with_reducible exact platenref03_Of.mono _ _ _)
      | (with_reducible exact platenref03_Spans.mono _ _)
      | (with_reducible exact platenref03_Whole.mono _ _ _ _)
      | (with_reducible exact LeO.refl _)
      | (with_reducible exact LeO.none _)
      | (with_reducible refine LeO.ite ?_ ?_)
      | (with_reducible refine LeO.bind ?_ (fun _ => ?_))
      | exact ih0 _ _ _ _
      | exact ih1 _ _ _ _ _ _ _
      | exact ih2 _ _ _ _ _ _ _ _ _ _
      | exact ih3 _ _ _ _ _ _ _ _ _
      | exact ih4 _ _ _ _ _ _
      | exact ih5 _ _ _ _ _ _ _ _ _ _
      | exact object_Inner.mono _ _ _ _
      | exact platenlaw20_inner.mono _
      | exact platenref03_Bare.mono _ _
      | exact platenref03_Of.mono _ _ _
      | exact platenref03_Spans.mono _ _
      | exact platenref03_Whole.mono _ _ _ _
      | exact LeO.none _
      | refine LeO.ite ?_ ?_
      | refine LeO.bind ?_ (fun _ => ?_)
    · intro y0 y1 y2 y3 y4 y5 y6 y7 y8 y9
      unfold platenlaw20_ObjectParagraphs.j3
      repeat' first
      | (with_reducible exact ih0 _ _ _ _)
      | (with_reducible exact ih1 _ _ _ _ _ _ _)
      | (with_reducible exact ih2 _ _ _ _ _ _ _ _ _ _)
      | (with_reducible exact ih3 _ _ _ _ _ _ _ _ _)
      | (with_reducible exact ih4 _ _ _ _ _ _)
      | (with_reducible exact ih5 _ _ _ _ _ _ _ _ _ _)
      | (with_reducible exact object_Inner.mono _ _ _ _)
      | (with_reducible exact platenlaw20_inner.mono _)
      | (with_reducible exact platenref03_Bare.mono _ _)
      | (with_reducible exact platenref03_Of.mono _ _ _)
      | (with_reducible exact platenref03_Spans.mono _ _)
      | (with_reducible exact platenref03_Whole.mono _ _ _ _)
      | (with_reducible exact LeO.refl _)
      | (with_reducible exact LeO.none _)
      | (with_reducible refine LeO.ite ?_ ?_)
      | (with_reducible refine LeO.bind ?_ (fun _ => ?_))
      | exact ih0 _ _ _ _
      | exact ih1 _ _ _ _ _ _ _
      | exact ih2 _ _ _ _ _ _ _ _ _ _
      | exact ih3 _ _ _ _ _ _ _ _ _
      | exact ih4 _ _ _ _ _ _
      | exact ih5 _ _ _ _ _ _ _ _ _ _
      | exact object_Inner.mono _ _ _ _
      | exact platenlaw20_inner.mono _
      | exact platenref03_Bare.mono _ _
      | exact platenref03_Of.mono _ _ _
      | exact platenref03_Spans.mono _ _
      | exact platenref03_Whole.mono _ _ _ _
      | exact LeO.none _
      | refine LeO.ite ?_ ?_
      | refine LeO.bind ?_ (fun _ => ?_)
    · intro y0 y1 y2 y3 y4 y5 y6 y7 y8
      unfold platenlaw20_ObjectParagraphs.j4
      repeat' first
      | (with_reducible exact ih0 _ _ _ _)
      | (with_reducible exact ih1 _ _ _ _ _ _ _)
      | (with_reducible exact ih2 _ _ _ _ _ _ _ _ _ _)
      | (with_reducible exact ih3 _ _ _ _ _ _ _ _ _)
      | (with_reducible exact ih4 _ _ _ _ _ _)
      | (with_reducible exact ih5 _ _ _ _ _ _ _ _ _ _)
      | (with_reducible exact object_Inner.mono _ _ _ _)
      | (with_reducible exact platenlaw20_inner.mono _)
      | (with_reducible exact platenref03_Bare.mono _ _)
      | (with_reducible exact platenref03_Of.mono _ _ _)
      | (with_reducible exact platenref03_Spans.mono _ _)
      | (with_reducible exact platenref03_Whole.mono _ _ _ _)
      | (with_reducible exact LeO.refl _)
      | (with_reducible exact LeO.none _)
      | (with_reducible refine LeO.ite ?_ ?_)
      | (with_reducible refine LeO.bind ?_ (fun _ => ?_))
      | exact ih0 _ _ _ _
      | exact ih1 _ _ _ _ _ _ _
      | exact ih2 _ _ _ _ _ _ _ _ _ _
      | exact ih3 _ _ _ _ _ _ _ _ _
      | exact ih4 _ _ _ _ _ _
      | exact ih5 _ _ _ _ _ _ _ _ _ _
      | exact object_Inner.mono _ _ _ _
      | exact platenlaw20_inner.mono _
      | exact platenref03_Bare.mono _ _
      | exact platenref03_Of.mono _ _ _
      | exact platenref03_Spans.mono _ _
      | exact platenref03_Whole.mono _ _ _ _
      | exact LeO.none _
      | refine LeO.ite ?_ ?_
      | refine LeO.bind ?_ (fun _ => ?_)
    · intro y0 y1 y2 y3 y4 y5
      unfold platenlaw20_ObjectParagraphs.j5
      repeat' first
      | (with_reducible exact ih0 _ _ _ _)
      | (with_reducible exact ih1 _ _ _ _ _ _ _)
      | (with_reducible exact ih2 _ _ _ _ _ _ _ _ _ _)
      | (with_reducible exact ih3 _ _ _ _ _ _ _ _ _)
      | (with_reducible exact ih4 _ _ _ _ _ _)
      | (with_reducible exact ih5 _ _ _ _ _ _ _ _ _ _)
      | (with_reducible exact object_Inner.mono _ _ _ _)
      | (with_reducible exact platenlaw20_inner.mono _)
      | (with_reducible exact platenref03_Bare.mono _ _)
      | (with_reducible exact platenref03_Of.mono _ _ _)
      | (with_reducible exact platenref03_Spans.mono _ _)
      | (with_reducible exact platenref03_Whole.mono _ _ _ _)
      | (with_reducible exact LeO.refl _)
      | (with_reducible exact LeO.none _)
      | (with_reducible refine LeO.ite ?_ ?_)
      | (with_reducible refine LeO.bind ?_ (fun _ => ?_))
      | exact ih0 _ _ _ _
      | exact ih1 _ _ _ _ _ _ _
      | exact ih2 _ _ _ _ _ _ _ _ _ _
      | exact ih3 _ _ _ _ _ _ _ _ _
      | exact ih4 _ _ _ _ _ _
      | exact ih5 _ _ _ _ _ _ _ _ _ _
      | exact object_Inner.mono _ _ _ _
      | exact platenlaw20_inner.mono _
      | exact platenref03_Bare.mono _ _
      | exact platenref03_Of.mono _ _ _
      | exact platenref03_Spans.mono _ _
      | exact platenref03_Whole.mono _ _ _ _
      | exact LeO.none _
      | refine LeO.ite ?_ ?_
      | refine LeO.bind ?_ (fun _ => ?_)
    · intro y0 y1 y2 y3 y4 y5 y6 y7 y8 y9
      unfold platenlaw20_ObjectParagraphs.l0
      repeat' first
      | (with_reducible exact ih0 _ _ _ _)
      | (with_reducible exact ih1 _ _ _ _ _ _ _)
      | (with_reducible exact ih2 _ _ _ _ _ _ _ _ _ _)
      | (with_reducible exact ih3 _ _ _ _ _ _ _ _ _)
      | (with_reducible exact ih4 _ _ _ _ _ _)
      | (with_reducible exact ih5 _ _ _ _ _ _ _ _ _ _)
      | (with_reducible exact object_Inner.mono _ _ _ _)
      | (with_reducible exact platenlaw20_inner.mono _)
      | (with_reducible exact platenref03_Bare.mono _ _)
      | (with_reducible exact platenref03_Of.mono _ _ _)
      | (with_reducible exact platenref03_Spans.mono _ _)
      | (with_reducible exact platenref03_Whole.mono _ _ _ _)
      | (with_reducible exact LeO.refl _)
      | (with_reducible exact LeO.none _)
      | (with_reducible refine LeO.ite ?_ ?_)
      | (with_reducible refine LeO.bind ?_ (fun _ => ?_))
      | exact ih0 _ _ _ _
      | exact ih1 _ _ _ _ _ _ _
      | exact ih2 _ _ _ _ _ _ _ _ _ _
      | exact ih3 _ _ _ _ _ _ _ _ _
      | exact ih4 _ _ _ _ _ _
      | exact ih5 _ _ _ _ _ _ _ _ _ _
      | exact object_Inner.mono _ _ _ _
      | exact platenlaw20_inner.mono _
      | exact platenref03_Bare.mono _ _
      | exact platenref03_Of.mono _ _ _
      | exact platenref03_Spans.mono _ _
      | exact platenref03_Whole.mono _ _ _ _
      | exact LeO.none _
      | refine LeO.ite ?_ ?_
      | refine LeO.bind ?_ (fun _ => ?_)
theorem platenlaw20_ObjectParagraphs.mono : ∀ a0 a1 a2 k, LeO (platenlaw20_ObjectParagraphs.f k a0 a1 a2) (platenlaw20_ObjectParagraphs.f (k + 1) a0 a1 a2) := by
  intro a0 a1 a2 k
  obtain ⟨ih0, ih1, ih2, ih3, ih4, ih5⟩ := platenlaw20_ObjectParagraphs.mono_l k
  unfold platenlaw20_ObjectParagraphs.f
  repeat' first
      | (with_reducible exact ih0 _ _ _ _)
      | (with_reducible exact ih1 _ _ _ _ _ _ _)
      | (with_reducible exact ih2 _ _ _ _ _ _ _ _ _ _)
      | (with_reducible exact ih3 _ _ _ _ _ _ _ _ _)
      | (with_reducible exact ih4 _ _ _ _ _ _)
      | (with_reducible exact ih5 _ _ _ _ _ _ _ _ _ _)
      | (with_reducible exact object_Inner.mono _ _ _ _)
      | (with_reducible exact platenlaw20_inner.mono _)
      | (with_reducible exact platenref03_Bare.mono _ _)
      | (with_reducible exact platenref03_Of.mono _ _ _)
      | (with_reducible exact platenref03_Spans.mono _ _)
      | (with_reducible exact platenref03_Whole.mono _ _ _ _)
      | (with_reducible exact LeO.refl _)
      | (with_reducible exact LeO.none _)
      | (with_reducible refine LeO.ite ?_ ?_)
      | (with_reducible refine LeO.bind ?_ (fun _ => ?_))
      | exact ih0 _ _ _ _
      | exact ih1 _ _ _ _ _ _ _
      | exact ih2 _ _ _ _ _ _ _ _ _ _
      | exact ih3 _ _ _ _ _ _ _ _ _
      | exact ih4 _ _ _ _ _ _
      | exact ih5 _ _ _ _ _ _ _ _ _ _
      | exact object_Inner.mono _ _ _ _
      | exact platenlaw20_inner.mono _
      | exact platenref03_Bare.mono _ _
      | exact platenref03_Of.mono _ _ _
      | exact platenref03_Spans.mono _ _
      | exact platenref03_Whole.mono _ _ _ _
      | exact LeO.none _
      | refine LeO.ite ?_ ?_
      | refine LeO.bind ?_ (fun _ => ?_)
def platenlaw20_ObjectParagraphs.T20 : Bool × List (List Nat × List Nat) := (true, [([], []), ([], []), ([1], [1]), ([2], [2]), ([], []), ([4], [4]), ([], []), ([6], [6]), ([7], [7]), ([5, 8], [5, 8]), ([3, 9], [3, 9]), ([0, 10], [0, 10]), ([11], [11]), ([12], [12]), ([12], [12]), ([], []), ([15, 13, 11, 0, 1, 2, 3, 4, 5, 6, 7, 8, 9, 10, 11, 12, 13, 15], [13, 15]), ([14, 16, 0, 1, 2, 3, 4, 5, 6, 7, 8, 9, 10, 11, 12, 13, 14, 15, 16], [14])])
def platenlaw20_ObjectParagraphs.B20 : List Nat := [0, 0, 2, 6, 0, 16, 0, 64, 192, 496, 1022, 2047, 4095, 8191, 8191, 0, 49151, 131071]
theorem platenlaw20_ObjectParagraphs.tab20 : rtab .any (opsOf Try.f6 20) = platenlaw20_ObjectParagraphs.T20 := by kernel_rfl
theorem platenlaw20_ObjectParagraphs.bits20 : waitsOk platenlaw20_ObjectParagraphs.T20.2 platenlaw20_ObjectParagraphs.B20 = true := by kernel_rfl
set_option maxHeartbeats 8000000 in
set_option maxRecDepth 100000 in
theorem platenlaw20_ObjectParagraphs.calls (k : Nat) (A0 : Option Addr) (c0 : Nat) (l0 : List Int) (a1 : Int) (a2 : Int) (r : Bool) (w : World) (hr0 : Kd.C (Kd.int .u8) w A0 l0.length l0) (hc0 : l0.length ≤ c0) (h : platenlaw20_ObjectParagraphs.f k l0 a1 a2 = some r) :
    Calls Try.prog 6 #[.slice A0 l0.length c0, .int .u8 a1, .int .u8 a2] w fun e w' => e = .returned (.bool r) ∧ Below w.heap.size w w' := by
  have hu27 := Try.underlying27
  have hu25 := Try.underlying25
  have HR0 := Aside0.mk hr0
  have HC0 := Aside0.mk hc0
  clear hr0 hc0
  have HB := Aside0.mk (Below.refl w.heap.size w)
  have H : ((platenlaw20_inner.f k).bind fun t369 => (if t369 = true then (platenlaw20_ObjectParagraphs.j0 k l0 a1 a2 (decide ((l0.length : Int) > 200))) else (platenlaw20_ObjectParagraphs.j0 k l0 a1 a2 true))) = some r := h
  clear h
  have HC4 := Aside0.mk H
  clear H
  go_enter Try.func6, Try.ntmps6
  go_upto_region 1 with (fail)
  go_cut [25] (fun v25 wc => ∃ (kq : Nat) (x25_3 : Bool), v25 = .bool x25_3 ∧ Aside0 (platenlaw20_ObjectParagraphs.j0 kq l0 a1 a2 x25_3 = some r) ∧ Aside0 (kq ≤ k) ∧ Aside0 (Below w.heap.size w wc))
  case first =>
    have H := HC4.out
    clear HC4
    replace H := Option.bind_eq_some_iff.mp H
    obtain ⟨t369, A50, H⟩ := H
    replace H : (if t369 = true then (platenlaw20_ObjectParagraphs.j0 k l0 a1 a2 (decide ((l0.length : Int) > 200))) else (platenlaw20_ObjectParagraphs.j0 k l0 a1 a2 true)) = some r := H
    have A5 := Aside0.mk A50
    clear A50
    by_cases c6 : t369 = true
    · subst c6
      have H1 : (platenlaw20_ObjectParagraphs.j0 k l0 a1 a2 (decide ((l0.length : Int) > 200))) = some r := by rw [if_pos rfl] at H; exact H
      clear H
      have H := H1
      clear H1
      have H' := Aside0.mk H
      clear H
      go_wp2_with (first | ((with_reducible refine gate_callee (f := 9) rfl ?_); refine goesL_ (some 19) rfl rfl Try.func9 (by kernel_rfl) rfl #[] rfl (by (try simp only [List.map_toArray, List.map_cons, List.map_nil]); first | done | rfl | (simp only [List.length_drop, List.length_take]; rfl)) ?_; (with_reducible refine (platenlaw20_inner.calls k  true _ A5.out).mono ?_); rintro e w7 ⟨rfl, hb⟩; refine ⟨_, rfl, ?_⟩; have n0_ := Aside0.mk (below_step (by repeat (first | (with_reducible first | exact HB.out | apply below_alloc | apply pw_below_drewN | apply below_drew1) | exact HB.out)) hb); clear HB; have HB := n0_; clear n0_; (try clear hb); (try clear hb2); (try clear hk); (try clear hi)))
      go_meet
      case rel => exact ⟨_, (decide ((l0.length : Int) > 200)), (by first | rfl | (simp; done) | (simp [*]; done)), H', ⟨by first | omega | exact Nat.le_refl _⟩, ⟨by repeat (first | (with_reducible first | exact HB.out | apply below_alloc | apply pw_below_drewN | apply below_drew1) | exact HB.out)⟩⟩
    · replace c6 := Bool.eq_false_iff.mpr c6
      subst c6
      have H1 : (platenlaw20_ObjectParagraphs.j0 k l0 a1 a2 true) = some r := by rw [if_neg (show ¬ (false = true) by decide)] at H; exact H
      clear H
      have H := H1
      clear H1
      have H' := Aside0.mk H
      clear H
      go_wp2_with (first | ((with_reducible refine gate_callee (f := 9) rfl ?_); refine goesL_ (some 19) rfl rfl Try.func9 (by kernel_rfl) rfl #[] rfl (by (try simp only [List.map_toArray, List.map_cons, List.map_nil]); first | done | rfl | (simp only [List.length_drop, List.length_take]; rfl)) ?_; (with_reducible refine (platenlaw20_inner.calls k  false _ A5.out).mono ?_); rintro e w8 ⟨rfl, hb⟩; refine ⟨_, rfl, ?_⟩; have n0_ := Aside0.mk (below_step (by repeat (first | (with_reducible first | exact HB.out | apply below_alloc | apply pw_below_drewN | apply below_drew1) | exact HB.out)) hb); clear HB; have HB := n0_; clear n0_; (try clear hb); (try clear hb2); (try clear hk); (try clear hi)))
      go_meet
      case rel => exact ⟨_, (true), (by first | rfl | (simp; done) | (simp [*]; done)), H', ⟨by first | omega | exact Nat.le_refl _⟩, ⟨by repeat (first | (with_reducible first | exact HB.out | apply below_alloc | apply pw_below_drewN | apply below_drew1) | exact HB.out)⟩⟩
  case rest => as_aux_lemma =>
    clear HC4
    try clear p2
    try clear c6
    obtain ⟨kq, x25_3, rfl, HA, HJ3, HB⟩ := hcut
    cases kq with
    | zero => exact absurd HA.out (by simp [platenlaw20_ObjectParagraphs.j0])
    | succ kj3 =>
      have H := HA.out
      clear HA
      simp only [platenlaw20_ObjectParagraphs.j0] at H
      by_cases c9 : x25_3 = true
      · subst c9
        have H1 : ((platenlaw20_inner.f kj3).bind fun t370 => (some t370)) = some r := by rw [if_pos rfl] at H; exact H
        clear H
        have H := H1
        clear H1
        replace H := Option.bind_eq_some_iff.mp H
        obtain ⟨t370, A100, H⟩ := H
        replace H : (some t370) = some r := H
        have A10 := Aside0.mk A100
        clear A100
        obtain rfl := Option.some.inj H
        go_wp2_with (first | ((with_reducible refine gate_callee (f := 9) rfl ?_); refine goesL_ (some 26) rfl rfl Try.func9 (by kernel_rfl) rfl #[] rfl (by (try simp only [List.map_toArray, List.map_cons, List.map_nil]); first | done | rfl | (simp only [List.length_drop, List.length_take]; rfl)) ?_; (with_reducible refine (platenlaw20_inner.calls kj3  t370 _ A10.out).mono ?_); rintro e w11 ⟨rfl, hb⟩; refine ⟨_, rfl, ?_⟩; have n0_ := Aside0.mk (below_step (by repeat (first | (with_reducible first | exact HB.out | apply below_alloc | apply pw_below_drewN | apply below_drew1) | exact HB.out)) hb); clear HB; have HB := n0_; clear n0_; (try clear hb); (try clear hb2); (try clear hk); (try clear hi)))
        go_ret
        exact ⟨by first | rfl | (simp [errW_none, errW_some] <;> rfl) | (simp [*, errW_none, errW_some] <;> rfl), by repeat (first | (with_reducible first | exact HB.out | apply below_alloc | apply pw_below_drewN | apply below_drew1) | exact HB.out)⟩
      · replace c9 := Bool.eq_false_iff.mpr c9
        subst c9
        have H1 : ((platenlaw20_place.f l0 a1).bind fun t371 => ((object_Inner.f kj3 l0 t371 112).bind fun bt372 => (if bt372.2.2.2 = 0 then (if bt372.2.2.1 = true then (if bt372.1 < 0 then (platenlaw20_ObjectParagraphs.j1 kj3 l0 a2 t371 true bt372.1 bt372.2.1 bt372.2.2.1) else (if bt372.2.1 < 0 then (platenlaw20_ObjectParagraphs.j1 kj3 l0 a2 t371 true bt372.1 bt372.2.1 bt372.2.2.1) else (platenlaw20_ObjectParagraphs.j1 kj3 l0 a2 t371 (decide (bt372.2.1 > (wrap64 ((l0.length : Int) - bt372.1)))) bt372.1 bt372.2.1 bt372.2.2.1))) else (platenlaw20_ObjectParagraphs.j1 kj3 l0 a2 t371 true bt372.1 bt372.2.1 bt372.2.2.1)) else (platenlaw20_ObjectParagraphs.j1 kj3 l0 a2 t371 true bt372.1 bt372.2.1 bt372.2.2.1)))) = some r := by rw [if_neg (show ¬ (false = true) by decide)] at H; exact H
        clear H
        have H := H1
        clear H1
        replace H := Option.bind_eq_some_iff.mp H
        obtain ⟨t371, A120, H⟩ := H
        replace H : ((object_Inner.f kj3 l0 t371 112).bind fun bt372 => (if bt372.2.2.2 = 0 then (if bt372.2.2.1 = true then (if bt372.1 < 0 then (platenlaw20_ObjectParagraphs.j1 kj3 l0 a2 t371 true bt372.1 bt372.2.1 bt372.2.2.1) else (if bt372.2.1 < 0 then (platenlaw20_ObjectParagraphs.j1 kj3 l0 a2 t371 true bt372.1 bt372.2.1 bt372.2.2.1) else (platenlaw20_ObjectParagraphs.j1 kj3 l0 a2 t371 (decide (bt372.2.1 > (wrap64 ((l0.length : Int) - bt372.1)))) bt372.1 bt372.2.1 bt372.2.2.1))) else (platenlaw20_ObjectParagraphs.j1 kj3 l0 a2 t371 true bt372.1 bt372.2.1 bt372.2.2.1)) else (platenlaw20_ObjectParagraphs.j1 kj3 l0 a2 t371 true bt372.1 bt372.2.1 bt372.2.2.1))) = some r := H
        have A12 := Aside0.mk A120
        clear A120
        replace H := Option.bind_eq_some_iff.mp H
        obtain ⟨⟨t372, t373, t374, t375⟩, A130, H⟩ := H
        replace H : (if t375 = 0 then (if t374 = true then (if t372 < 0 then (platenlaw20_ObjectParagraphs.j1 kj3 l0 a2 t371 true t372 t373 t374) else (if t373 < 0 then (platenlaw20_ObjectParagraphs.j1 kj3 l0 a2 t371 true t372 t373 t374) else (platenlaw20_ObjectParagraphs.j1 kj3 l0 a2 t371 (decide (t373 > (wrap64 ((l0.length : Int) - t372)))) t372 t373 t374))) else (platenlaw20_ObjectParagraphs.j1 kj3 l0 a2 t371 true t372 t373 t374)) else (platenlaw20_ObjectParagraphs.j1 kj3 l0 a2 t371 true t372 t373 t374)) = some r := H
        have A13 := Aside0.mk A130
        clear A130
        have HC14 := Aside0.mk H
        clear H
        go_upto_region 5 with (first | ((with_reducible refine gate_callee (f := 14) rfl ?_); refine goesL_ (some 29) rfl rfl Try.func14 (by kernel_rfl) rfl #[.slice A0 l0.length c0, .int .u8 a1] rfl (by (try simp only [List.map_toArray, List.map_cons, List.map_nil]); first | done | rfl | (simp only [List.length_drop, List.length_take]; rfl)) ?_; (with_reducible refine (platenlaw20_place.calls _ _ l0 a1 t371 _ ?side1 ?side2 A12.out).mono ?_); (case side1 => repeat (first | exact (Kd.C_below HR0.out HB.out) | (with_reducible refine Kd.C_alloc ?_ _) | (with_reducible refine Kd.C_drewN ?_ _) | (with_reducible refine Kd.C_drew ?_))); (case side2 => exact HC0.out); rintro e w' ⟨rfl, ⟨nd, rfl⟩⟩; refine ⟨_, rfl, ?_⟩; (try (rw [drewN_self wc]; generalize hq_ : World.drewN wc _ = wc; have n0_ : Aside0 (Below w.heap.size w wc) := ⟨by rw [← hq_]; exact (by repeat (first | (with_reducible first | exact HB.out | apply below_alloc | apply pw_below_drewN | apply below_drew1) | exact HB.out))⟩; clear HB hq_; have HB := n0_; clear n0_))) | ((with_reducible refine gate_callee (f := 13) rfl ?_); refine goesL_ (some 33) rfl rfl Try.func13 (by kernel_rfl) rfl #[.slice A0 l0.length c0, .int .i64 t371, .int .u8 112] rfl (by (try simp only [List.map_toArray, List.map_cons, List.map_nil]); first | done | rfl | (simp only [List.length_drop, List.length_take]; rfl)) ?_; (with_reducible refine (object_Inner.calls kj3 _ _ l0 t371 112 t372 t373 t374 t375 _ ?side1 ?side2 A13.out).mono ?_); (case side1 => repeat (first | exact (Kd.C_below HR0.out HB.out) | (with_reducible refine Kd.C_alloc ?_ _) | (with_reducible refine Kd.C_drewN ?_ _) | (with_reducible refine Kd.C_drew ?_))); (case side2 => exact HC0.out); rintro e w15 ⟨rfl, hb⟩; refine ⟨_, rfl, ?_⟩; have n0_ := Aside0.mk (below_step (by repeat (first | (with_reducible first | exact HB.out | apply below_alloc | apply pw_below_drewN | apply below_drew1) | exact HB.out)) hb); clear HB; have HB := n0_; clear n0_; (try clear hb); (try clear hb2); (try clear hk); (try clear hi)) | ((with_reducible refine gate_dst (N := 8) rfl ?_); (try (refine gate_guard (by rfl) ?_; dsimp only)); refine box_event ?hg (N := 8) ?hd (cs := #[.int .i64 0, .int .i64 0, .bool false]) (t := 27) ?hr ?_; (case hd => rfl); (case hg => rfl); (case hr => first | (go_simp; done) | (go_simp; rfl)); intro gb376 hg w16 hbox hb; have n0_ := Aside0.mk (below_step (by repeat (first | (with_reducible first | exact HB.out | apply below_alloc | apply pw_below_drewN | apply below_drew1) | exact HB.out)) hb); have n1_ := Aside0.mk (hbox); have n2_ := Aside0.mk ((by rw [hg]; exact (below_size (by repeat (first | (with_reducible first | exact HB.out | apply below_alloc | apply pw_below_drewN | apply below_drew1) | exact HB.out))) : w.heap.size ≤ gb376)); have n3_ := Aside0.mk ((by rw [hg]; exact (below_size (by repeat (first | (with_reducible first | exact HB.out | apply below_alloc | apply pw_below_drewN | apply below_drew1) | exact HB.out))) : w.heap.size ≤ gb376)); clear HB; have HB := n0_; have BK376 := n1_; have GW376 := n2_; have GE376 := n3_; clear n0_ n1_ n2_ n3_; clear hb hbox hg; have hcz17_0 : w16.cell? ⟨gb376, 0, none⟩ = some (.int .i64 0) := (blk_cell BK376.out 0).trans rfl; have hcz17_1 : w16.cell? ⟨gb376, 1, none⟩ = some (.int .i64 0) := (blk_cell BK376.out 1).trans rfl; have hcz17_2 : w16.cell? ⟨gb376, 2, none⟩ = some (.bool false) := (blk_cell BK376.out 2).trans rfl; have hfz17_0 := blk_frozen BK376.out 0; have hfz17_1 := blk_frozen BK376.out 1; have hfz17_2 := blk_frozen BK376.out 2))
        (try simp only [Act.put, List.setIfInBounds_toArray, List.set_cons_zero, List.set_cons_succ])
        go_cut [66] (fun v66 wc => ∃ (kq : Nat) (x66_13 : Bool), v66 = .bool x66_13 ∧ Aside0 (platenlaw20_ObjectParagraphs.j1 kq l0 a2 t371 x66_13 t372 t373 t374 = some r) ∧ Aside0 (kq ≤ kj3) ∧ Aside0 (wc.heap[gb376]? = some (.cells #[.int .i64 t372, .int .i64 t373, .bool t374] 27 (0, 0))) ∧ Aside0 (Below w.heap.size w wc))
        case first =>
          have H := HC14.out
          clear HC14
          by_cases c18 : t375 = 0
          · rw [if_pos c18] at H
            have c18b0 : (t375 == 0) = true := beq_iff_eq.mpr c18
            have c18b1 : (t375 != 0) = false := bne_eq_false_iff_eq.mpr c18
            clear c18
            (first | rw [c18b0] | (simp only [i64_w, i32_w]; rw [c18b0]) | skip)
            by_cases c19 : t374 = true
            · subst c19
              have H1 : (if t372 < 0 then (platenlaw20_ObjectParagraphs.j1 kj3 l0 a2 t371 true t372 t373 true) else (if t373 < 0 then (platenlaw20_ObjectParagraphs.j1 kj3 l0 a2 t371 true t372 t373 true) else (platenlaw20_ObjectParagraphs.j1 kj3 l0 a2 t371 (decide (t373 > (wrap64 ((l0.length : Int) - t372)))) t372 t373 true))) = some r := by rw [if_pos rfl] at H; exact H
              clear H
              have H := H1
              clear H1
              by_cases c20 : t372 < 0
              · rw [if_pos c20] at H
                have c20b0 : decide (t372 < 0) = true := decide_eq_true c20
                clear c20
                have H' := Aside0.mk H
                clear H
                have hcz21_0 : w16.cell? ⟨gb376, 0, none⟩ = some (.int .i64 0) := (blk_cell BK376.out 0).trans rfl
                have hcz21_1 : w16.cell? ⟨gb376, 1, none⟩ = some (.int .i64 0) := (blk_cell BK376.out 1).trans rfl
                have hcz21_2 : w16.cell? ⟨gb376, 2, none⟩ = some (.bool false) := (blk_cell BK376.out 2).trans rfl
                have hfz21_0 := blk_frozen BK376.out 0
                have hfz21_1 := blk_frozen BK376.out 1
                have hfz21_2 := blk_frozen BK376.out 2
                go_wp2
                go_meet
                case rel => exact ⟨_, (true), (by first | rfl | (simp; done) | (simp [*]; done)), H', ⟨by have := HJ3.out; first | omega | exact Nat.le_refl _⟩, ⟨by (with_reducible repeat (first | refine blk_drewN ?_ _ | refine blk_drew ?_ | refine blk_alloc ?_ _)); refine blk_put (cs := #[.int .i64 t372, .int .i64 t373, .bool false]) ?_ 2 _ rfl; (with_reducible repeat (first | refine blk_drewN ?_ _ | refine blk_drew ?_ | refine blk_alloc ?_ _)); refine blk_put (cs := #[.int .i64 t372, .int .i64 0, .bool false]) ?_ 1 _ rfl; (with_reducible repeat (first | refine blk_drewN ?_ _ | refine blk_drew ?_ | refine blk_alloc ?_ _)); refine blk_put (cs := #[.int .i64 0, .int .i64 0, .bool false]) ?_ 0 _ rfl; (with_reducible repeat (first | refine blk_drewN ?_ _ | refine blk_drew ?_ | refine blk_alloc ?_ _)); exact BK376.out⟩, ⟨by repeat (first | (with_reducible first | exact HB.out | apply below_alloc | apply pw_below_drewN | apply below_drew1 | refine below_set ?_ GE376.out) | exact HB.out)⟩⟩
              · rw [if_neg c20] at H
                have c20b0 : decide (t372 < 0) = false := decide_eq_false c20
                clear c20
                by_cases c22 : t373 < 0
                · rw [if_pos c22] at H
                  have c22b0 : decide (t373 < 0) = true := decide_eq_true c22
                  clear c22
                  have H' := Aside0.mk H
                  clear H
                  have hcz23_0 : w16.cell? ⟨gb376, 0, none⟩ = some (.int .i64 0) := (blk_cell BK376.out 0).trans rfl
                  have hcz23_1 : w16.cell? ⟨gb376, 1, none⟩ = some (.int .i64 0) := (blk_cell BK376.out 1).trans rfl
                  have hcz23_2 : w16.cell? ⟨gb376, 2, none⟩ = some (.bool false) := (blk_cell BK376.out 2).trans rfl
                  have hfz23_0 := blk_frozen BK376.out 0
                  have hfz23_1 := blk_frozen BK376.out 1
                  have hfz23_2 := blk_frozen BK376.out 2
                  go_wp2
                  go_meet
                  case rel => exact ⟨_, (true), (by first | rfl | (simp; done) | (simp [*]; done)), H', ⟨by have := HJ3.out; first | omega | exact Nat.le_refl _⟩, ⟨by (with_reducible repeat (first | refine blk_drewN ?_ _ | refine blk_drew ?_ | refine blk_alloc ?_ _)); refine blk_put (cs := #[.int .i64 t372, .int .i64 t373, .bool false]) ?_ 2 _ rfl; (with_reducible repeat (first | refine blk_drewN ?_ _ | refine blk_drew ?_ | refine blk_alloc ?_ _)); refine blk_put (cs := #[.int .i64 t372, .int .i64 0, .bool false]) ?_ 1 _ rfl; (with_reducible repeat (first | refine blk_drewN ?_ _ | refine blk_drew ?_ | refine blk_alloc ?_ _)); refine blk_put (cs := #[.int .i64 0, .int .i64 0, .bool false]) ?_ 0 _ rfl; (with_reducible repeat (first | refine blk_drewN ?_ _ | refine blk_drew ?_ | refine blk_alloc ?_ _)); exact BK376.out⟩, ⟨by repeat (first | (with_reducible first | exact HB.out | apply below_alloc | apply pw_below_drewN | apply below_drew1 | refine below_set ?_ GE376.out) | exact HB.out)⟩⟩
                · rw [if_neg c22] at H
                  have c22b0 : decide (t373 < 0) = false := decide_eq_false c22
                  clear c22
                  have H' := Aside0.mk H
                  clear H
                  have hcz24_0 : w16.cell? ⟨gb376, 0, none⟩ = some (.int .i64 0) := (blk_cell BK376.out 0).trans rfl
                  have hcz24_1 : w16.cell? ⟨gb376, 1, none⟩ = some (.int .i64 0) := (blk_cell BK376.out 1).trans rfl
                  have hcz24_2 : w16.cell? ⟨gb376, 2, none⟩ = some (.bool false) := (blk_cell BK376.out 2).trans rfl
                  have hfz24_0 := blk_frozen BK376.out 0
                  have hfz24_1 := blk_frozen BK376.out 1
                  have hfz24_2 := blk_frozen BK376.out 2
                  go_wp2
                  go_meet
                  case rel => exact ⟨_, (decide (t373 > (wrap64 ((l0.length : Int) - t372)))), (by first | rfl | (simp; done) | (simp [*]; done)), H', ⟨by have := HJ3.out; first | omega | exact Nat.le_refl _⟩, ⟨by (with_reducible repeat (first | refine blk_drewN ?_ _ | refine blk_drew ?_ | refine blk_alloc ?_ _)); refine blk_put (cs := #[.int .i64 t372, .int .i64 t373, .bool false]) ?_ 2 _ rfl; (with_reducible repeat (first | refine blk_drewN ?_ _ | refine blk_drew ?_ | refine blk_alloc ?_ _)); refine blk_put (cs := #[.int .i64 t372, .int .i64 0, .bool false]) ?_ 1 _ rfl; (with_reducible repeat (first | refine blk_drewN ?_ _ | refine blk_drew ?_ | refine blk_alloc ?_ _)); refine blk_put (cs := #[.int .i64 0, .int .i64 0, .bool false]) ?_ 0 _ rfl; (with_reducible repeat (first | refine blk_drewN ?_ _ | refine blk_drew ?_ | refine blk_alloc ?_ _)); exact BK376.out⟩, ⟨by repeat (first | (with_reducible first | exact HB.out | apply below_alloc | apply pw_below_drewN | apply below_drew1 | refine below_set ?_ GE376.out) | exact HB.out)⟩⟩
            · replace c19 := Bool.eq_false_iff.mpr c19
              subst c19
              have H1 : (platenlaw20_ObjectParagraphs.j1 kj3 l0 a2 t371 true t372 t373 false) = some r := by rw [if_neg (show ¬ (false = true) by decide)] at H; exact H
              clear H
              have H := H1
              clear H1
              have H' := Aside0.mk H
              clear H
              have hcz25_0 : w16.cell? ⟨gb376, 0, none⟩ = some (.int .i64 0) := (blk_cell BK376.out 0).trans rfl
              have hcz25_1 : w16.cell? ⟨gb376, 1, none⟩ = some (.int .i64 0) := (blk_cell BK376.out 1).trans rfl
              have hcz25_2 : w16.cell? ⟨gb376, 2, none⟩ = some (.bool false) := (blk_cell BK376.out 2).trans rfl
              have hfz25_0 := blk_frozen BK376.out 0
              have hfz25_1 := blk_frozen BK376.out 1
              have hfz25_2 := blk_frozen BK376.out 2
              go_wp2
              go_meet
              case rel => exact ⟨_, (true), (by first | rfl | (simp; done) | (simp [*]; done)), H', ⟨by have := HJ3.out; first | omega | exact Nat.le_refl _⟩, ⟨by (with_reducible repeat (first | refine blk_drewN ?_ _ | refine blk_drew ?_ | refine blk_alloc ?_ _)); refine blk_put (cs := #[.int .i64 t372, .int .i64 t373, .bool false]) ?_ 2 _ rfl; (with_reducible repeat (first | refine blk_drewN ?_ _ | refine blk_drew ?_ | refine blk_alloc ?_ _)); refine blk_put (cs := #[.int .i64 t372, .int .i64 0, .bool false]) ?_ 1 _ rfl; (with_reducible repeat (first | refine blk_drewN ?_ _ | refine blk_drew ?_ | refine blk_alloc ?_ _)); refine blk_put (cs := #[.int .i64 0, .int .i64 0, .bool false]) ?_ 0 _ rfl; (with_reducible repeat (first | refine blk_drewN ?_ _ | refine blk_drew ?_ | refine blk_alloc ?_ _)); exact BK376.out⟩, ⟨by repeat (first | (with_reducible first | exact HB.out | apply below_alloc | apply pw_below_drewN | apply below_drew1 | refine below_set ?_ GE376.out) | exact HB.out)⟩⟩
          · rw [if_neg c18] at H
            have c18b0 : (t375 == 0) = false := beq_eq_false_iff_ne.mpr c18
            have c18b1 : (t375 != 0) = true := bne_iff_ne.mpr c18
            (first | rw [c18b0] | (simp only [i64_w, i32_w]; rw [c18b0]) | skip)
            have H' := Aside0.mk H
            clear H
            go_wp2
            go_meet
            case rel => exact ⟨_, (true), (by first | rfl | (simp; done) | (simp [*]; done)), H', ⟨by have := HJ3.out; first | omega | exact Nat.le_refl _⟩, ⟨by (with_reducible repeat (first | refine blk_drewN ?_ _ | refine blk_drew ?_ | refine blk_alloc ?_ _)); refine blk_put (cs := #[.int .i64 t372, .int .i64 t373, .bool false]) ?_ 2 _ rfl; (with_reducible repeat (first | refine blk_drewN ?_ _ | refine blk_drew ?_ | refine blk_alloc ?_ _)); refine blk_put (cs := #[.int .i64 t372, .int .i64 0, .bool false]) ?_ 1 _ rfl; (with_reducible repeat (first | refine blk_drewN ?_ _ | refine blk_drew ?_ | refine blk_alloc ?_ _)); refine blk_put (cs := #[.int .i64 0, .int .i64 0, .bool false]) ?_ 0 _ rfl; (with_reducible repeat (first | refine blk_drewN ?_ _ | refine blk_drew ?_ | refine blk_alloc ?_ _)); exact BK376.out⟩, ⟨by repeat (first | (with_reducible first | exact HB.out | apply below_alloc | apply pw_below_drewN | apply below_drew1 | refine below_set ?_ GE376.out) | exact HB.out)⟩⟩
        case rest => as_aux_lemma =>
          clear HC14
          try clear c1
          try clear c2
          try clear p2
          try clear c6
          try clear p6
          try clear c9
          try clear c13
          try clear c14
          try clear c18
          try clear c18b0
          try clear c18b1
          try clear c19
          try clear c20
          try clear c20b0
          try clear c22
          try clear c22b0
          try clear hcz17_0
          try clear hcz17_1
          try clear hcz17_2
          try clear hcz21_0
          try clear hcz21_1
          try clear hcz21_2
          try clear hcz23_0
          try clear hcz23_1
          try clear hcz23_2
          try clear hcz24_0
          try clear hcz24_1
          try clear hcz24_2
          try clear hcz25_0
          try clear hcz25_1
          try clear hcz25_2
          try clear hfz17_0
          try clear hfz17_1
          try clear hfz17_2
          try clear hfz21_0
          try clear hfz21_1
          try clear hfz21_2
          try clear hfz23_0
          try clear hfz23_1
          try clear hfz23_2
          try clear hfz24_0
          try clear hfz24_1
          try clear hfz24_2
          try clear hfz25_0
          try clear hfz25_1
          try clear hfz25_2
          try clear p2
          obtain ⟨kq, x66_13, rfl, HA, HJ13, BK376, HB⟩ := hcut
          cases kq with
          | zero => exact absurd HA.out (by simp [platenlaw20_ObjectParagraphs.j1])
          | succ kj13 =>
            have H := HA.out
            clear HA
            simp only [platenlaw20_ObjectParagraphs.j1] at H
            by_cases c26 : x66_13 = true
            · subst c26
              have H1 : (some false) = some r := by rw [if_pos rfl] at H; exact H
              clear H
              have H := H1
              clear H1
              obtain rfl := Option.some.inj H
              go_wp2
              go_ret
              exact ⟨by first | rfl | (simp [errW_none, errW_some] <;> rfl) | (simp [*, errW_none, errW_some] <;> rfl), by repeat (first | (with_reducible first | exact HB.out | apply below_alloc | apply pw_below_drewN | apply below_drew1 | refine below_set ?_ GE376.out) | exact HB.out)⟩
            · replace c26 := Bool.eq_false_iff.mpr c26
              subst c26
              have H1 : ((platenref03_Spans.f kj13 l0).bind fun t377 => ((platenref03_Of.f kj13 l0 t372).bind fun t380 => ((platenref03_Of.f kj13 l0 t371).bind fun t381 => (if 0 ≤ t381 then (if t381 < (t377.length : Int) then ((platenref03_Text.f l0 ((rd_T25 t377 t381).f0) ((rd_T25 t377 t381).f1)).bind fun t383 => ((platenref03_Bare.f kj13 t383).bind fun t386 => (platenlaw20_ObjectParagraphs.l0 kj13 l0 a2 t377 t380 t381 t386 t380 t372 t373 t374))) else (none)) else (none))))) = some r := by rw [if_neg (show ¬ (false = true) by decide)] at H; exact H
              clear H
              have H := H1
              clear H1
              replace H := Option.bind_eq_some_iff.mp H
              obtain ⟨t377, A270, H⟩ := H
              replace H : ((platenref03_Of.f kj13 l0 t372).bind fun t380 => ((platenref03_Of.f kj13 l0 t371).bind fun t381 => (if 0 ≤ t381 then (if t381 < (t377.length : Int) then ((platenref03_Text.f l0 ((rd_T25 t377 t381).f0) ((rd_T25 t377 t381).f1)).bind fun t383 => ((platenref03_Bare.f kj13 t383).bind fun t386 => (platenlaw20_ObjectParagraphs.l0 kj13 l0 a2 t377 t380 t381 t386 t380 t372 t373 t374))) else (none)) else (none)))) = some r := H
              have A27 := Aside0.mk A270
              clear A270
              replace H := Option.bind_eq_some_iff.mp H
              obtain ⟨t380, A280, H⟩ := H
              replace H : ((platenref03_Of.f kj13 l0 t371).bind fun t381 => (if 0 ≤ t381 then (if t381 < (t377.length : Int) then ((platenref03_Text.f l0 ((rd_T25 t377 t381).f0) ((rd_T25 t377 t381).f1)).bind fun t383 => ((platenref03_Bare.f kj13 t383).bind fun t386 => (platenlaw20_ObjectParagraphs.l0 kj13 l0 a2 t377 t380 t381 t386 t380 t372 t373 t374))) else (none)) else (none))) = some r := H
              have A28 := Aside0.mk A280
              clear A280
              replace H := Option.bind_eq_some_iff.mp H
              obtain ⟨t381, A290, H⟩ := H
              replace H : (if 0 ≤ t381 then (if t381 < (t377.length : Int) then ((platenref03_Text.f l0 ((rd_T25 t377 t381).f0) ((rd_T25 t377 t381).f1)).bind fun t383 => ((platenref03_Bare.f kj13 t383).bind fun t386 => (platenlaw20_ObjectParagraphs.l0 kj13 l0 a2 t377 t380 t381 t386 t380 t372 t373 t374))) else (none)) else (none)) = some r := H
              have A29 := Aside0.mk A290
              clear A290
              by_cases c30 : 0 ≤ t381
              · rw [if_pos c30] at H
                have c30b0 : decide (0 ≤ t381) = true := decide_eq_true c30
                clear c30
                by_cases c31 : t381 < (t377.length : Int)
                · rw [if_pos c31] at H
                  have c31b0 : decide (t381 < (t377.length : Int)) = true := decide_eq_true c31
                  clear c31
                  replace H := Option.bind_eq_some_iff.mp H
                  obtain ⟨t383, A320, H⟩ := H
                  replace H : ((platenref03_Bare.f kj13 t383).bind fun t386 => (platenlaw20_ObjectParagraphs.l0 kj13 l0 a2 t377 t380 t381 t386 t380 t372 t373 t374)) = some r := H
                  have A32 := Aside0.mk A320
                  clear A320
                  replace H := Option.bind_eq_some_iff.mp H
                  obtain ⟨t386, A330, H⟩ := H
                  replace H : (platenlaw20_ObjectParagraphs.l0 kj13 l0 a2 t377 t380 t381 t386 t380 t372 t373 t374) = some r := H
                  have A33 := Aside0.mk A330
                  clear A330
                  have HC34 := Aside0.mk H
                  clear H
                  go_upto_block 0 with (first | ((with_reducible refine gate_callee (f := 17) rfl ?_); refine goesL_ (some 68) rfl rfl Try.func17 (by kernel_rfl) rfl #[.slice A0 l0.length c0] rfl (by (try simp only [List.map_toArray, List.map_cons, List.map_nil]); first | done | rfl | (simp only [List.length_drop, List.length_take]; rfl)) ?_; (with_reducible refine (platenref03_Spans.calls kj13 _ _ l0 t377 _ ?side1 ?side2 A27.out).mono ?_); (case side1 => repeat (first | exact (Kd.C_below HR0.out HB.out) | (with_reducible refine Kd.C_alloc ?_ _) | (with_reducible refine Kd.C_drewN ?_ _) | (with_reducible refine Kd.C_drew ?_))); (case side2 => exact HC0.out); rintro e w35 ⟨v378, rfl, ho0, hb⟩; refine ⟨_, rfl, ?_⟩; have n0_ := Aside0.mk (Kd.R_lower ho0 (below_size (by repeat (first | (with_reducible first | exact HB.out | apply below_alloc | apply pw_below_drewN | apply below_drew1 | refine below_set ?_ GE376.out) | exact HB.out)))); have n1_ := Aside0.mk (blk_below (g := gb376) (o := .cells #[.int .i64 t372, .int .i64 t373, .bool t374] 27 (0, 0)) (by (with_reducible repeat (first | refine blk_drewN ?_ _ | refine blk_drew ?_ | refine blk_alloc ?_ _)); exact BK376.out) hb); have n2_ := Aside0.mk (below_step (by repeat (first | (with_reducible first | exact HB.out | apply below_alloc | apply pw_below_drewN | apply below_drew1 | refine below_set ?_ GE376.out) | exact HB.out)) hb); clear BK376; clear HB; have HO379 := n0_; have BK376 := n1_; have HB := n2_; clear n0_ n1_ n2_; (try clear hb); (try clear hb2); (try clear hk); (try clear hi); (try clear ho0); have hcz36_0 : w35.cell? ⟨gb376, 0, none⟩ = some (.int .i64 t372) := (blk_cell BK376.out 0).trans rfl; have hcz36_1 : w35.cell? ⟨gb376, 1, none⟩ = some (.int .i64 t373) := (blk_cell BK376.out 1).trans rfl; have hcz36_2 : w35.cell? ⟨gb376, 2, none⟩ = some (.bool t374) := (blk_cell BK376.out 2).trans rfl; have hfz36_0 := blk_frozen BK376.out 0; have hfz36_1 := blk_frozen BK376.out 1; have hfz36_2 := blk_frozen BK376.out 2) | ((with_reducible refine gate_callee (f := 18) rfl ?_); refine goesL_ (some 73) rfl rfl Try.func18 (by kernel_rfl) rfl #[.slice A0 l0.length c0, .int .i64 t372] rfl (by (try simp only [List.map_toArray, List.map_cons, List.map_nil]); first | done | rfl | (simp only [List.length_drop, List.length_take]; rfl)) ?_; (with_reducible refine (platenref03_Of.calls kj13 _ _ l0 t372 t380 _ ?side1 ?side2 A28.out).mono ?_); (case side1 => repeat (first | exact (Kd.C_below HR0.out HB.out) | (with_reducible refine Kd.C_alloc ?_ _) | (with_reducible refine Kd.C_drewN ?_ _) | (with_reducible refine Kd.C_drew ?_))); (case side2 => exact HC0.out); rintro e w37 ⟨rfl, hb⟩; refine ⟨_, rfl, ?_⟩; have n0_ := Aside0.mk (Kd.R_below (by (with_reducible repeat (first | apply Kd.R_alloc | apply Kd.R_drewN | apply Kd.R_drew)); exact HO379.out) hb); have n1_ := Aside0.mk (blk_below (g := gb376) (o := .cells #[.int .i64 t372, .int .i64 t373, .bool t374] 27 (0, 0)) (by (with_reducible repeat (first | refine blk_drewN ?_ _ | refine blk_drew ?_ | refine blk_alloc ?_ _)); exact BK376.out) hb); have n2_ := Aside0.mk (below_step (by repeat (first | (with_reducible first | exact HB.out | apply below_alloc | apply pw_below_drewN | apply below_drew1 | refine below_set ?_ GE376.out) | exact HB.out)) hb); clear HO379; clear BK376; clear HB; have HO379 := n0_; have BK376 := n1_; have HB := n2_; clear n0_ n1_ n2_; (try clear hb); (try clear hb2); (try clear hk); (try clear hi)) | ((with_reducible refine gate_callee (f := 18) rfl ?_); refine goesL_ (some 76) rfl rfl Try.func18 (by kernel_rfl) rfl #[.slice A0 l0.length c0, .int .i64 t371] rfl (by (try simp only [List.map_toArray, List.map_cons, List.map_nil]); first | done | rfl | (simp only [List.length_drop, List.length_take]; rfl)) ?_; (with_reducible refine (platenref03_Of.calls kj13 _ _ l0 t371 t381 _ ?side1 ?side2 A29.out).mono ?_); (case side1 => repeat (first | exact (Kd.C_below HR0.out HB.out) | (with_reducible refine Kd.C_alloc ?_ _) | (with_reducible refine Kd.C_drewN ?_ _) | (with_reducible refine Kd.C_drew ?_))); (case side2 => exact HC0.out); rintro e w38 ⟨rfl, hb⟩; refine ⟨_, rfl, ?_⟩; have n0_ := Aside0.mk (Kd.R_below (by (with_reducible repeat (first | apply Kd.R_alloc | apply Kd.R_drewN | apply Kd.R_drew)); exact HO379.out) hb); have n1_ := Aside0.mk (blk_below (g := gb376) (o := .cells #[.int .i64 t372, .int .i64 t373, .bool t374] 27 (0, 0)) (by (with_reducible repeat (first | refine blk_drewN ?_ _ | refine blk_drew ?_ | refine blk_alloc ?_ _)); exact BK376.out) hb); have n2_ := Aside0.mk (below_step (by repeat (first | (with_reducible first | exact HB.out | apply below_alloc | apply pw_below_drewN | apply below_drew1 | refine below_set ?_ GE376.out) | exact HB.out)) hb); clear HO379; clear BK376; clear HB; have HO379 := n0_; have BK376 := n1_; have HB := n2_; clear n0_ n1_ n2_; (try clear hb); (try clear hb2); (try clear hk); (try clear hi); obtain ⟨Ao39, co39, eo39⟩ := Kd.R_slice HO379.out; subst eo39; have p382 : 0 ≤ (t381 : Int) := of_decide_eq_true (by first | (with_reducible assumption) | assumption); have q382 : t381 < (t377.length : Int) := of_decide_eq_true (by first | (with_reducible assumption) | assumption); obtain ⟨ad382, e382, hx382_0, hx382_1⟩ := at_T25 (Kd.R_reads' HO379.out).2.2 t381 p382 q382; cases e382; replace p382 := eq_true p382; replace q382 := eq_true q382) | ((with_reducible refine gate_callee (f := 20) rfl ?_); refine goesL_ (some 82) rfl rfl Try.func20 (by kernel_rfl) rfl #[.slice A0 l0.length c0, .agg #[.int .i64 ((rd_T25 t377 t381).f0), .int .i64 ((rd_T25 t377 t381).f1)]] rfl (by (try simp only [List.map_toArray, List.map_cons, List.map_nil]); first | done | rfl | (simp only [List.length_drop, List.length_take]; rfl)) ?_; (with_reducible refine (platenref03_Text.calls (fun k_ => k_ < w.heap.size) _ _ l0 ((rd_T25 t377 t381).f0) ((rd_T25 t377 t381).f1) t383 _ ?side1 A32.out).mono ?_); (case side1 => exact Kd.V_mk HC0.out (Kd.F_below (Kd.C_F (Kd.heap_int .u8) HR0.out) (by repeat (first | (with_reducible first | exact HB.out | apply below_alloc | apply pw_below_drewN | apply below_drew1 | refine below_set ?_ GE376.out) | exact HB.out)))); rintro e w40 ⟨v384, rfl, ho0, hb⟩; refine ⟨_, rfl, ?_⟩; have n0_ := Aside0.mk (Kd.R_below (by (with_reducible repeat (first | apply Kd.R_alloc | apply Kd.R_drewN | apply Kd.R_drew)); exact HO379.out) hb); have n1_ := Aside0.mk (Kd.V_lower (Kd.V_mono (ok' := fun k_ => some k_ ≠ (.slice (some ad382) t377.length co39 : Value).ownBlock ∧ k_ ≠ gb376) ho0 (fun k_ hk_ => ⟨Or.elim hk_ (fun hs_ => fun e_ => Nat.not_le.2 hs_ (Kd.R_base HO379.out k_ e_.symm)) (fun hn_ => (Kd.fresh' (Kd.R_lt (by (with_reducible repeat (first | apply Kd.R_alloc | apply Kd.R_drewN | apply Kd.R_drew)); exact HO379.out)) k_ hn_)), Or.elim hk_ (fun hs_ => fun e_ => Nat.not_le.2 hs_ (by rw [e_]; exact GW376.out)) (fun hn_ => (Kd.freshB (g := gb376) (o := .cells #[.int .i64 t372, .int .i64 t373, .bool t374] 27 (0, 0)) (by (with_reducible repeat (first | refine blk_drewN ?_ _ | refine blk_drew ?_ | refine blk_alloc ?_ _)); exact BK376.out) k_ hn_))⟩)) (below_size (by repeat (first | (with_reducible first | exact HB.out | apply below_alloc | apply pw_below_drewN | apply below_drew1 | refine below_set ?_ GE376.out) | exact HB.out)))); have n2_ := Aside0.mk (blk_below (g := gb376) (o := .cells #[.int .i64 t372, .int .i64 t373, .bool t374] 27 (0, 0)) (by (with_reducible repeat (first | refine blk_drewN ?_ _ | refine blk_drew ?_ | refine blk_alloc ?_ _)); exact BK376.out) hb); have n3_ := Aside0.mk (below_step (by repeat (first | (with_reducible first | exact HB.out | apply below_alloc | apply pw_below_drewN | apply below_drew1 | refine below_set ?_ GE376.out) | exact HB.out)) hb); clear HO379; clear BK376; clear HB; have HO379 := n0_; have HO385 := n1_; have BK376 := n2_; have HB := n3_; clear n0_ n1_ n2_ n3_; (try clear hb); (try clear hb2); (try clear hk); (try clear hi); (try clear ho0); obtain ⟨Ao41, co41, eo41⟩ := Kd.V_slice HO385.out; subst eo41) | ((with_reducible refine gate_callee (f := 19) rfl ?_); refine goesL_ (some 83) rfl rfl Try.func19 (by kernel_rfl) rfl #[.slice Ao41 t383.length co41] rfl (by (try simp only [List.map_toArray, List.map_cons, List.map_nil]); first | done | rfl | (simp only [List.length_drop, List.length_take]; rfl)) ?_; (with_reducible refine (platenref03_Bare.calls kj13 _ _ t383 t386 _ ?side1 ?side2 A33.out).mono ?_); (case side1 => repeat (first | exact (Kd.V_reads' HO385.out).2.2 | (with_reducible refine Kd.C_alloc ?_ _) | (with_reducible refine Kd.C_drewN ?_ _) | (with_reducible refine Kd.C_drew ?_))); (case side2 => exact (Kd.V_reads' HO385.out).2.1); rintro e w' ⟨rfl, ⟨nd, rfl⟩⟩; refine ⟨_, rfl, ?_⟩))
                  (try simp only [Act.put, List.setIfInBounds_toArray, List.set_cons_zero, List.set_cons_succ])
                  go_cut [14] (fun v14 wc => ∃ (kq : Nat) (x14_33 : Int), v14 = .int .i64 x14_33 ∧ Aside0 (platenlaw20_ObjectParagraphs.j3 kq l0 a2 t377 t380 t381 t386 x14_33 t372 t373 t374 = some r) ∧ Aside0 (kq ≤ kj13) ∧ Aside0 (Kd.R k25 25 wc w.heap.size (fun _ => True) (.slice (some ad382) t377.length co39) t377) ∧ Aside0 (wc.heap[gb376]? = some (.cells #[.int .i64 t372, .int .i64 t373, .bool t374] 27 (0, 0))) ∧ Aside0 (Below w.heap.size w wc))
                  case first =>
                    have H := HC34.out
                    clear HC34
                    have H' := Aside0.mk H
                    clear H
                    go_wp2
                    go_loopg [14] kj13 (fun kq v14 w' => ∃ (x14_3 : Int), v14 = .int .i64 x14_3 ∧ Aside0 (platenlaw20_ObjectParagraphs.l0 kq l0 a2 t377 t380 t381 t386 x14_3 t372 t373 t374 = some r) ∧ Aside0 (kq ≤ kj13) ∧ Aside0 (Kd.R k25 25 w' w.heap.size (fun _ => True) (.slice (some ad382) t377.length co39) t377) ∧ Aside0 (w'.heap[gb376]? = some (.cells #[.int .i64 t372, .int .i64 t373, .bool t374] 27 (0, 0))) ∧ Aside0 (Below w.heap.size w w'))
                    case atStart => exact ⟨(t380), (by first | rfl | (simp; done) | (simp [*]; done)), H', ⟨Nat.le_refl _⟩, ⟨by (with_reducible repeat (first | apply Kd.R_alloc | apply Kd.R_drewN | apply Kd.R_drew)); exact HO379.out⟩, ⟨by (with_reducible repeat (first | refine blk_drewN ?_ _ | refine blk_drew ?_ | refine blk_alloc ?_ _)); exact BK376.out⟩, ⟨by repeat (first | (with_reducible first | exact HB.out | apply below_alloc | apply pw_below_drewN | apply below_drew1 | refine below_set ?_ GE376.out) | exact HB.out)⟩⟩
                    case round =>
                      clear H'
                      try clear c1
                      try clear c2
                      try clear p2
                      try clear c3
                      try clear p3
                      try clear q3
                      try clear hx3
                      try clear c6
                      try clear p6
                      try clear c9
                      try clear c13
                      try clear c14
                      try clear c17
                      try clear c18
                      try clear c18b0
                      try clear c18b1
                      try clear c19
                      try clear c20
                      try clear c20b0
                      try clear c22
                      try clear c22b0
                      try clear c26
                      try clear c30
                      try clear c30b0
                      try clear c31
                      try clear c31b0
                      try clear p38
                      try clear q38
                      try clear hx38
                      try clear hcz17_0
                      try clear hcz17_1
                      try clear hcz17_2
                      try clear hcz21_0
                      try clear hcz21_1
                      try clear hcz21_2
                      try clear hcz23_0
                      try clear hcz23_1
                      try clear hcz23_2
                      try clear hcz24_0
                      try clear hcz24_1
                      try clear hcz24_2
                      try clear hcz25_0
                      try clear hcz25_1
                      try clear hcz25_2
                      try clear hcz36_0
                      try clear hcz36_1
                      try clear hcz36_2
                      try clear hfz17_0
                      try clear hfz17_1
                      try clear hfz17_2
                      try clear hfz21_0
                      try clear hfz21_1
                      try clear hfz21_2
                      try clear hfz23_0
                      try clear hfz23_1
                      try clear hfz23_2
                      try clear hfz24_0
                      try clear hfz24_1
                      try clear hfz24_2
                      try clear hfz25_0
                      try clear hfz25_1
                      try clear hfz25_2
                      try clear hfz36_0
                      try clear hfz36_1
                      try clear hfz36_2
                      try clear hx382_0
                      try clear hx382_1
                      try clear p2
                      try clear p382
                      try clear p6
                      try clear q382
                      obtain ⟨x14_3, rfl, HA, HK3, HO_10, BK376, HB⟩ := hrel
                      cases gk with
                      | zero => exact absurd HA.out (by simp [platenlaw20_ObjectParagraphs.l0])
                      | succ k3 =>
                        have H := HA.out
                        clear HA
                        simp only [platenlaw20_ObjectParagraphs.l0] at H
                        by_cases c42 : x14_3 < (wrap64 ((t377.length : Int) - 1))
                        · rw [if_pos c42] at H
                          have c42b0 : decide (x14_3 < (wrap64 ((t377.length : Int) - 1))) = true := decide_eq_true c42
                          clear c42
                          (first | rw [c42b0] | (simp only [i64_w, i32_w]; rw [c42b0]) | skip)
                          obtain ⟨ji43, hji43⟩ : ∃ j_ : Int, (wrap64 (x14_3 + 1)) = j_ := ⟨_, rfl⟩
                          replace H : (if 0 ≤ (ji43) then (if (ji43) < (t377.length : Int) then ((platenref03_Text.f l0 ((rd_T25 t377 (ji43)).f0) ((rd_T25 t377 (ji43)).f1)).bind fun t388 => ((platenref03_Bare.f k3 t388).bind fun t391 => (if (t391 == t386) = true then (platenlaw20_ObjectParagraphs.l0 k3 l0 a2 t377 t380 t381 t386 ji43 t372 t373 t374) else (platenlaw20_ObjectParagraphs.j3 k3 l0 a2 t377 t380 t381 t386 x14_3 t372 t373 t374)))) else (none)) else (none)) = some r := by first | (rw [hji43] at H; exact H) | (simp only [hji43] at H ⊢; exact H)
                          have hji43w : (IntKind.i64.wrap (x14_3 + 1)) = ji43 := (i64_w _).trans hji43
                          by_cases c44 : 0 ≤ (ji43)
                          · rw [if_pos c44] at H
                            have c44b0 : decide (0 ≤ (ji43)) = true := decide_eq_true c44
                            clear c44
                            by_cases c45 : (ji43) < (t377.length : Int)
                            · rw [if_pos c45] at H
                              have c45b0 : decide ((ji43) < (t377.length : Int)) = true := decide_eq_true c45
                              clear c45
                              replace H := Option.bind_eq_some_iff.mp H
                              obtain ⟨t388, A460, H⟩ := H
                              replace H : ((platenref03_Bare.f k3 t388).bind fun t391 => (if (t391 == t386) = true then (platenlaw20_ObjectParagraphs.l0 k3 l0 a2 t377 t380 t381 t386 ji43 t372 t373 t374) else (platenlaw20_ObjectParagraphs.j3 k3 l0 a2 t377 t380 t381 t386 x14_3 t372 t373 t374))) = some r := H
                              have A46 := Aside0.mk A460
                              clear A460
                              replace H := Option.bind_eq_some_iff.mp H
                              obtain ⟨t391, A470, H⟩ := H
                              replace H : (if (t391 == t386) = true then (platenlaw20_ObjectParagraphs.l0 k3 l0 a2 t377 t380 t381 t386 ji43 t372 t373 t374) else (platenlaw20_ObjectParagraphs.j3 k3 l0 a2 t377 t380 t381 t386 x14_3 t372 t373 t374)) = some r := H
                              have A47 := Aside0.mk A470
                              clear A470
                              by_cases c48 : (t391 == t386) = true
                              · rw [if_pos c48] at H
                                have c48b0 : (t391 == t386) = true := c48
                                (try (have c48b1 : decide (t391 = t386) = true := by simpa using c48))
                                (try (have c48b2 : (t391 == t386) = true := by simpa using c48))
                                clear c48
                                have H' := Aside0.mk H
                                clear H
                                have p387 : 0 ≤ ((ji43) : Int) := of_decide_eq_true (by first | (with_reducible assumption) | assumption)
                                have q387 : (ji43) < (t377.length : Int) := of_decide_eq_true (by first | (with_reducible assumption) | assumption)
                                obtain ⟨ad387, e387, hx387_0, hx387_1⟩ := at_T25 (Kd.R_reads' HO_10.out).2.2 (ji43) p387 q387
                                obtain rfl : ad382 = ad387 := (by injection e387)
                                replace p387 := eq_true p387
                                replace q387 := eq_true q387
                                go_wp2_with (first | (go_at_call 20; (with_reducible refine (platenref03_Text.calls (fun k_ => k_ < w.heap.size) _ _ l0 ((rd_T25 t377 (ji43)).f0) ((rd_T25 t377 (ji43)).f1) t388 _ ?side1 A46.out).mono ?_); (case side1 => exact Kd.V_mk HC0.out (Kd.F_below (Kd.C_F (Kd.heap_int .u8) HR0.out) (by repeat (first | (with_reducible first | exact HB.out | apply below_alloc | apply pw_below_drewN | apply below_drew1 | refine below_set ?_ GE376.out) | exact HB.out)))); rintro e w49 ⟨v389, rfl, ho0, hb⟩; have n0_ := Aside0.mk (Kd.R_below (by (with_reducible repeat (first | apply Kd.R_alloc | apply Kd.R_drewN | apply Kd.R_drew)); exact HO_10.out) hb); have n1_ := Aside0.mk (Kd.V_lower (Kd.V_mono (ok' := fun k_ => some k_ ≠ (.slice (some ad382) t377.length co39 : Value).ownBlock ∧ k_ ≠ gb376) ho0 (fun k_ hk_ => ⟨Or.elim hk_ (fun hs_ => fun e_ => Nat.not_le.2 hs_ (Kd.R_base HO_10.out k_ e_.symm)) (fun hn_ => (Kd.fresh' (Kd.R_lt (by (with_reducible repeat (first | apply Kd.R_alloc | apply Kd.R_drewN | apply Kd.R_drew)); exact HO_10.out)) k_ hn_)), Or.elim hk_ (fun hs_ => fun e_ => Nat.not_le.2 hs_ (by rw [e_]; exact GW376.out)) (fun hn_ => (Kd.freshB (g := gb376) (o := .cells #[.int .i64 t372, .int .i64 t373, .bool t374] 27 (0, 0)) (by (with_reducible repeat (first | refine blk_drewN ?_ _ | refine blk_drew ?_ | refine blk_alloc ?_ _)); exact BK376.out) k_ hn_))⟩)) (below_size (by repeat (first | (with_reducible first | exact HB.out | apply below_alloc | apply pw_below_drewN | apply below_drew1 | refine below_set ?_ GE376.out) | exact HB.out)))); have n2_ := Aside0.mk (blk_below (g := gb376) (o := .cells #[.int .i64 t372, .int .i64 t373, .bool t374] 27 (0, 0)) (by (with_reducible repeat (first | refine blk_drewN ?_ _ | refine blk_drew ?_ | refine blk_alloc ?_ _)); exact BK376.out) hb); have n3_ := Aside0.mk (below_step (by repeat (first | (with_reducible first | exact HB.out | apply below_alloc | apply pw_below_drewN | apply below_drew1 | refine below_set ?_ GE376.out) | exact HB.out)) hb); clear HO_10; clear BK376; clear HB; have HO_10 := n0_; have HO390 := n1_; have BK376 := n2_; have HB := n3_; clear n0_ n1_ n2_ n3_; (try clear hb); (try clear hb2); (try clear hk); (try clear hi); (try clear ho0); obtain ⟨Ao50, co50, eo50⟩ := Kd.V_slice HO390.out; subst eo50) | (go_at_call 19; (with_reducible refine (platenref03_Bare.calls k3 _ _ t388 t391 _ ?side1 ?side2 A47.out).mono ?_); (case side1 => repeat (first | exact (Kd.V_reads' HO390.out).2.2 | (with_reducible refine Kd.C_alloc ?_ _) | (with_reducible refine Kd.C_drewN ?_ _) | (with_reducible refine Kd.C_drew ?_))); (case side2 => exact (Kd.V_reads' HO390.out).2.1); rintro e w' ⟨rfl, ⟨nd, rfl⟩⟩))
                                go_roundg k3
                                case measure => have := HJ3.out; have := HJ13.out; have := HK3.out; omega
                                case rel => exact ⟨(ji43), (by first | rfl | (simp; done) | (simp only [← hji43] <;> (first | rfl | simp)) | (simp [*]; done)), H', ⟨by have := HJ3.out; have := HJ13.out; have := HK3.out; omega⟩, ⟨by (with_reducible repeat (first | apply Kd.R_alloc | apply Kd.R_drewN | apply Kd.R_drew)); exact HO_10.out⟩, ⟨by (with_reducible repeat (first | refine blk_drewN ?_ _ | refine blk_drew ?_ | refine blk_alloc ?_ _)); exact BK376.out⟩, ⟨by repeat (first | (with_reducible first | exact HB.out | apply below_alloc | apply pw_below_drewN | apply below_drew1 | refine below_set ?_ GE376.out) | exact HB.out)⟩⟩
                              · rw [if_neg c48] at H
                                have c48b0 : (t391 == t386) = false := by simpa using c48
                                (try (have c48b1 : decide (t391 = t386) = false := by simpa using c48))
                                (try (have c48b2 : (t391 == t386) = false := by simpa using c48))
                                (try (have c48b3 : ¬ (t391 = t386) := by simpa using c48))
                                clear c48
                                have H' := Aside0.mk H
                                clear H
                                have p387 : 0 ≤ ((ji43) : Int) := of_decide_eq_true (by first | (with_reducible assumption) | assumption)
                                have q387 : (ji43) < (t377.length : Int) := of_decide_eq_true (by first | (with_reducible assumption) | assumption)
                                obtain ⟨ad387, e387, hx387_0, hx387_1⟩ := at_T25 (Kd.R_reads' HO_10.out).2.2 (ji43) p387 q387
                                obtain rfl : ad382 = ad387 := (by injection e387)
                                replace p387 := eq_true p387
                                replace q387 := eq_true q387
                                go_wp2_with (first | (go_at_call 20; (with_reducible refine (platenref03_Text.calls (fun k_ => k_ < w.heap.size) _ _ l0 ((rd_T25 t377 (ji43)).f0) ((rd_T25 t377 (ji43)).f1) t388 _ ?side1 A46.out).mono ?_); (case side1 => exact Kd.V_mk HC0.out (Kd.F_below (Kd.C_F (Kd.heap_int .u8) HR0.out) (by repeat (first | (with_reducible first | exact HB.out | apply below_alloc | apply pw_below_drewN | apply below_drew1 | refine below_set ?_ GE376.out) | exact HB.out)))); rintro e w51 ⟨v389, rfl, ho0, hb⟩; have n0_ := Aside0.mk (Kd.R_below (by (with_reducible repeat (first | apply Kd.R_alloc | apply Kd.R_drewN | apply Kd.R_drew)); exact HO_10.out) hb); have n1_ := Aside0.mk (Kd.V_lower (Kd.V_mono (ok' := fun k_ => some k_ ≠ (.slice (some ad382) t377.length co39 : Value).ownBlock ∧ k_ ≠ gb376) ho0 (fun k_ hk_ => ⟨Or.elim hk_ (fun hs_ => fun e_ => Nat.not_le.2 hs_ (Kd.R_base HO_10.out k_ e_.symm)) (fun hn_ => (Kd.fresh' (Kd.R_lt (by (with_reducible repeat (first | apply Kd.R_alloc | apply Kd.R_drewN | apply Kd.R_drew)); exact HO_10.out)) k_ hn_)), Or.elim hk_ (fun hs_ => fun e_ => Nat.not_le.2 hs_ (by rw [e_]; exact GW376.out)) (fun hn_ => (Kd.freshB (g := gb376) (o := .cells #[.int .i64 t372, .int .i64 t373, .bool t374] 27 (0, 0)) (by (with_reducible repeat (first | refine blk_drewN ?_ _ | refine blk_drew ?_ | refine blk_alloc ?_ _)); exact BK376.out) k_ hn_))⟩)) (below_size (by repeat (first | (with_reducible first | exact HB.out | apply below_alloc | apply pw_below_drewN | apply below_drew1 | refine below_set ?_ GE376.out) | exact HB.out)))); have n2_ := Aside0.mk (blk_below (g := gb376) (o := .cells #[.int .i64 t372, .int .i64 t373, .bool t374] 27 (0, 0)) (by (with_reducible repeat (first | refine blk_drewN ?_ _ | refine blk_drew ?_ | refine blk_alloc ?_ _)); exact BK376.out) hb); have n3_ := Aside0.mk (below_step (by repeat (first | (with_reducible first | exact HB.out | apply below_alloc | apply pw_below_drewN | apply below_drew1 | refine below_set ?_ GE376.out) | exact HB.out)) hb); clear HO_10; clear BK376; clear HB; have HO_10 := n0_; have HO390 := n1_; have BK376 := n2_; have HB := n3_; clear n0_ n1_ n2_ n3_; (try clear hb); (try clear hb2); (try clear hk); (try clear hi); (try clear ho0); obtain ⟨Ao52, co52, eo52⟩ := Kd.V_slice HO390.out; subst eo52) | (go_at_call 19; (with_reducible refine (platenref03_Bare.calls k3 _ _ t388 t391 _ ?side1 ?side2 A47.out).mono ?_); (case side1 => repeat (first | exact (Kd.V_reads' HO390.out).2.2 | (with_reducible refine Kd.C_alloc ?_ _) | (with_reducible refine Kd.C_drewN ?_ _) | (with_reducible refine Kd.C_drew ?_))); (case side2 => exact (Kd.V_reads' HO390.out).2.1); rintro e w' ⟨rfl, ⟨nd, rfl⟩⟩))
                                go_meet
                                case rel => exact ⟨_, (x14_3), (by first | rfl | (simp; done) | (simp [*]; done)), H', ⟨by have := HJ3.out; have := HJ13.out; have := HK3.out; first | omega | exact Nat.le_refl _⟩, ⟨by (with_reducible repeat (first | apply Kd.R_alloc | apply Kd.R_drewN | apply Kd.R_drew)); exact HO_10.out⟩, ⟨by (with_reducible repeat (first | refine blk_drewN ?_ _ | refine blk_drew ?_ | refine blk_alloc ?_ _)); exact BK376.out⟩, ⟨by repeat (first | (with_reducible first | exact HB.out | apply below_alloc | apply pw_below_drewN | apply below_drew1 | refine below_set ?_ GE376.out) | exact HB.out)⟩⟩
                            · rw [if_neg c45] at H
                              exact absurd H (by simp)
                          · rw [if_neg c44] at H
                            exact absurd H (by simp)
                        · rw [if_neg c42] at H
                          have c42b0 : decide (x14_3 < (wrap64 ((t377.length : Int) - 1))) = false := decide_eq_false c42
                          clear c42
                          (first | rw [c42b0] | (simp only [i64_w, i32_w]; rw [c42b0]) | skip)
                          have H' := Aside0.mk H
                          clear H
                          go_wp2
                          go_meet
                          case rel => exact ⟨_, (x14_3), (by first | rfl | (simp; done) | (simp [*]; done)), H', ⟨by have := HJ3.out; have := HJ13.out; have := HK3.out; first | omega | exact Nat.le_refl _⟩, ⟨by (with_reducible repeat (first | apply Kd.R_alloc | apply Kd.R_drewN | apply Kd.R_drew)); exact HO_10.out⟩, ⟨by (with_reducible repeat (first | refine blk_drewN ?_ _ | refine blk_drew ?_ | refine blk_alloc ?_ _)); exact BK376.out⟩, ⟨by repeat (first | (with_reducible first | exact HB.out | apply below_alloc | apply pw_below_drewN | apply below_drew1 | refine below_set ?_ GE376.out) | exact HB.out)⟩⟩
                  case rest => as_aux_lemma =>
                    clear HC34
                    try clear c1
                    try clear c2
                    try clear p2
                    try clear c3
                    try clear p3
                    try clear q3
                    try clear hx3
                    try clear c4
                    try clear c6
                    try clear p6
                    try clear c9
                    try clear c13
                    try clear c14
                    try clear c17
                    try clear c18
                    try clear c18b0
                    try clear c18b1
                    try clear c19
                    try clear c20
                    try clear c20b0
                    try clear c22
                    try clear c22b0
                    try clear c26
                    try clear c30
                    try clear c30b0
                    try clear c31
                    try clear c31b0
                    try clear p38
                    try clear q38
                    try clear hx38
                    try clear c42
                    try clear c42b0
                    try clear c44
                    try clear c44b0
                    try clear c45
                    try clear c45b0
                    try clear c48
                    try clear c48b0
                    try clear c48b1
                    try clear c48b2
                    try clear hcz17_0
                    try clear hcz17_1
                    try clear hcz17_2
                    try clear hcz21_0
                    try clear hcz21_1
                    try clear hcz21_2
                    try clear hcz23_0
                    try clear hcz23_1
                    try clear hcz23_2
                    try clear hcz24_0
                    try clear hcz24_1
                    try clear hcz24_2
                    try clear hcz25_0
                    try clear hcz25_1
                    try clear hcz25_2
                    try clear hcz36_0
                    try clear hcz36_1
                    try clear hcz36_2
                    try clear hfz17_0
                    try clear hfz17_1
                    try clear hfz17_2
                    try clear hfz21_0
                    try clear hfz21_1
                    try clear hfz21_2
                    try clear hfz23_0
                    try clear hfz23_1
                    try clear hfz23_2
                    try clear hfz24_0
                    try clear hfz24_1
                    try clear hfz24_2
                    try clear hfz25_0
                    try clear hfz25_1
                    try clear hfz25_2
                    try clear hfz36_0
                    try clear hfz36_1
                    try clear hfz36_2
                    try clear hx382_0
                    try clear hx382_1
                    try clear hx387_0
                    try clear hx387_1
                    try clear p2
                    try clear p3
                    try clear p38
                    try clear p382
                    try clear p387
                    try clear p6
                    try clear q3
                    try clear q38
                    try clear q382
                    try clear q387
                    obtain ⟨kq, x14_33, rfl, HA, HJ33, HO_10, BK376, HB⟩ := hcut
                    cases kq with
                    | zero => exact absurd HA.out (by simp [platenlaw20_ObjectParagraphs.j3])
                    | succ kj33 =>
                      have H := HA.out
                      clear HA
                      simp only [platenlaw20_ObjectParagraphs.j3] at H
                      replace H := Option.bind_eq_some_iff.mp H
                      obtain ⟨⟨t392, t393, t394⟩, A530, H⟩ := H
                      replace H : (if t372 = t392 then (if t373 = t393 then (if t380 > t381 then (platenlaw20_ObjectParagraphs.j4 kj33 l0 a2 t377 t380 t386 true t372 t373 t374) else (if x14_33 < t381 then (platenlaw20_ObjectParagraphs.j4 kj33 l0 a2 t377 t380 t386 true t372 t373 t374) else (if 0 ≤ t380 then (if t380 < (t377.length : Int) then ((platenref03_Text.f l0 ((rd_T25 t377 t380).f0) ((rd_T25 t377 t380).f1)).bind fun t397 => ((platenref03_Bare.f kj33 t397).bind fun t400 => (platenlaw20_ObjectParagraphs.j4 kj33 l0 a2 t377 t380 t386 (t400 != t386) t372 t373 t374))) else (none)) else (none)))) else (platenlaw20_ObjectParagraphs.j4 kj33 l0 a2 t377 t380 t386 true t372 t373 t374)) else (platenlaw20_ObjectParagraphs.j4 kj33 l0 a2 t377 t380 t386 true t372 t373 t374)) = some r := H
                      have A53 := Aside0.mk A530
                      clear A530
                      have HC54 := Aside0.mk H
                      clear H
                      go_upto_region 14 with (first | ((with_reducible refine gate_callee (f := 21) rfl ?_); refine goesL_ (some 108) rfl rfl Try.func21 (by kernel_rfl) rfl #[.slice A0 l0.length c0, .int .i64 t380, .int .i64 x14_33] rfl (by (try simp only [List.map_toArray, List.map_cons, List.map_nil]); first | done | rfl | (simp only [List.length_drop, List.length_take]; rfl)) ?_; (with_reducible refine (platenref03_Whole.calls kj33 _ _ l0 t380 x14_33 t392 t393 t394 _ ?side1 ?side2 A53.out).mono ?_); (case side1 => repeat (first | exact (Kd.C_below HR0.out HB.out) | (with_reducible refine Kd.C_alloc ?_ _) | (with_reducible refine Kd.C_drewN ?_ _) | (with_reducible refine Kd.C_drew ?_))); (case side2 => exact HC0.out); rintro e w55 ⟨rfl, hb⟩; refine ⟨_, rfl, ?_⟩; have n0_ := Aside0.mk (Kd.R_below (by (with_reducible repeat (first | apply Kd.R_alloc | apply Kd.R_drewN | apply Kd.R_drew)); exact HO_10.out) hb); have n1_ := Aside0.mk (blk_below (g := gb376) (o := .cells #[.int .i64 t372, .int .i64 t373, .bool t374] 27 (0, 0)) (by (with_reducible repeat (first | refine blk_drewN ?_ _ | refine blk_drew ?_ | refine blk_alloc ?_ _)); exact BK376.out) hb); have n2_ := Aside0.mk (below_step (by repeat (first | (with_reducible first | exact HB.out | apply below_alloc | apply pw_below_drewN | apply below_drew1 | refine below_set ?_ GE376.out) | exact HB.out)) hb); clear HO_10; clear BK376; clear HB; have HO_10 := n0_; have BK376 := n1_; have HB := n2_; clear n0_ n1_ n2_; (try clear hb); (try clear hb2); (try clear hk); (try clear hi)) | ((with_reducible refine gate_dst (N := 15) rfl ?_); (try (refine gate_guard (by rfl) ?_; dsimp only)); refine box_event ?hg (N := 15) ?hd (cs := #[.int .i64 0, .int .i64 0]) (t := 25) ?hr ?_; (case hd => rfl); (case hg => rfl); (case hr => first | (go_simp; done) | (go_simp; rfl)); intro gb395 hg w56 hbox hb; have n0_ := Aside0.mk (Kd.R_below (Kd.R_elderB (by (with_reducible repeat (first | apply Kd.R_alloc | apply Kd.R_drewN | apply Kd.R_drew)); exact HO_10.out) gb395 (Nat.le_of_eq hg.symm)) hb); have n1_ := Aside0.mk (blk_below (g := gb376) (o := .cells #[.int .i64 t372, .int .i64 t373, .bool t374] 27 (0, 0)) (by (with_reducible repeat (first | refine blk_drewN ?_ _ | refine blk_drew ?_ | refine blk_alloc ?_ _)); exact BK376.out) hb); have n2_ := Aside0.mk (below_step (by repeat (first | (with_reducible first | exact HB.out | apply below_alloc | apply pw_below_drewN | apply below_drew1 | refine below_set ?_ GE376.out) | exact HB.out)) hb); have n3_ := Aside0.mk (hbox); have n4_ := Aside0.mk ((by rw [hg]; exact (below_size (by repeat (first | (with_reducible first | exact HB.out | apply below_alloc | apply pw_below_drewN | apply below_drew1 | refine below_set ?_ GE376.out) | exact HB.out))) : w.heap.size ≤ gb395)); have n5_ := Aside0.mk ((by rw [hg]; exact (below_size (by repeat (first | (with_reducible first | exact HB.out | apply below_alloc | apply pw_below_drewN | apply below_drew1 | refine below_set ?_ GE376.out) | exact HB.out))) : w.heap.size ≤ gb395)); have n6_ := Aside0.mk ((by rw [hg]; exact Nat.ne_of_lt (blk_lt (g := gb376) (o := .cells #[.int .i64 t372, .int .i64 t373, .bool t374] 27 (0, 0)) (by (with_reducible repeat (first | refine blk_drewN ?_ _ | refine blk_drew ?_ | refine blk_alloc ?_ _)); exact BK376.out)) : gb376 ≠ gb395)); have n7_ := Aside0.mk ((by rw [hg]; exact Nat.ne_of_gt (blk_lt (g := gb376) (o := .cells #[.int .i64 t372, .int .i64 t373, .bool t374] 27 (0, 0)) (by (with_reducible repeat (first | refine blk_drewN ?_ _ | refine blk_drew ?_ | refine blk_alloc ?_ _)); exact BK376.out)) : gb395 ≠ gb376)); clear HO_10; clear BK376; clear HB; have HO_10 := n0_; have BK376 := n1_; have HB := n2_; have BK395 := n3_; have GW395 := n4_; have GE395 := n5_; have NB376_395 := n6_; have NB395_376 := n7_; clear n0_ n1_ n2_ n3_ n4_ n5_ n6_ n7_; clear hb hbox hg; have hnb57 := NB395_376.out; have hnc57 := NB376_395.out; have hcz58_0 : w56.cell? ⟨gb395, 0, none⟩ = some (.int .i64 0) := (blk_cell BK395.out 0).trans rfl; have hcz58_1 : w56.cell? ⟨gb395, 1, none⟩ = some (.int .i64 0) := (blk_cell BK395.out 1).trans rfl; have hfz58_0 := blk_frozen BK395.out 0; have hfz58_1 := blk_frozen BK395.out 1))
                      (try simp only [Act.put, List.setIfInBounds_toArray, List.set_cons_zero, List.set_cons_succ])
                      go_cut [145] (fun v145 wc => ∃ (kq : Nat) (x145_53 : Bool), v145 = .bool x145_53 ∧ Aside0 (platenlaw20_ObjectParagraphs.j4 kq l0 a2 t377 t380 t386 x145_53 t372 t373 t374 = some r) ∧ Aside0 (kq ≤ kj33) ∧ Aside0 (Kd.R k25 25 wc w.heap.size (fun k_ => k_ ≠ gb395) (.slice (some ad382) t377.length co39) t377) ∧ Aside0 (wc.heap[gb376]? = some (.cells #[.int .i64 t372, .int .i64 t373, .bool t374] 27 (0, 0))) ∧ Aside0 (wc.heap[gb395]? = some (.cells #[.int .i64 t392, .int .i64 t393] 25 (0, 0))) ∧ Aside0 (Below w.heap.size w wc))
                      case first =>
                        have H := HC54.out
                        clear HC54
                        by_cases c59 : t372 = t392
                        · rw [if_pos c59] at H
                          have c59b0 : (t372 == t392) = true := beq_iff_eq.mpr c59
                          have c59b1 : (t372 != t392) = false := bne_eq_false_iff_eq.mpr c59
                          clear c59
                          (first | rw [c59b0] | (simp only [i64_w, i32_w]; rw [c59b0]) | skip)
                          by_cases c60 : t373 = t393
                          · rw [if_pos c60] at H
                            have c60b0 : (t373 == t393) = true := beq_iff_eq.mpr c60
                            have c60b1 : (t373 != t393) = false := bne_eq_false_iff_eq.mpr c60
                            clear c60
                            by_cases c61 : t380 > t381
                            · rw [if_pos c61] at H
                              have c61b0 : decide (t381 < t380) = true := decide_eq_true c61
                              clear c61
                              have H' := Aside0.mk H
                              clear H
                              have hnb62 := NB376_395.out
                              have hnc62 := NB395_376.out
                              have hcz63_0 : w56.cell? ⟨gb376, 0, none⟩ = some (.int .i64 t372) := (blk_cell BK376.out 0).trans rfl
                              have hcz63_1 : w56.cell? ⟨gb376, 1, none⟩ = some (.int .i64 t373) := (blk_cell BK376.out 1).trans rfl
                              have hcz63_2 : w56.cell? ⟨gb376, 2, none⟩ = some (.bool t374) := (blk_cell BK376.out 2).trans rfl
                              have hfz63_0 := blk_frozen BK376.out 0
                              have hfz63_1 := blk_frozen BK376.out 1
                              have hfz63_2 := blk_frozen BK376.out 2
                              have hcz64_0 : w56.cell? ⟨gb395, 0, none⟩ = some (.int .i64 0) := (blk_cell BK395.out 0).trans rfl
                              have hcz64_1 : w56.cell? ⟨gb395, 1, none⟩ = some (.int .i64 0) := (blk_cell BK395.out 1).trans rfl
                              have hfz64_0 := blk_frozen BK395.out 0
                              have hfz64_1 := blk_frozen BK395.out 1
                              go_wp2
                              go_meet
                              case rel => exact ⟨_, (true), (by first | rfl | (simp; done) | (simp [*]; done)), H', ⟨by have := HJ3.out; have := HJ13.out; have := HJ33.out; first | omega | exact Nat.le_refl _⟩, ⟨by (with_reducible repeat (first | apply Kd.R_alloc | apply Kd.R_drewN | apply Kd.R_drew)); exact Kd.R_mono (Kd.R_far (p := ⟨gb395, 1, none⟩) (Kd.R_far (p := ⟨gb395, 0, none⟩) (Kd.R_mono HO_10.out (fun k_ hk => (⟨hk, hk.2⟩ : _ ∧ k_ ≠ gb395))) (fun _ hk => hk.2) (.int .i64 t392)) (fun _ hk => hk.2) (.int .i64 t393)) (fun _ hk => hk.1.2)⟩, ⟨by (with_reducible repeat (first | refine blk_drewN ?_ _ | refine blk_drew ?_ | refine blk_alloc ?_ _)); refine blk_far ?_ NB376_395.out _; (with_reducible repeat (first | refine blk_drewN ?_ _ | refine blk_drew ?_ | refine blk_alloc ?_ _)); refine blk_far ?_ NB376_395.out _; (with_reducible repeat (first | refine blk_drewN ?_ _ | refine blk_drew ?_ | refine blk_alloc ?_ _)); exact BK376.out⟩, ⟨by (with_reducible repeat (first | refine blk_drewN ?_ _ | refine blk_drew ?_ | refine blk_alloc ?_ _)); refine blk_put (cs := #[.int .i64 t392, .int .i64 0]) ?_ 1 _ rfl; (with_reducible repeat (first | refine blk_drewN ?_ _ | refine blk_drew ?_ | refine blk_alloc ?_ _)); refine blk_put (cs := #[.int .i64 0, .int .i64 0]) ?_ 0 _ rfl; (with_reducible repeat (first | refine blk_drewN ?_ _ | refine blk_drew ?_ | refine blk_alloc ?_ _)); exact BK395.out⟩, ⟨by repeat (first | (with_reducible first | exact HB.out | apply below_alloc | apply pw_below_drewN | apply below_drew1 | refine below_set ?_ GE376.out | refine below_set ?_ GE395.out) | exact HB.out)⟩⟩
                            · rw [if_neg c61] at H
                              have c61b0 : decide (t381 < t380) = false := decide_eq_false c61
                              clear c61
                              by_cases c65 : x14_33 < t381
                              · rw [if_pos c65] at H
                                have c65b0 : decide (x14_33 < t381) = true := decide_eq_true c65
                                clear c65
                                have H' := Aside0.mk H
                                clear H
                                have hnb66 := NB376_395.out
                                have hnc66 := NB395_376.out
                                have hcz67_0 : w56.cell? ⟨gb376, 0, none⟩ = some (.int .i64 t372) := (blk_cell BK376.out 0).trans rfl
                                have hcz67_1 : w56.cell? ⟨gb376, 1, none⟩ = some (.int .i64 t373) := (blk_cell BK376.out 1).trans rfl
                                have hcz67_2 : w56.cell? ⟨gb376, 2, none⟩ = some (.bool t374) := (blk_cell BK376.out 2).trans rfl
                                have hfz67_0 := blk_frozen BK376.out 0
                                have hfz67_1 := blk_frozen BK376.out 1
                                have hfz67_2 := blk_frozen BK376.out 2
                                have hcz68_0 : w56.cell? ⟨gb395, 0, none⟩ = some (.int .i64 0) := (blk_cell BK395.out 0).trans rfl
                                have hcz68_1 : w56.cell? ⟨gb395, 1, none⟩ = some (.int .i64 0) := (blk_cell BK395.out 1).trans rfl
                                have hfz68_0 := blk_frozen BK395.out 0
                                have hfz68_1 := blk_frozen BK395.out 1
                                go_wp2
                                go_meet
                                case rel => exact ⟨_, (true), (by first | rfl | (simp; done) | (simp [*]; done)), H', ⟨by have := HJ3.out; have := HJ13.out; have := HJ33.out; first | omega | exact Nat.le_refl _⟩, ⟨by (with_reducible repeat (first | apply Kd.R_alloc | apply Kd.R_drewN | apply Kd.R_drew)); exact Kd.R_mono (Kd.R_far (p := ⟨gb395, 1, none⟩) (Kd.R_far (p := ⟨gb395, 0, none⟩) (Kd.R_mono HO_10.out (fun k_ hk => (⟨hk, hk.2⟩ : _ ∧ k_ ≠ gb395))) (fun _ hk => hk.2) (.int .i64 t392)) (fun _ hk => hk.2) (.int .i64 t393)) (fun _ hk => hk.1.2)⟩, ⟨by (with_reducible repeat (first | refine blk_drewN ?_ _ | refine blk_drew ?_ | refine blk_alloc ?_ _)); refine blk_far ?_ NB376_395.out _; (with_reducible repeat (first | refine blk_drewN ?_ _ | refine blk_drew ?_ | refine blk_alloc ?_ _)); refine blk_far ?_ NB376_395.out _; (with_reducible repeat (first | refine blk_drewN ?_ _ | refine blk_drew ?_ | refine blk_alloc ?_ _)); exact BK376.out⟩, ⟨by (with_reducible repeat (first | refine blk_drewN ?_ _ | refine blk_drew ?_ | refine blk_alloc ?_ _)); refine blk_put (cs := #[.int .i64 t392, .int .i64 0]) ?_ 1 _ rfl; (with_reducible repeat (first | refine blk_drewN ?_ _ | refine blk_drew ?_ | refine blk_alloc ?_ _)); refine blk_put (cs := #[.int .i64 0, .int .i64 0]) ?_ 0 _ rfl; (with_reducible repeat (first | refine blk_drewN ?_ _ | refine blk_drew ?_ | refine blk_alloc ?_ _)); exact BK395.out⟩, ⟨by repeat (first | (with_reducible first | exact HB.out | apply below_alloc | apply pw_below_drewN | apply below_drew1 | refine below_set ?_ GE376.out | refine below_set ?_ GE395.out) | exact HB.out)⟩⟩
                              · rw [if_neg c65] at H
                                have c65b0 : decide (x14_33 < t381) = false := decide_eq_false c65
                                clear c65
                                by_cases c69 : 0 ≤ t380
                                · rw [if_pos c69] at H
                                  have c69b0 : decide (0 ≤ t380) = true := decide_eq_true c69
                                  clear c69
                                  by_cases c70 : t380 < (t377.length : Int)
                                  · rw [if_pos c70] at H
                                    have c70b0 : decide (t380 < (t377.length : Int)) = true := decide_eq_true c70
                                    clear c70
                                    replace H := Option.bind_eq_some_iff.mp H
                                    obtain ⟨t397, A710, H⟩ := H
                                    replace H : ((platenref03_Bare.f kj33 t397).bind fun t400 => (platenlaw20_ObjectParagraphs.j4 kj33 l0 a2 t377 t380 t386 (t400 != t386) t372 t373 t374)) = some r := H
                                    have A71 := Aside0.mk A710
                                    clear A710
                                    replace H := Option.bind_eq_some_iff.mp H
                                    obtain ⟨t400, A720, H⟩ := H
                                    replace H : (platenlaw20_ObjectParagraphs.j4 kj33 l0 a2 t377 t380 t386 (t400 != t386) t372 t373 t374) = some r := H
                                    have A72 := Aside0.mk A720
                                    clear A720
                                    have H' := Aside0.mk H
                                    clear H
                                    have hnb73 := NB376_395.out
                                    have hnc73 := NB395_376.out
                                    have hcz74_0 : w56.cell? ⟨gb376, 0, none⟩ = some (.int .i64 t372) := (blk_cell BK376.out 0).trans rfl
                                    have hcz74_1 : w56.cell? ⟨gb376, 1, none⟩ = some (.int .i64 t373) := (blk_cell BK376.out 1).trans rfl
                                    have hcz74_2 : w56.cell? ⟨gb376, 2, none⟩ = some (.bool t374) := (blk_cell BK376.out 2).trans rfl
                                    have hfz74_0 := blk_frozen BK376.out 0
                                    have hfz74_1 := blk_frozen BK376.out 1
                                    have hfz74_2 := blk_frozen BK376.out 2
                                    have hcz75_0 : w56.cell? ⟨gb395, 0, none⟩ = some (.int .i64 0) := (blk_cell BK395.out 0).trans rfl
                                    have hcz75_1 : w56.cell? ⟨gb395, 1, none⟩ = some (.int .i64 0) := (blk_cell BK395.out 1).trans rfl
                                    have hfz75_0 := blk_frozen BK395.out 0
                                    have hfz75_1 := blk_frozen BK395.out 1
                                    have p396 : 0 ≤ (t380 : Int) := of_decide_eq_true (by first | (with_reducible assumption) | assumption)
                                    have q396 : t380 < (t377.length : Int) := of_decide_eq_true (by first | (with_reducible assumption) | assumption)
                                    obtain ⟨ad396, e396, hx396_0, hx396_1⟩ := at_T25 (Kd.R_reads' HO_10.out).2.2 t380 p396 q396
                                    obtain rfl : ad382 = ad396 := (by injection e396)
                                    have hn396_0 : ad382.block ≠ gb395 := Kd.own_blk (by first | exact Kd.R_ne HO_10.out BK395.out (by decide) | exact Kd.R_away HO_10.out (fun _ hk => hk.2) | exact Kd.R_away HO_10.out (fun _ hk => hk.1.2) | exact Kd.R_away HO_10.out (fun _ hk => hk.1.1.2))
                                    have hn396_1 : ad382.block ≠ gb395 := Kd.own_blk (by first | exact Kd.R_ne HO_10.out BK395.out (by decide) | exact Kd.R_away HO_10.out (fun _ hk => hk.2) | exact Kd.R_away HO_10.out (fun _ hk => hk.1.2) | exact Kd.R_away HO_10.out (fun _ hk => hk.1.1.2))
                                    replace hx396_0 := (cell_far (p := ⟨gb395, 0, none⟩) (by first | (rw [add_block]; exact hn396_0) | (show (Addr.add _ _).block ≠ _; rw [add_block]; exact hn396_0) | exact hn396_0) (.int .i64 t392)).trans hx396_0
                                    replace hx396_1 := (cell_far (p := ⟨gb395, 0, none⟩) (by first | (rw [add_block]; exact hn396_0) | (show (Addr.add _ _).block ≠ _; rw [add_block]; exact hn396_0) | exact hn396_0) (.int .i64 t392)).trans hx396_1
                                    replace hx396_0 := (cell_far (p := ⟨gb395, 1, none⟩) (by first | (rw [add_block]; exact hn396_1) | (show (Addr.add _ _).block ≠ _; rw [add_block]; exact hn396_1) | exact hn396_1) (.int .i64 t393)).trans hx396_0
                                    replace hx396_1 := (cell_far (p := ⟨gb395, 1, none⟩) (by first | (rw [add_block]; exact hn396_1) | (show (Addr.add _ _).block ≠ _; rw [add_block]; exact hn396_1) | exact hn396_1) (.int .i64 t393)).trans hx396_1
                                    clear hn396_0
                                    clear hn396_1
                                    replace p396 := eq_true p396
                                    replace q396 := eq_true q396
                                    go_wp2_with (first | (go_at_call 20; (with_reducible refine (platenref03_Text.calls (fun k_ => k_ < w.heap.size) _ _ l0 ((rd_T25 t377 t380).f0) ((rd_T25 t377 t380).f1) t397 _ ?side1 A71.out).mono ?_); (case side1 => exact Kd.V_mk HC0.out (Kd.F_below (Kd.C_F (Kd.heap_int .u8) HR0.out) (by repeat (first | (with_reducible first | exact HB.out | apply below_alloc | apply pw_below_drewN | apply below_drew1 | refine below_set ?_ GE376.out | refine below_set ?_ GE395.out) | exact HB.out)))); rintro e w76 ⟨v398, rfl, ho0, hb⟩; have n0_ := Aside0.mk (Kd.R_below (by (with_reducible repeat (first | apply Kd.R_alloc | apply Kd.R_drewN | apply Kd.R_drew)); exact (Kd.R_mono (Kd.R_far (p := ⟨gb395, 1, none⟩) (Kd.R_far (p := ⟨gb395, 0, none⟩) (Kd.R_mono HO_10.out (fun k_ hk => (⟨hk, hk.2⟩ : _ ∧ k_ ≠ gb395))) (fun _ hk => hk.2) (.int .i64 t392)) (fun _ hk => hk.2) (.int .i64 t393)) (fun _ h_ => h_.1))) hb); have n1_ := Aside0.mk (Kd.V_lower (Kd.V_mono (ok' := fun k_ => some k_ ≠ (.slice (some ad382) t377.length co39 : Value).ownBlock ∧ k_ ≠ gb376 ∧ k_ ≠ gb395) ho0 (fun k_ hk_ => ⟨Or.elim hk_ (fun hs_ => fun e_ => Nat.not_le.2 hs_ (Kd.R_base HO_10.out k_ e_.symm)) (fun hn_ => (Kd.fresh' (Kd.R_lt (by (with_reducible repeat (first | apply Kd.R_alloc | apply Kd.R_drewN | apply Kd.R_drew)); exact (Kd.R_mono (Kd.R_far (p := ⟨gb395, 1, none⟩) (Kd.R_far (p := ⟨gb395, 0, none⟩) (Kd.R_mono HO_10.out (fun k_ hk => (⟨hk, hk.2⟩ : _ ∧ k_ ≠ gb395))) (fun _ hk => hk.2) (.int .i64 t392)) (fun _ hk => hk.2) (.int .i64 t393)) (fun _ h_ => h_.1)))) k_ hn_)), Or.elim hk_ (fun hs_ => fun e_ => Nat.not_le.2 hs_ (by rw [e_]; exact GW376.out)) (fun hn_ => (Kd.freshB (g := gb376) (o := .cells #[.int .i64 t372, .int .i64 t373, .bool t374] 27 (0, 0)) (by (with_reducible repeat (first | refine blk_drewN ?_ _ | refine blk_drew ?_ | refine blk_alloc ?_ _)); refine blk_far ?_ NB376_395.out _; (with_reducible repeat (first | refine blk_drewN ?_ _ | refine blk_drew ?_ | refine blk_alloc ?_ _)); refine blk_far ?_ NB376_395.out _; (with_reducible repeat (first | refine blk_drewN ?_ _ | refine blk_drew ?_ | refine blk_alloc ?_ _)); exact BK376.out) k_ hn_)), Or.elim hk_ (fun hs_ => fun e_ => Nat.not_le.2 hs_ (by rw [e_]; exact GW395.out)) (fun hn_ => (Kd.freshB (g := gb395) (o := .cells #[.int .i64 t392, .int .i64 t393] 25 (0, 0)) (by (with_reducible repeat (first | refine blk_drewN ?_ _ | refine blk_drew ?_ | refine blk_alloc ?_ _)); refine blk_put (cs := #[.int .i64 t392, .int .i64 0]) ?_ 1 _ rfl; (with_reducible repeat (first | refine blk_drewN ?_ _ | refine blk_drew ?_ | refine blk_alloc ?_ _)); refine blk_put (cs := #[.int .i64 0, .int .i64 0]) ?_ 0 _ rfl; (with_reducible repeat (first | refine blk_drewN ?_ _ | refine blk_drew ?_ | refine blk_alloc ?_ _)); exact BK395.out) k_ hn_))⟩)) (below_size (by repeat (first | (with_reducible first | exact HB.out | apply below_alloc | apply pw_below_drewN | apply below_drew1 | refine below_set ?_ GE376.out | refine below_set ?_ GE395.out) | exact HB.out)))); have n2_ := Aside0.mk (blk_below (g := gb376) (o := .cells #[.int .i64 t372, .int .i64 t373, .bool t374] 27 (0, 0)) (by (with_reducible repeat (first | refine blk_drewN ?_ _ | refine blk_drew ?_ | refine blk_alloc ?_ _)); refine blk_far ?_ NB376_395.out _; (with_reducible repeat (first | refine blk_drewN ?_ _ | refine blk_drew ?_ | refine blk_alloc ?_ _)); refine blk_far ?_ NB376_395.out _; (with_reducible repeat (first | refine blk_drewN ?_ _ | refine blk_drew ?_ | refine blk_alloc ?_ _)); exact BK376.out) hb); have n3_ := Aside0.mk (blk_below (g := gb395) (o := .cells #[.int .i64 t392, .int .i64 t393] 25 (0, 0)) (by (with_reducible repeat (first | refine blk_drewN ?_ _ | refine blk_drew ?_ | refine blk_alloc ?_ _)); refine blk_put (cs := #[.int .i64 t392, .int .i64 0]) ?_ 1 _ rfl; (with_reducible repeat (first | refine blk_drewN ?_ _ | refine blk_drew ?_ | refine blk_alloc ?_ _)); refine blk_put (cs := #[.int .i64 0, .int .i64 0]) ?_ 0 _ rfl; (with_reducible repeat (first | refine blk_drewN ?_ _ | refine blk_drew ?_ | refine blk_alloc ?_ _)); exact BK395.out) hb); have n4_ := Aside0.mk (below_step (by repeat (first | (with_reducible first | exact HB.out | apply below_alloc | apply pw_below_drewN | apply below_drew1 | refine below_set ?_ GE376.out | refine below_set ?_ GE395.out) | exact HB.out)) hb); clear HO_10; clear BK376; clear BK395; clear HB; have HO_10 := n0_; have HO399 := n1_; have BK376 := n2_; have BK395 := n3_; have HB := n4_; clear n0_ n1_ n2_ n3_ n4_; (try clear hb); (try clear hb2); (try clear hk); (try clear hi); (try clear ho0); obtain ⟨Ao77, co77, eo77⟩ := Kd.V_slice HO399.out; subst eo77) | (go_at_call 19; (with_reducible refine (platenref03_Bare.calls kj33 _ _ t397 t400 _ ?side1 ?side2 A72.out).mono ?_); (case side1 => repeat (first | exact (Kd.V_reads' HO399.out).2.2 | (with_reducible refine Kd.C_alloc ?_ _) | (with_reducible refine Kd.C_drewN ?_ _) | (with_reducible refine Kd.C_drew ?_))); (case side2 => exact (Kd.V_reads' HO399.out).2.1); rintro e w' ⟨rfl, ⟨nd, rfl⟩⟩))
                                    go_meet
                                    case rel => exact ⟨_, ((t400 != t386)), (by first | rfl | (simp; done) | (simp [*]; done)), H', ⟨by have := HJ3.out; have := HJ13.out; have := HJ33.out; first | omega | exact Nat.le_refl _⟩, ⟨by (with_reducible repeat (first | apply Kd.R_alloc | apply Kd.R_drewN | apply Kd.R_drew)); exact Kd.R_mono HO_10.out (fun _ hk => hk.2)⟩, ⟨by (with_reducible repeat (first | refine blk_drewN ?_ _ | refine blk_drew ?_ | refine blk_alloc ?_ _)); exact BK376.out⟩, ⟨by (with_reducible repeat (first | refine blk_drewN ?_ _ | refine blk_drew ?_ | refine blk_alloc ?_ _)); exact BK395.out⟩, ⟨by repeat (first | (with_reducible first | exact HB.out | apply below_alloc | apply pw_below_drewN | apply below_drew1 | refine below_set ?_ GE376.out | refine below_set ?_ GE395.out) | exact HB.out)⟩⟩
                                  · rw [if_neg c70] at H
                                    exact absurd H (by simp)
                                · rw [if_neg c69] at H
                                  exact absurd H (by simp)
                          · rw [if_neg c60] at H
                            have c60b0 : (t373 == t393) = false := beq_eq_false_iff_ne.mpr c60
                            have c60b1 : (t373 != t393) = true := bne_iff_ne.mpr c60
                            have H' := Aside0.mk H
                            clear H
                            have hnb78 := NB376_395.out
                            have hnc78 := NB395_376.out
                            have hcz79_0 : w56.cell? ⟨gb376, 0, none⟩ = some (.int .i64 t372) := (blk_cell BK376.out 0).trans rfl
                            have hcz79_1 : w56.cell? ⟨gb376, 1, none⟩ = some (.int .i64 t373) := (blk_cell BK376.out 1).trans rfl
                            have hcz79_2 : w56.cell? ⟨gb376, 2, none⟩ = some (.bool t374) := (blk_cell BK376.out 2).trans rfl
                            have hfz79_0 := blk_frozen BK376.out 0
                            have hfz79_1 := blk_frozen BK376.out 1
                            have hfz79_2 := blk_frozen BK376.out 2
                            have hcz80_0 : w56.cell? ⟨gb395, 0, none⟩ = some (.int .i64 0) := (blk_cell BK395.out 0).trans rfl
                            have hcz80_1 : w56.cell? ⟨gb395, 1, none⟩ = some (.int .i64 0) := (blk_cell BK395.out 1).trans rfl
                            have hfz80_0 := blk_frozen BK395.out 0
                            have hfz80_1 := blk_frozen BK395.out 1
                            go_wp2
                            go_meet
                            case rel => exact ⟨_, (true), (by first | rfl | (simp; done) | (simp [*]; done)), H', ⟨by have := HJ3.out; have := HJ13.out; have := HJ33.out; first | omega | exact Nat.le_refl _⟩, ⟨by (with_reducible repeat (first | apply Kd.R_alloc | apply Kd.R_drewN | apply Kd.R_drew)); exact Kd.R_mono (Kd.R_far (p := ⟨gb395, 1, none⟩) (Kd.R_far (p := ⟨gb395, 0, none⟩) (Kd.R_mono HO_10.out (fun k_ hk => (⟨hk, hk.2⟩ : _ ∧ k_ ≠ gb395))) (fun _ hk => hk.2) (.int .i64 t392)) (fun _ hk => hk.2) (.int .i64 t393)) (fun _ hk => hk.1.2)⟩, ⟨by (with_reducible repeat (first | refine blk_drewN ?_ _ | refine blk_drew ?_ | refine blk_alloc ?_ _)); refine blk_far ?_ NB376_395.out _; (with_reducible repeat (first | refine blk_drewN ?_ _ | refine blk_drew ?_ | refine blk_alloc ?_ _)); refine blk_far ?_ NB376_395.out _; (with_reducible repeat (first | refine blk_drewN ?_ _ | refine blk_drew ?_ | refine blk_alloc ?_ _)); exact BK376.out⟩, ⟨by (with_reducible repeat (first | refine blk_drewN ?_ _ | refine blk_drew ?_ | refine blk_alloc ?_ _)); refine blk_put (cs := #[.int .i64 t392, .int .i64 0]) ?_ 1 _ rfl; (with_reducible repeat (first | refine blk_drewN ?_ _ | refine blk_drew ?_ | refine blk_alloc ?_ _)); refine blk_put (cs := #[.int .i64 0, .int .i64 0]) ?_ 0 _ rfl; (with_reducible repeat (first | refine blk_drewN ?_ _ | refine blk_drew ?_ | refine blk_alloc ?_ _)); exact BK395.out⟩, ⟨by repeat (first | (with_reducible first | exact HB.out | apply below_alloc | apply pw_below_drewN | apply below_drew1 | refine below_set ?_ GE376.out | refine below_set ?_ GE395.out) | exact HB.out)⟩⟩
                        · rw [if_neg c59] at H
                          have c59b0 : (t372 == t392) = false := beq_eq_false_iff_ne.mpr c59
                          have c59b1 : (t372 != t392) = true := bne_iff_ne.mpr c59
                          (first | rw [c59b0] | (simp only [i64_w, i32_w]; rw [c59b0]) | skip)
                          have H' := Aside0.mk H
                          clear H
                          have hnb81 := NB376_395.out
                          have hnc81 := NB395_376.out
                          have hcz82_0 : w56.cell? ⟨gb376, 0, none⟩ = some (.int .i64 t372) := (blk_cell BK376.out 0).trans rfl
                          have hcz82_1 : w56.cell? ⟨gb376, 1, none⟩ = some (.int .i64 t373) := (blk_cell BK376.out 1).trans rfl
                          have hcz82_2 : w56.cell? ⟨gb376, 2, none⟩ = some (.bool t374) := (blk_cell BK376.out 2).trans rfl
                          have hfz82_0 := blk_frozen BK376.out 0
                          have hfz82_1 := blk_frozen BK376.out 1
                          have hfz82_2 := blk_frozen BK376.out 2
                          have hcz83_0 : w56.cell? ⟨gb395, 0, none⟩ = some (.int .i64 0) := (blk_cell BK395.out 0).trans rfl
                          have hcz83_1 : w56.cell? ⟨gb395, 1, none⟩ = some (.int .i64 0) := (blk_cell BK395.out 1).trans rfl
                          have hfz83_0 := blk_frozen BK395.out 0
                          have hfz83_1 := blk_frozen BK395.out 1
                          go_wp2
                          go_meet
                          case rel => exact ⟨_, (true), (by first | rfl | (simp; done) | (simp [*]; done)), H', ⟨by have := HJ3.out; have := HJ13.out; have := HJ33.out; first | omega | exact Nat.le_refl _⟩, ⟨by (with_reducible repeat (first | apply Kd.R_alloc | apply Kd.R_drewN | apply Kd.R_drew)); exact Kd.R_mono (Kd.R_far (p := ⟨gb395, 1, none⟩) (Kd.R_far (p := ⟨gb395, 0, none⟩) (Kd.R_mono HO_10.out (fun k_ hk => (⟨hk, hk.2⟩ : _ ∧ k_ ≠ gb395))) (fun _ hk => hk.2) (.int .i64 t392)) (fun _ hk => hk.2) (.int .i64 t393)) (fun _ hk => hk.1.2)⟩, ⟨by (with_reducible repeat (first | refine blk_drewN ?_ _ | refine blk_drew ?_ | refine blk_alloc ?_ _)); refine blk_far ?_ NB376_395.out _; (with_reducible repeat (first | refine blk_drewN ?_ _ | refine blk_drew ?_ | refine blk_alloc ?_ _)); refine blk_far ?_ NB376_395.out _; (with_reducible repeat (first | refine blk_drewN ?_ _ | refine blk_drew ?_ | refine blk_alloc ?_ _)); exact BK376.out⟩, ⟨by (with_reducible repeat (first | refine blk_drewN ?_ _ | refine blk_drew ?_ | refine blk_alloc ?_ _)); refine blk_put (cs := #[.int .i64 t392, .int .i64 0]) ?_ 1 _ rfl; (with_reducible repeat (first | refine blk_drewN ?_ _ | refine blk_drew ?_ | refine blk_alloc ?_ _)); refine blk_put (cs := #[.int .i64 0, .int .i64 0]) ?_ 0 _ rfl; (with_reducible repeat (first | refine blk_drewN ?_ _ | refine blk_drew ?_ | refine blk_alloc ?_ _)); exact BK395.out⟩, ⟨by repeat (first | (with_reducible first | exact HB.out | apply below_alloc | apply pw_below_drewN | apply below_drew1 | refine below_set ?_ GE376.out | refine below_set ?_ GE395.out) | exact HB.out)⟩⟩
                      case rest => as_aux_lemma =>
                        clear HC54
                        try clear c1
                        try clear c2
                        try clear p2
                        try clear c3
                        try clear p3
                        try clear q3
                        try clear hx3
                        try clear c4
                        try clear c5
                        try clear c6
                        try clear p6
                        try clear c7
                        try clear c8
                        try clear c9
                        try clear c13
                        try clear c14
                        try clear c17
                        try clear c18
                        try clear c18b0
                        try clear c18b1
                        try clear c19
                        try clear c20
                        try clear c20b0
                        try clear c21
                        try clear c22
                        try clear c22b0
                        try clear c26
                        try clear c30
                        try clear c30b0
                        try clear c31
                        try clear c31b0
                        try clear p38
                        try clear q38
                        try clear hx38
                        try clear p39
                        try clear q39
                        try clear hx39
                        try clear c42
                        try clear c42b0
                        try clear c44
                        try clear c44b0
                        try clear c45
                        try clear c45b0
                        try clear c48
                        try clear c48b0
                        try clear c48b1
                        try clear c48b2
                        try clear c57
                        try clear c59
                        try clear c59b0
                        try clear c59b1
                        try clear c60
                        try clear c60b0
                        try clear c60b1
                        try clear c61
                        try clear c61b0
                        try clear c62
                        try clear p64
                        try clear c65
                        try clear c65b0
                        try clear c66
                        try clear c69
                        try clear c69b0
                        try clear c70
                        try clear c70b0
                        try clear c73
                        try clear c78
                        try clear c81
                        try clear hcz17_0
                        try clear hcz17_1
                        try clear hcz17_2
                        try clear hcz21_0
                        try clear hcz21_1
                        try clear hcz21_2
                        try clear hcz23_0
                        try clear hcz23_1
                        try clear hcz23_2
                        try clear hcz24_0
                        try clear hcz24_1
                        try clear hcz24_2
                        try clear hcz25_0
                        try clear hcz25_1
                        try clear hcz25_2
                        try clear hcz36_0
                        try clear hcz36_1
                        try clear hcz36_2
                        try clear hcz58_0
                        try clear hcz58_1
                        try clear hcz63_0
                        try clear hcz63_1
                        try clear hcz63_2
                        try clear hcz64_0
                        try clear hcz64_1
                        try clear hcz67_0
                        try clear hcz67_1
                        try clear hcz67_2
                        try clear hcz68_0
                        try clear hcz68_1
                        try clear hcz74_0
                        try clear hcz74_1
                        try clear hcz74_2
                        try clear hcz75_0
                        try clear hcz75_1
                        try clear hcz79_0
                        try clear hcz79_1
                        try clear hcz79_2
                        try clear hcz80_0
                        try clear hcz80_1
                        try clear hcz82_0
                        try clear hcz82_1
                        try clear hcz82_2
                        try clear hcz83_0
                        try clear hcz83_1
                        try clear hfz17_0
                        try clear hfz17_1
                        try clear hfz17_2
                        try clear hfz21_0
                        try clear hfz21_1
                        try clear hfz21_2
                        try clear hfz23_0
                        try clear hfz23_1
                        try clear hfz23_2
                        try clear hfz24_0
                        try clear hfz24_1
                        try clear hfz24_2
                        try clear hfz25_0
                        try clear hfz25_1
                        try clear hfz25_2
                        try clear hfz36_0
                        try clear hfz36_1
                        try clear hfz36_2
                        try clear hfz58_0
                        try clear hfz58_1
                        try clear hfz63_0
                        try clear hfz63_1
                        try clear hfz63_2
                        try clear hfz64_0
                        try clear hfz64_1
                        try clear hfz67_0
                        try clear hfz67_1
                        try clear hfz67_2
                        try clear hfz68_0
                        try clear hfz68_1
                        try clear hfz74_0
                        try clear hfz74_1
                        try clear hfz74_2
                        try clear hfz75_0
                        try clear hfz75_1
                        try clear hfz79_0
                        try clear hfz79_1
                        try clear hfz79_2
                        try clear hfz80_0
                        try clear hfz80_1
                        try clear hfz82_0
                        try clear hfz82_1
                        try clear hfz82_2
                        try clear hfz83_0
                        try clear hfz83_1
                        try clear hx382_0
                        try clear hx382_1
                        try clear hx387_0
                        try clear hx387_1
                        try clear hx396_0
                        try clear hx396_1
                        try clear p2
                        try clear p3
                        try clear p38
                        try clear p382
                        try clear p387
                        try clear p396
                        try clear p6
                        try clear q3
                        try clear q38
                        try clear q382
                        try clear q387
                        try clear q396
                        obtain ⟨kq, x145_53, rfl, HA, HJ53, HO_10, BK376, BK395, HB⟩ := hcut
                        cases kq with
                        | zero => exact absurd HA.out (by simp [platenlaw20_ObjectParagraphs.j4])
                        | succ kj53 =>
                          have H := HA.out
                          clear HA
                          simp only [platenlaw20_ObjectParagraphs.j4] at H
                          by_cases c84 : x145_53 = true
                          · subst c84
                            have H1 : (some false) = some r := by rw [if_pos rfl] at H; exact H
                            clear H
                            have H := H1
                            clear H1
                            obtain rfl := Option.some.inj H
                            go_wp2
                            go_ret
                            exact ⟨by first | rfl | (simp [errW_none, errW_some] <;> rfl) | (simp [*, errW_none, errW_some] <;> rfl), by repeat (first | (with_reducible first | exact HB.out | apply below_alloc | apply pw_below_drewN | apply below_drew1 | refine below_set ?_ GE376.out | refine below_set ?_ GE395.out) | exact HB.out)⟩
                          · replace c84 := Bool.eq_false_iff.mpr c84
                            subst c84
                            have H1 : (if t380 > 0 then (if 0 ≤ (wrap64 (t380 - 1)) then (if (wrap64 (t380 - 1)) < (t377.length : Int) then ((platenref03_Text.f l0 ((rd_T25 t377 (wrap64 (t380 - 1))).f0) ((rd_T25 t377 (wrap64 (t380 - 1))).f1)).bind fun t402 => ((platenref03_Bare.f kj53 t402).bind fun t405 => (platenlaw20_ObjectParagraphs.j5 kj53 l0 a2 (t405 == t386) t372 t373 t374))) else (none)) else (none)) else (platenlaw20_ObjectParagraphs.j5 kj53 l0 a2 false t372 t373 t374)) = some r := by rw [if_neg (show ¬ (false = true) by decide)] at H; exact H
                            clear H
                            have H := H1
                            clear H1
                            have HC85 := Aside0.mk H
                            clear H
                            go_upto_region 16 with (fail)
                            go_cut [159] (fun v159 wc => ∃ (kq : Nat) (x159_84 : Bool), v159 = .bool x159_84 ∧ Aside0 (platenlaw20_ObjectParagraphs.j5 kq l0 a2 x159_84 t372 t373 t374 = some r) ∧ Aside0 (kq ≤ kj53) ∧ Aside0 (wc.heap[gb376]? = some (.cells #[.int .i64 t372, .int .i64 t373, .bool t374] 27 (0, 0))) ∧ Aside0 (wc.heap[gb395]? = some (.cells #[.int .i64 t392, .int .i64 t393] 25 (0, 0))) ∧ Aside0 (Below w.heap.size w wc))
                            case first =>
                              have H := HC85.out
                              clear HC85
                              by_cases c86 : t380 > 0
                              · rw [if_pos c86] at H
                                have c86b0 : decide (0 < t380) = true := decide_eq_true c86
                                clear c86
                                (first | rw [c86b0] | (simp only [i64_w, i32_w]; rw [c86b0]) | skip)
                                obtain ⟨ji87, hji87⟩ : ∃ j_ : Int, (wrap64 (t380 - 1)) = j_ := ⟨_, rfl⟩
                                replace H : (if 0 ≤ (ji87) then (if (ji87) < (t377.length : Int) then ((platenref03_Text.f l0 ((rd_T25 t377 (ji87)).f0) ((rd_T25 t377 (ji87)).f1)).bind fun t402 => ((platenref03_Bare.f kj53 t402).bind fun t405 => (platenlaw20_ObjectParagraphs.j5 kj53 l0 a2 (t405 == t386) t372 t373 t374))) else (none)) else (none)) = some r := by first | (rw [hji87] at H; exact H) | (simp only [hji87] at H ⊢; exact H)
                                have hji87w : (IntKind.i64.wrap (t380 - 1)) = ji87 := (i64_w _).trans hji87
                                by_cases c88 : 0 ≤ (ji87)
                                · rw [if_pos c88] at H
                                  have c88b0 : decide (0 ≤ (ji87)) = true := decide_eq_true c88
                                  clear c88
                                  by_cases c89 : (ji87) < (t377.length : Int)
                                  · rw [if_pos c89] at H
                                    have c89b0 : decide ((ji87) < (t377.length : Int)) = true := decide_eq_true c89
                                    clear c89
                                    replace H := Option.bind_eq_some_iff.mp H
                                    obtain ⟨t402, A900, H⟩ := H
                                    replace H : ((platenref03_Bare.f kj53 t402).bind fun t405 => (platenlaw20_ObjectParagraphs.j5 kj53 l0 a2 (t405 == t386) t372 t373 t374)) = some r := H
                                    have A90 := Aside0.mk A900
                                    clear A900
                                    replace H := Option.bind_eq_some_iff.mp H
                                    obtain ⟨t405, A910, H⟩ := H
                                    replace H : (platenlaw20_ObjectParagraphs.j5 kj53 l0 a2 (t405 == t386) t372 t373 t374) = some r := H
                                    have A91 := Aside0.mk A910
                                    clear A910
                                    have H' := Aside0.mk H
                                    clear H
                                    have p401 : 0 ≤ ((ji87) : Int) := of_decide_eq_true (by first | (with_reducible assumption) | assumption)
                                    have q401 : (ji87) < (t377.length : Int) := of_decide_eq_true (by first | (with_reducible assumption) | assumption)
                                    obtain ⟨ad401, e401, hx401_0, hx401_1⟩ := at_T25 (Kd.R_reads' HO_10.out).2.2 (ji87) p401 q401
                                    obtain rfl : ad382 = ad401 := (by injection e401)
                                    replace p401 := eq_true p401
                                    replace q401 := eq_true q401
                                    go_wp2_with (first | (go_at_call 20; (with_reducible refine (platenref03_Text.calls (fun k_ => k_ < w.heap.size) _ _ l0 ((rd_T25 t377 (ji87)).f0) ((rd_T25 t377 (ji87)).f1) t402 _ ?side1 A90.out).mono ?_); (case side1 => exact Kd.V_mk HC0.out (Kd.F_below (Kd.C_F (Kd.heap_int .u8) HR0.out) (by repeat (first | (with_reducible first | exact HB.out | apply below_alloc | apply pw_below_drewN | apply below_drew1 | refine below_set ?_ GE376.out | refine below_set ?_ GE395.out) | exact HB.out)))); rintro e w92 ⟨v403, rfl, ho0, hb⟩; have n0_ := Aside0.mk (Kd.R_below (by (with_reducible repeat (first | apply Kd.R_alloc | apply Kd.R_drewN | apply Kd.R_drew)); exact HO_10.out) hb); have n1_ := Aside0.mk (Kd.V_lower (Kd.V_mono (ok' := fun k_ => some k_ ≠ (.slice (some ad382) t377.length co39 : Value).ownBlock ∧ k_ ≠ gb376 ∧ k_ ≠ gb395) ho0 (fun k_ hk_ => ⟨Or.elim hk_ (fun hs_ => fun e_ => Nat.not_le.2 hs_ (Kd.R_base HO_10.out k_ e_.symm)) (fun hn_ => (Kd.fresh' (Kd.R_lt (by (with_reducible repeat (first | apply Kd.R_alloc | apply Kd.R_drewN | apply Kd.R_drew)); exact HO_10.out)) k_ hn_)), Or.elim hk_ (fun hs_ => fun e_ => Nat.not_le.2 hs_ (by rw [e_]; exact GW376.out)) (fun hn_ => (Kd.freshB (g := gb376) (o := .cells #[.int .i64 t372, .int .i64 t373, .bool t374] 27 (0, 0)) (by (with_reducible repeat (first | refine blk_drewN ?_ _ | refine blk_drew ?_ | refine blk_alloc ?_ _)); exact BK376.out) k_ hn_)), Or.elim hk_ (fun hs_ => fun e_ => Nat.not_le.2 hs_ (by rw [e_]; exact GW395.out)) (fun hn_ => (Kd.freshB (g := gb395) (o := .cells #[.int .i64 t392, .int .i64 t393] 25 (0, 0)) (by (with_reducible repeat (first | refine blk_drewN ?_ _ | refine blk_drew ?_ | refine blk_alloc ?_ _)); exact BK395.out) k_ hn_))⟩)) (below_size (by repeat (first | (with_reducible first | exact HB.out | apply below_alloc | apply pw_below_drewN | apply below_drew1 | refine below_set ?_ GE376.out | refine below_set ?_ GE395.out) | exact HB.out)))); have n2_ := Aside0.mk (blk_below (g := gb376) (o := .cells #[.int .i64 t372, .int .i64 t373, .bool t374] 27 (0, 0)) (by (with_reducible repeat (first | refine blk_drewN ?_ _ | refine blk_drew ?_ | refine blk_alloc ?_ _)); exact BK376.out) hb); have n3_ := Aside0.mk (blk_below (g := gb395) (o := .cells #[.int .i64 t392, .int .i64 t393] 25 (0, 0)) (by (with_reducible repeat (first | refine blk_drewN ?_ _ | refine blk_drew ?_ | refine blk_alloc ?_ _)); exact BK395.out) hb); have n4_ := Aside0.mk (below_step (by repeat (first | (with_reducible first | exact HB.out | apply below_alloc | apply pw_below_drewN | apply below_drew1 | refine below_set ?_ GE376.out | refine below_set ?_ GE395.out) | exact HB.out)) hb); clear HO_10; clear BK376; clear BK395; clear HB; have HO_10 := n0_; have HO404 := n1_; have BK376 := n2_; have BK395 := n3_; have HB := n4_; clear n0_ n1_ n2_ n3_ n4_; (try clear hb); (try clear hb2); (try clear hk); (try clear hi); (try clear ho0); obtain ⟨Ao93, co93, eo93⟩ := Kd.V_slice HO404.out; subst eo93) | (go_at_call 19; (with_reducible refine (platenref03_Bare.calls kj53 _ _ t402 t405 _ ?side1 ?side2 A91.out).mono ?_); (case side1 => repeat (first | exact (Kd.V_reads' HO404.out).2.2 | (with_reducible refine Kd.C_alloc ?_ _) | (with_reducible refine Kd.C_drewN ?_ _) | (with_reducible refine Kd.C_drew ?_))); (case side2 => exact (Kd.V_reads' HO404.out).2.1); rintro e w' ⟨rfl, ⟨nd, rfl⟩⟩))
                                    go_meet
                                    case rel => exact ⟨_, ((t405 == t386)), (by first | rfl | (simp; done) | (simp [*]; done)), H', ⟨by have := HJ3.out; have := HJ13.out; have := HJ33.out; have := HJ53.out; first | omega | exact Nat.le_refl _⟩, ⟨by (with_reducible repeat (first | refine blk_drewN ?_ _ | refine blk_drew ?_ | refine blk_alloc ?_ _)); exact BK376.out⟩, ⟨by (with_reducible repeat (first | refine blk_drewN ?_ _ | refine blk_drew ?_ | refine blk_alloc ?_ _)); exact BK395.out⟩, ⟨by repeat (first | (with_reducible first | exact HB.out | apply below_alloc | apply pw_below_drewN | apply below_drew1 | refine below_set ?_ GE376.out | refine below_set ?_ GE395.out) | exact HB.out)⟩⟩
                                  · rw [if_neg c89] at H
                                    exact absurd H (by simp)
                                · rw [if_neg c88] at H
                                  exact absurd H (by simp)
                              · rw [if_neg c86] at H
                                have c86b0 : decide (0 < t380) = false := decide_eq_false c86
                                clear c86
                                (first | rw [c86b0] | (simp only [i64_w, i32_w]; rw [c86b0]) | skip)
                                have H' := Aside0.mk H
                                clear H
                                go_wp2
                                go_meet
                                case rel => exact ⟨_, (false), (by first | rfl | (simp; done) | (simp [*]; done)), H', ⟨by have := HJ3.out; have := HJ13.out; have := HJ33.out; have := HJ53.out; first | omega | exact Nat.le_refl _⟩, ⟨by (with_reducible repeat (first | refine blk_drewN ?_ _ | refine blk_drew ?_ | refine blk_alloc ?_ _)); exact BK376.out⟩, ⟨by (with_reducible repeat (first | refine blk_drewN ?_ _ | refine blk_drew ?_ | refine blk_alloc ?_ _)); exact BK395.out⟩, ⟨by repeat (first | (with_reducible first | exact HB.out | apply below_alloc | apply pw_below_drewN | apply below_drew1 | refine below_set ?_ GE376.out | refine below_set ?_ GE395.out) | exact HB.out)⟩⟩
                            case rest => as_aux_lemma =>
                              clear HC85
                              try clear c1
                              try clear c2
                              try clear p2
                              try clear c3
                              try clear p3
                              try clear q3
                              try clear hx3
                              try clear c4
                              try clear p4
                              try clear q4
                              try clear hx4
                              try clear c5
                              try clear c6
                              try clear p6
                              try clear c7
                              try clear c8
                              try clear c9
                              try clear c13
                              try clear c14
                              try clear c17
                              try clear c18
                              try clear c18b0
                              try clear c18b1
                              try clear c19
                              try clear c20
                              try clear c20b0
                              try clear c21
                              try clear c22
                              try clear c22b0
                              try clear c26
                              try clear c30
                              try clear c30b0
                              try clear c31
                              try clear c31b0
                              try clear p38
                              try clear q38
                              try clear hx38
                              try clear p39
                              try clear q39
                              try clear hx39
                              try clear p40
                              try clear q40
                              try clear hx40
                              try clear c42
                              try clear c42b0
                              try clear c44
                              try clear c44b0
                              try clear c45
                              try clear c45b0
                              try clear c48
                              try clear c48b0
                              try clear c48b1
                              try clear c48b2
                              try clear c57
                              try clear c59
                              try clear c59b0
                              try clear c59b1
                              try clear c60
                              try clear c60b0
                              try clear c60b1
                              try clear c61
                              try clear c61b0
                              try clear c62
                              try clear p64
                              try clear c65
                              try clear c65b0
                              try clear c66
                              try clear c69
                              try clear c69b0
                              try clear c70
                              try clear c70b0
                              try clear c73
                              try clear c78
                              try clear c81
                              try clear c84
                              try clear c86
                              try clear c86b0
                              try clear c88
                              try clear c88b0
                              try clear c89
                              try clear c89b0
                              try clear hcz17_0
                              try clear hcz17_1
                              try clear hcz17_2
                              try clear hcz21_0
                              try clear hcz21_1
                              try clear hcz21_2
                              try clear hcz23_0
                              try clear hcz23_1
                              try clear hcz23_2
                              try clear hcz24_0
                              try clear hcz24_1
                              try clear hcz24_2
                              try clear hcz25_0
                              try clear hcz25_1
                              try clear hcz25_2
                              try clear hcz36_0
                              try clear hcz36_1
                              try clear hcz36_2
                              try clear hcz58_0
                              try clear hcz58_1
                              try clear hcz63_0
                              try clear hcz63_1
                              try clear hcz63_2
                              try clear hcz64_0
                              try clear hcz64_1
                              try clear hcz67_0
                              try clear hcz67_1
                              try clear hcz67_2
                              try clear hcz68_0
                              try clear hcz68_1
                              try clear hcz74_0
                              try clear hcz74_1
                              try clear hcz74_2
                              try clear hcz75_0
                              try clear hcz75_1
                              try clear hcz79_0
                              try clear hcz79_1
                              try clear hcz79_2
                              try clear hcz80_0
                              try clear hcz80_1
                              try clear hcz82_0
                              try clear hcz82_1
                              try clear hcz82_2
                              try clear hcz83_0
                              try clear hcz83_1
                              try clear hfz17_0
                              try clear hfz17_1
                              try clear hfz17_2
                              try clear hfz21_0
                              try clear hfz21_1
                              try clear hfz21_2
                              try clear hfz23_0
                              try clear hfz23_1
                              try clear hfz23_2
                              try clear hfz24_0
                              try clear hfz24_1
                              try clear hfz24_2
                              try clear hfz25_0
                              try clear hfz25_1
                              try clear hfz25_2
                              try clear hfz36_0
                              try clear hfz36_1
                              try clear hfz36_2
                              try clear hfz58_0
                              try clear hfz58_1
                              try clear hfz63_0
                              try clear hfz63_1
                              try clear hfz63_2
                              try clear hfz64_0
                              try clear hfz64_1
                              try clear hfz67_0
                              try clear hfz67_1
                              try clear hfz67_2
                              try clear hfz68_0
                              try clear hfz68_1
                              try clear hfz74_0
                              try clear hfz74_1
                              try clear hfz74_2
                              try clear hfz75_0
                              try clear hfz75_1
                              try clear hfz79_0
                              try clear hfz79_1
                              try clear hfz79_2
                              try clear hfz80_0
                              try clear hfz80_1
                              try clear hfz82_0
                              try clear hfz82_1
                              try clear hfz82_2
                              try clear hfz83_0
                              try clear hfz83_1
                              try clear hx382_0
                              try clear hx382_1
                              try clear hx387_0
                              try clear hx387_1
                              try clear hx396_0
                              try clear hx396_1
                              try clear hx401_0
                              try clear hx401_1
                              try clear p2
                              try clear p3
                              try clear p38
                              try clear p382
                              try clear p387
                              try clear p39
                              try clear p396
                              try clear p401
                              try clear p6
                              try clear p64
                              try clear q3
                              try clear q38
                              try clear q382
                              try clear q387
                              try clear q39
                              try clear q396
                              try clear q401
                              obtain ⟨kq, x159_84, rfl, HA, HJ84, BK376, BK395, HB⟩ := hcut
                              cases kq with
                              | zero => exact absurd HA.out (by simp [platenlaw20_ObjectParagraphs.j5])
                              | succ kj84 =>
                                have H := HA.out
                                clear HA
                                simp only [platenlaw20_ObjectParagraphs.j5] at H
                                by_cases c94 : x159_84 = true
                                · subst c94
                                  have H1 : (some false) = some r := by rw [if_pos rfl] at H; exact H
                                  clear H
                                  have H := H1
                                  clear H1
                                  obtain rfl := Option.some.inj H
                                  go_wp2
                                  go_ret
                                  exact ⟨by first | rfl | (simp [errW_none, errW_some] <;> rfl) | (simp [*, errW_none, errW_some] <;> rfl), by repeat (first | (with_reducible first | exact HB.out | apply below_alloc | apply pw_below_drewN | apply below_drew1 | refine below_set ?_ GE376.out | refine below_set ?_ GE395.out) | exact HB.out)⟩
                                · replace c94 := Bool.eq_false_iff.mpr c94
                                  subst c94
                                  have H1 : (if t373 = 0 then (some true) else ((object_Inner.f kj84 l0 (wrap64 (t372 + (Int.tmod (wrap64 (a2)) t373))) 112).bind fun bt406 => (if bt406.2.2.2 = 0 then (some ((bt406.1 == t372 && (bt406.2.1 == t373)) && (bt406.2.2.1 == t374))) else (some false)))) = some r := by rw [if_neg (show ¬ (false = true) by decide)] at H; exact H
                                  clear H
                                  have H := H1
                                  clear H1
                                  by_cases c95 : t373 = 0
                                  · rw [if_pos c95] at H
                                    have c95b0 : (t373 == 0) = true := beq_iff_eq.mpr c95
                                    have c95b1 : (t373 != 0) = false := bne_eq_false_iff_eq.mpr c95
                                    clear c95
                                    obtain rfl := Option.some.inj H
                                    have hnb96 := NB376_395.out
                                    have hnc96 := NB395_376.out
                                    have hcz97_0 : wc.cell? ⟨gb376, 0, none⟩ = some (.int .i64 t372) := (blk_cell BK376.out 0).trans rfl
                                    have hcz97_1 : wc.cell? ⟨gb376, 1, none⟩ = some (.int .i64 t373) := (blk_cell BK376.out 1).trans rfl
                                    have hcz97_2 : wc.cell? ⟨gb376, 2, none⟩ = some (.bool t374) := (blk_cell BK376.out 2).trans rfl
                                    have hfz97_0 := blk_frozen BK376.out 0
                                    have hfz97_1 := blk_frozen BK376.out 1
                                    have hfz97_2 := blk_frozen BK376.out 2
                                    go_wp2
                                    go_ret
                                    exact ⟨by first | rfl | (simp [errW_none, errW_some] <;> rfl) | (simp [*, errW_none, errW_some] <;> rfl), by repeat (first | (with_reducible first | exact HB.out | apply below_alloc | apply pw_below_drewN | apply below_drew1 | refine below_set ?_ GE376.out | refine below_set ?_ GE395.out) | exact HB.out)⟩
                                  · rw [if_neg c95] at H
                                    have c95b0 : (t373 == 0) = false := beq_eq_false_iff_ne.mpr c95
                                    have c95b1 : (t373 != 0) = true := bne_iff_ne.mpr c95
                                    replace H := Option.bind_eq_some_iff.mp H
                                    obtain ⟨⟨t406, t407, t408, t409⟩, A980, H⟩ := H
                                    replace H : (if t409 = 0 then (some ((t406 == t372 && (t407 == t373)) && (t408 == t374))) else (some false)) = some r := H
                                    have A98 := Aside0.mk A980
                                    clear A980
                                    by_cases c99 : t409 = 0
                                    · rw [if_pos c99] at H
                                      have c99b0 : (t409 == 0) = true := beq_iff_eq.mpr c99
                                      have c99b1 : (t409 != 0) = false := bne_eq_false_iff_eq.mpr c99
                                      clear c99
                                      obtain rfl := Option.some.inj H
                                      have hnb100 := NB376_395.out
                                      have hnc100 := NB395_376.out
                                      have hcz101_0 : wc.cell? ⟨gb376, 0, none⟩ = some (.int .i64 t372) := (blk_cell BK376.out 0).trans rfl
                                      have hcz101_1 : wc.cell? ⟨gb376, 1, none⟩ = some (.int .i64 t373) := (blk_cell BK376.out 1).trans rfl
                                      have hcz101_2 : wc.cell? ⟨gb376, 2, none⟩ = some (.bool t374) := (blk_cell BK376.out 2).trans rfl
                                      have hfz101_0 := blk_frozen BK376.out 0
                                      have hfz101_1 := blk_frozen BK376.out 1
                                      have hfz101_2 := blk_frozen BK376.out 2
                                      try go_wp2
                                      have n0_ := Aside0.mk (blk_drew BK376.out)
                                      have n1_ := Aside0.mk (blk_drew BK395.out)
                                      have n2_ := Aside0.mk (below_drew1 HB.out)
                                      clear BK376
                                      clear BK395
                                      clear HB
                                      have BK376 := n0_
                                      have BK395 := n1_
                                      have HB := n2_
                                      clear n0_ n1_ n2_
                                      refine start_ (n := 18) (S := fun w' => w'.cell? ⟨gb376, 0, none⟩ = some (.int .i64 t372) ∧ w'.cell? ⟨gb376, 1, none⟩ = some (.int .i64 t373) ∧ w'.cell? ⟨gb376, 2, none⟩ = some (.bool t374)) (ds := []) #[false, false, false, false, false, false, false, false, false, false, false, false, false, false, false, false, false, false] (by kernel_rfl) rfl rfl ⟨(blk_cell BK376.out 0).trans rfl, (blk_cell BK376.out 1).trans rfl, (blk_cell BK376.out 2).trans rfl⟩ (fun hHeld => ?_); refine with_tabW platenlaw20_ObjectParagraphs.tab20 platenlaw20_ObjectParagraphs.bits20 (fun HT_ HW_ => ?_)
                                      generalize wc.drew = w102 at BK376 BK395 HB hHeld ⊢
                                      refine pure_ (i := 0) (N := some 165) (v := ?_) (a' := ?_) #[true, false, false, false, false, false, false, false, false, false, false, false, false, false, false, false, false, false] rfl rfl (any_of HT_.out (by kernel_rfl)) (fun _ _ _ h => h) (Or.inl ⟨by rfl, ?_⟩) ?_ ?_
                                      rotate_left
                                      · intro w'
                                        go_simp
                                        with_reducible rfl
                                      rotate_left
                                      · simp only [Act.put, List.setIfInBounds_toArray, List.set_cons_zero, List.set_cons_succ, i64_w, i32_w]
                                        rfl
                                      refine pure_ (i := 1) (N := some 166) (v := ?_) (a' := ?_) #[true, true, false, false, false, false, false, false, false, false, false, false, false, false, false, false, false, false] rfl rfl (any_of HT_.out (by kernel_rfl)) (fun _ _ _ h => h) (Or.inl ⟨by rfl, ?_⟩) ?_ ?_
                                      rotate_left
                                      · intro w'
                                        go_simp
                                        with_reducible rfl
                                      rotate_left
                                      · simp only [Act.put, List.setIfInBounds_toArray, List.set_cons_zero, List.set_cons_succ, i64_w, i32_w]
                                        rfl
                                      refine pure_ (i := 2) (N := some 167) (v := ?_) (a' := ?_) #[true, true, true, false, false, false, false, false, false, false, false, false, false, false, false, false, false, false] rfl rfl (any_of HT_.out (by kernel_rfl)) (fun _ _ _ h => h) (Or.inl ⟨by rfl, ?_⟩) ?_ ?_
                                      rotate_left
                                      · intro w'
                                        go_simp
                                        with_reducible rfl
                                      rotate_left
                                      · simp only [Act.put, List.setIfInBounds_toArray, List.set_cons_zero, List.set_cons_succ, i64_w, i32_w]
                                        rfl
                                      refine pure_ (i := 4) (N := some 169) (v := ?_) (a' := ?_) #[true, true, true, false, true, false, false, false, false, false, false, false, false, false, false, false, false, false] rfl rfl (any_of HT_.out (by kernel_rfl)) (fun _ _ _ h => h) (Or.inl ⟨by rfl, ?_⟩) ?_ ?_
                                      rotate_left
                                      · intro w'
                                        go_simp
                                        with_reducible rfl
                                      rotate_left
                                      · simp only [Act.put, List.setIfInBounds_toArray, List.set_cons_zero, List.set_cons_succ, i64_w, i32_w]
                                        rfl
                                      refine pure_ (i := 5) (N := some 170) (v := ?_) (a' := ?_) #[true, true, true, false, true, true, false, false, false, false, false, false, false, false, false, false, false, false] rfl rfl (any_of HT_.out (by kernel_rfl)) (fun _ _ _ h => h) (Or.inl ⟨by rfl, ?_⟩) ?_ ?_
                                      rotate_left
                                      · intro w'
                                        go_simp
                                        with_reducible rfl
                                      rotate_left
                                      · simp only [Act.put, List.setIfInBounds_toArray, List.set_cons_zero, List.set_cons_succ, i64_w, i32_w]
                                        rfl
                                      refine pure_ (i := 6) (N := some 171) (v := ?_) (a' := ?_) #[true, true, true, false, true, true, true, false, false, false, false, false, false, false, false, false, false, false] rfl rfl (any_of HT_.out (by kernel_rfl)) (fun _ _ _ h => h) (Or.inl ⟨by rfl, ?_⟩) ?_ ?_
                                      rotate_left
                                      · intro w'
                                        go_simp
                                        with_reducible rfl
                                      rotate_left
                                      · simp only [Act.put, List.setIfInBounds_toArray, List.set_cons_zero, List.set_cons_succ, i64_w, i32_w]
                                        rfl
                                      refine pure_ (i := 7) (N := some 172) (v := ?_) (a' := ?_) #[true, true, true, false, true, true, true, true, false, false, false, false, false, false, false, false, false, false] rfl rfl (any_of HT_.out (by kernel_rfl)) (fun _ _ _ h => h) (Or.inl ⟨by rfl, ?_⟩) ?_ ?_
                                      rotate_left
                                      · intro w'
                                        go_simp
                                        with_reducible rfl
                                      rotate_left
                                      · simp only [Act.put, List.setIfInBounds_toArray, List.set_cons_zero, List.set_cons_succ, i64_w, i32_w]
                                        rfl
                                      refine take_ (i := 3) (N := some 168) (v := ?_) (a' := ?_) #[true, true, true, true, true, true, true, true, false, false, false, false, false, false, false, false, false, false] rfl rfl (take_ofW HT_.out HW_.out (by kernel_rfl)) (fun _ _ _ h => h) (Or.inl ⟨by rfl, ?_⟩) hHeld ?_ ?_
                                      rotate_left
                                      · rintro w' ⟨s0, s1, s2⟩
                                        go_simp
                                        with_reducible rfl
                                      rotate_left
                                      · simp only [Act.put, List.setIfInBounds_toArray, List.set_cons_zero, List.set_cons_succ, i64_w, i32_w]
                                        rfl
                                      refine take_ (i := 8) (N := some 173) (v := ?_) (a' := ?_) #[true, true, true, true, true, true, true, true, true, false, false, false, false, false, false, false, false, false] rfl rfl (take_ofW HT_.out HW_.out (by kernel_rfl)) (fun _ _ _ h => h) (Or.inl ⟨by rfl, ?_⟩) hHeld ?_ ?_
                                      rotate_left
                                      · rintro w' ⟨s0, s1, s2⟩
                                        go_simp
                                        with_reducible rfl
                                      rotate_left
                                      · simp only [Act.put, List.setIfInBounds_toArray, List.set_cons_zero, List.set_cons_succ, i64_w, i32_w]
                                        rfl
                                      refine pure_ (i := 9) (N := some 174) (v := ?_) (a' := ?_) #[true, true, true, true, true, true, true, true, true, true, false, false, false, false, false, false, false, false] rfl rfl (any_of HT_.out (by kernel_rfl)) (fun _ _ _ h => h) (Or.inl ⟨by rfl, ?_⟩) ?_ ?_
                                      rotate_left
                                      · intro w'
                                        go_simp
                                        with_reducible rfl
                                      rotate_left
                                      · simp only [Act.put, List.setIfInBounds_toArray, List.set_cons_zero, List.set_cons_succ, i64_w, i32_w]
                                        rfl
                                      refine pure_ (i := 10) (N := some 175) (v := ?_) (a' := ?_) #[true, true, true, true, true, true, true, true, true, true, true, false, false, false, false, false, false, false] rfl rfl (any_of HT_.out (by kernel_rfl)) (fun _ _ _ h => h) (Or.inl ⟨by rfl, ?_⟩) ?_ ?_
                                      rotate_left
                                      · intro w'
                                        go_simp
                                        with_reducible rfl
                                      rotate_left
                                      · simp only [Act.put, List.setIfInBounds_toArray, List.set_cons_zero, List.set_cons_succ, i64_w, i32_w]
                                        rfl
                                      refine join_ (σ := Nat) 2 #[true, true, true, true, true, true, true, true, true, true, true, true, true, true, true, true, false, false] (fun s_ => [(176, .tuple #[.agg #[.int .i64 t406, .int .i64 t407, .bool t408], .int .i64 t409]), (17, .pointer (some ⟨s_, 0, none⟩)), (164, .tuple #[.agg #[.int .i64 t406, .int .i64 t407, .bool t408], .int .i64 t409]), (177, .agg #[.int .i64 t406, .int .i64 t407, .bool t408]), (178, .int .i64 t409)]) (fun s_ w' => (w'.cell? ⟨gb376, 0, none⟩ = some (.int .i64 t372) ∧ w'.cell? ⟨gb376, 1, none⟩ = some (.int .i64 t373) ∧ w'.cell? ⟨gb376, 2, none⟩ = some (.bool t374)) ∧ (w'.heap[gb376]? = some (.cells #[.int .i64 t372, .int .i64 t373, .bool t374] 27 (0, 0))) ∧ (w'.heap[gb395]? = some (.cells #[.int .i64 t392, .int .i64 t393] 25 (0, 0))) ∧ (w'.heap[s_]? = some (.cells #[.int .i64 0, .int .i64 0, .bool false] 27 (0, 0))) ∧ (w.heap.size ≤ s_) ∧ (w.heap.size ≤ s_) ∧ (gb376 ≠ s_) ∧ (s_ ≠ gb376) ∧ (gb395 ≠ s_) ∧ (s_ ≠ gb395) ∧ (Below w.heap.size w w')) ?_ ?_
                                      rotate_left
                                      · intro hCont
                                        refine two_ (i := 11) (j := 15) (Ni := some 176) (Nj := some 17) #[true, true, true, true, true, true, true, true, true, true, true, true, false, false, false, false, false, false] #[true, true, true, true, true, true, true, true, true, true, true, false, false, false, false, true, false, false] rfl rfl rfl rfl (two_of HT_.out (by kernel_rfl)) (by decide) (by decide) (fun K hK => ?_) (fun K hK => ?_)
                                        · skip
                                          refine goes_ Try.func13 (by kernel_rfl) rfl #[.slice A0 l0.length c0, .int .i64 (wrap64 (t372 + (Int.tmod (wrap64 (a2)) t373))), .int .u8 112] (by rfl) rfl rfl (by (try simp only [List.map_toArray, List.map_cons, List.map_nil]); first | done | rfl | (simp only [List.length_drop, List.length_take]; rfl)) ?_
                                          with_reducible refine (object_Inner.calls kj84 _ _ l0 (wrap64 (t372 + (Int.tmod (wrap64 (a2)) t373))) 112 t406 t407 t408 t409 _ ?side1 ?side2 A98.out).mono ?_
                                          (case side1 => repeat (first | exact (Kd.C_below HR0.out HB.out) | (with_reducible refine Kd.C_alloc ?_ _) | (with_reducible refine Kd.C_drewN ?_ _) | (with_reducible refine Kd.C_drew ?_)))
                                          (case side2 => exact HC0.out)
                                          rintro e w103 ⟨rfl, hb⟩
                                          refine ⟨_, rfl, ?_⟩
                                          have n0_ := Aside0.mk (blk_below (g := gb376) (o := .cells #[.int .i64 t372, .int .i64 t373, .bool t374] 27 (0, 0)) (by (with_reducible repeat (first | refine blk_drewN ?_ _ | refine blk_drew ?_ | refine blk_alloc ?_ _)); exact BK376.out) hb)
                                          have n1_ := Aside0.mk (blk_below (g := gb395) (o := .cells #[.int .i64 t392, .int .i64 t393] 25 (0, 0)) (by (with_reducible repeat (first | refine blk_drewN ?_ _ | refine blk_drew ?_ | refine blk_alloc ?_ _)); exact BK395.out) hb)
                                          have n2_ := Aside0.mk (below_step (by repeat (first | (with_reducible first | exact HB.out | apply below_alloc | apply pw_below_drewN | apply below_drew1 | refine below_set ?_ GE376.out | refine below_set ?_ GE395.out) | exact HB.out)) hb)
                                          clear BK376
                                          clear BK395
                                          clear HB
                                          have BK376 := n0_
                                          have BK395 := n1_
                                          have HB := n2_
                                          clear n0_ n1_ n2_
                                          (try clear hb)
                                          (try clear hb2)
                                          (try clear hk)
                                          (try clear hi)
                                          refine hK.out _ _ ⟨(blk_cell BK376.out 0).trans rfl, (blk_cell BK376.out 1).trans rfl, (blk_cell BK376.out 2).trans rfl⟩ (fun hHeld => ?_)
                                          clear hK K
                                          refine norm_ (a' := ?_) ?_ ?_
                                          rotate_left
                                          · show Act.put _ (some 176) _ = _
                                            simp only [Act.put, List.setIfInBounds_toArray, List.set_cons_zero, List.set_cons_succ, i64_w, i32_w]
                                            rfl
                                          refine pure_ (i := 12) (N := some 164) (v := ?_) (a' := ?_) #[true, true, true, true, true, true, true, true, true, true, true, true, true, false, false, false, false, false] rfl rfl (any_of HT_.out (by kernel_rfl)) (fun _ _ _ h => h) (Or.inl ⟨by rfl, ?_⟩) ?_ ?_
                                          rotate_left
                                          · intro w'
                                            go_simp
                                            with_reducible rfl
                                          rotate_left
                                          · simp only [Act.put, List.setIfInBounds_toArray, List.set_cons_zero, List.set_cons_succ, i64_w, i32_w]
                                            rfl
                                          refine pure_ (i := 13) (N := some 177) (v := ?_) (a' := ?_) #[true, true, true, true, true, true, true, true, true, true, true, true, true, true, false, false, false, false] rfl rfl (any_of HT_.out (by kernel_rfl)) (fun _ _ _ h => h) (Or.inl ⟨by rfl, ?_⟩) ?_ ?_
                                          rotate_left
                                          · intro w'
                                            go_simp
                                            with_reducible rfl
                                          rotate_left
                                          · simp only [Act.put, List.setIfInBounds_toArray, List.set_cons_zero, List.set_cons_succ, i64_w, i32_w]
                                            rfl
                                          refine pure_ (i := 14) (N := some 178) (v := ?_) (a' := ?_) #[true, true, true, true, true, true, true, true, true, true, true, true, true, true, true, false, false, false] rfl rfl (any_of HT_.out (by kernel_rfl)) (fun _ _ _ h => h) (Or.inl ⟨by rfl, ?_⟩) ?_ ?_
                                          rotate_left
                                          · intro w'
                                            go_simp
                                            with_reducible rfl
                                          rotate_left
                                          · simp only [Act.put, List.setIfInBounds_toArray, List.set_cons_zero, List.set_cons_succ, i64_w, i32_w]
                                            rfl
                                          refine one_ (i := 15) (N := some 17) #[true, true, true, true, true, true, true, true, true, true, true, true, true, true, true, true, false, false] rfl rfl (one_of HT_.out (by kernel_rfl)) (by decide) (fun K hK => ?_)
                                          refine box_step ?hg (N := 17) ?hd (cs := #[.int .i64 0, .int .i64 0, .bool false]) (t := 27) ?hr ?_; (case hd => rfl); (case hg => rfl); (case hr => first | (go_simp; done) | (go_simp; rfl))
                                          intro gb410 hg w104 hbox hb
                                          have n0_ := Aside0.mk (blk_below (g := gb376) (o := .cells #[.int .i64 t372, .int .i64 t373, .bool t374] 27 (0, 0)) (by (with_reducible repeat (first | refine blk_drewN ?_ _ | refine blk_drew ?_ | refine blk_alloc ?_ _)); exact BK376.out) hb)
                                          have n1_ := Aside0.mk (blk_below (g := gb395) (o := .cells #[.int .i64 t392, .int .i64 t393] 25 (0, 0)) (by (with_reducible repeat (first | refine blk_drewN ?_ _ | refine blk_drew ?_ | refine blk_alloc ?_ _)); exact BK395.out) hb)
                                          have n2_ := Aside0.mk (below_step (by repeat (first | (with_reducible first | exact HB.out | apply below_alloc | apply pw_below_drewN | apply below_drew1 | refine below_set ?_ GE376.out | refine below_set ?_ GE395.out) | exact HB.out)) hb)
                                          have n3_ := Aside0.mk (hbox)
                                          have n4_ := Aside0.mk ((by rw [hg]; exact (below_size (by repeat (first | (with_reducible first | exact HB.out | apply below_alloc | apply pw_below_drewN | apply below_drew1 | refine below_set ?_ GE376.out | refine below_set ?_ GE395.out) | exact HB.out))) : w.heap.size ≤ gb410))
                                          have n5_ := Aside0.mk ((by rw [hg]; exact (below_size (by repeat (first | (with_reducible first | exact HB.out | apply below_alloc | apply pw_below_drewN | apply below_drew1 | refine below_set ?_ GE376.out | refine below_set ?_ GE395.out) | exact HB.out))) : w.heap.size ≤ gb410))
                                          have n6_ := Aside0.mk ((by rw [hg]; exact Nat.ne_of_lt (blk_lt (g := gb376) (o := .cells #[.int .i64 t372, .int .i64 t373, .bool t374] 27 (0, 0)) (by (with_reducible repeat (first | refine blk_drewN ?_ _ | refine blk_drew ?_ | refine blk_alloc ?_ _)); exact BK376.out)) : gb376 ≠ gb410))
                                          have n7_ := Aside0.mk ((by rw [hg]; exact Nat.ne_of_gt (blk_lt (g := gb376) (o := .cells #[.int .i64 t372, .int .i64 t373, .bool t374] 27 (0, 0)) (by (with_reducible repeat (first | refine blk_drewN ?_ _ | refine blk_drew ?_ | refine blk_alloc ?_ _)); exact BK376.out)) : gb410 ≠ gb376))
                                          have n8_ := Aside0.mk ((by rw [hg]; exact Nat.ne_of_lt (blk_lt (g := gb395) (o := .cells #[.int .i64 t392, .int .i64 t393] 25 (0, 0)) (by (with_reducible repeat (first | refine blk_drewN ?_ _ | refine blk_drew ?_ | refine blk_alloc ?_ _)); exact BK395.out)) : gb395 ≠ gb410))
                                          have n9_ := Aside0.mk ((by rw [hg]; exact Nat.ne_of_gt (blk_lt (g := gb395) (o := .cells #[.int .i64 t392, .int .i64 t393] 25 (0, 0)) (by (with_reducible repeat (first | refine blk_drewN ?_ _ | refine blk_drew ?_ | refine blk_alloc ?_ _)); exact BK395.out)) : gb410 ≠ gb395))
                                          clear BK376
                                          clear BK395
                                          clear HB
                                          have BK376 := n0_
                                          have BK395 := n1_
                                          have HB := n2_
                                          have BK410 := n3_
                                          have GW410 := n4_
                                          have GE410 := n5_
                                          have NB376_410 := n6_
                                          have NB410_376 := n7_
                                          have NB395_410 := n8_
                                          have NB410_395 := n9_
                                          clear n0_ n1_ n2_ n3_ n4_ n5_ n6_ n7_ n8_ n9_
                                          clear hb hbox hg
                                          refine hK.out _ _ ⟨(blk_cell BK376.out 0).trans rfl, (blk_cell BK376.out 1).trans rfl, (blk_cell BK376.out 2).trans rfl⟩ (fun hHeld => ?_)
                                          clear hK K
                                          refine norm_ (a' := ?_) ?_ ?_
                                          rotate_left
                                          · show Act.put _ (some 17) _ = _
                                            simp only [Act.put, List.setIfInBounds_toArray, List.set_cons_zero, List.set_cons_succ, i64_w, i32_w]
                                            rfl
                                          exact norm_ (by first | (simp only [putAll, Act.put, List.setIfInBounds_toArray, List.set_cons_zero, List.set_cons_succ]; done) | (simp only [putAll, Act.put, List.setIfInBounds_toArray, List.set_cons_zero, List.set_cons_succ, *]; done)) (hCont (gb410) _ ⟨hHeld, (by (with_reducible repeat (first | refine blk_drewN ?_ _ | refine blk_drew ?_ | refine blk_alloc ?_ _)); exact BK376.out), (by (with_reducible repeat (first | refine blk_drewN ?_ _ | refine blk_drew ?_ | refine blk_alloc ?_ _)); exact BK395.out), (by (with_reducible repeat (first | refine blk_drewN ?_ _ | refine blk_drew ?_ | refine blk_alloc ?_ _)); exact BK410.out), GW410.out, GE410.out, NB376_410.out, NB410_376.out, NB395_410.out, NB410_395.out, (by repeat (first | (with_reducible first | exact HB.out | apply below_alloc | apply pw_below_drewN | apply below_drew1 | refine below_set ?_ GE376.out | refine below_set ?_ GE395.out | refine below_set ?_ GE410.out) | exact HB.out))⟩)
                                        · skip
                                          refine box_step ?hg (N := 17) ?hd (cs := #[.int .i64 0, .int .i64 0, .bool false]) (t := 27) ?hr ?_; (case hd => rfl); (case hg => rfl); (case hr => first | (go_simp; done) | (go_simp; rfl))
                                          intro gb410 hg w103 hbox hb
                                          have n0_ := Aside0.mk (blk_below (g := gb376) (o := .cells #[.int .i64 t372, .int .i64 t373, .bool t374] 27 (0, 0)) (by (with_reducible repeat (first | refine blk_drewN ?_ _ | refine blk_drew ?_ | refine blk_alloc ?_ _)); exact BK376.out) hb)
                                          have n1_ := Aside0.mk (blk_below (g := gb395) (o := .cells #[.int .i64 t392, .int .i64 t393] 25 (0, 0)) (by (with_reducible repeat (first | refine blk_drewN ?_ _ | refine blk_drew ?_ | refine blk_alloc ?_ _)); exact BK395.out) hb)
                                          have n2_ := Aside0.mk (below_step (by repeat (first | (with_reducible first | exact HB.out | apply below_alloc | apply pw_below_drewN | apply below_drew1 | refine below_set ?_ GE376.out | refine below_set ?_ GE395.out) | exact HB.out)) hb)
                                          have n3_ := Aside0.mk (hbox)
                                          have n4_ := Aside0.mk ((by rw [hg]; exact (below_size (by repeat (first | (with_reducible first | exact HB.out | apply below_alloc | apply pw_below_drewN | apply below_drew1 | refine below_set ?_ GE376.out | refine below_set ?_ GE395.out) | exact HB.out))) : w.heap.size ≤ gb410))
                                          have n5_ := Aside0.mk ((by rw [hg]; exact (below_size (by repeat (first | (with_reducible first | exact HB.out | apply below_alloc | apply pw_below_drewN | apply below_drew1 | refine below_set ?_ GE376.out | refine below_set ?_ GE395.out) | exact HB.out))) : w.heap.size ≤ gb410))
                                          have n6_ := Aside0.mk ((by rw [hg]; exact Nat.ne_of_lt (blk_lt (g := gb376) (o := .cells #[.int .i64 t372, .int .i64 t373, .bool t374] 27 (0, 0)) (by (with_reducible repeat (first | refine blk_drewN ?_ _ | refine blk_drew ?_ | refine blk_alloc ?_ _)); exact BK376.out)) : gb376 ≠ gb410))
                                          have n7_ := Aside0.mk ((by rw [hg]; exact Nat.ne_of_gt (blk_lt (g := gb376) (o := .cells #[.int .i64 t372, .int .i64 t373, .bool t374] 27 (0, 0)) (by (with_reducible repeat (first | refine blk_drewN ?_ _ | refine blk_drew ?_ | refine blk_alloc ?_ _)); exact BK376.out)) : gb410 ≠ gb376))
                                          have n8_ := Aside0.mk ((by rw [hg]; exact Nat.ne_of_lt (blk_lt (g := gb395) (o := .cells #[.int .i64 t392, .int .i64 t393] 25 (0, 0)) (by (with_reducible repeat (first | refine blk_drewN ?_ _ | refine blk_drew ?_ | refine blk_alloc ?_ _)); exact BK395.out)) : gb395 ≠ gb410))
                                          have n9_ := Aside0.mk ((by rw [hg]; exact Nat.ne_of_gt (blk_lt (g := gb395) (o := .cells #[.int .i64 t392, .int .i64 t393] 25 (0, 0)) (by (with_reducible repeat (first | refine blk_drewN ?_ _ | refine blk_drew ?_ | refine blk_alloc ?_ _)); exact BK395.out)) : gb410 ≠ gb395))
                                          clear BK376
                                          clear BK395
                                          clear HB
                                          have BK376 := n0_
                                          have BK395 := n1_
                                          have HB := n2_
                                          have BK410 := n3_
                                          have GW410 := n4_
                                          have GE410 := n5_
                                          have NB376_410 := n6_
                                          have NB410_376 := n7_
                                          have NB395_410 := n8_
                                          have NB410_395 := n9_
                                          clear n0_ n1_ n2_ n3_ n4_ n5_ n6_ n7_ n8_ n9_
                                          clear hb hbox hg
                                          refine hK.out _ _ ⟨(blk_cell BK376.out 0).trans rfl, (blk_cell BK376.out 1).trans rfl, (blk_cell BK376.out 2).trans rfl⟩ (fun hHeld => ?_)
                                          clear hK K
                                          refine norm_ (a' := ?_) ?_ ?_
                                          rotate_left
                                          · show Act.put _ (some 17) _ = _
                                            simp only [Act.put, List.setIfInBounds_toArray, List.set_cons_zero, List.set_cons_succ, i64_w, i32_w]
                                            rfl
                                          refine one_ (i := 11) (N := some 176) #[true, true, true, true, true, true, true, true, true, true, true, true, false, false, false, true, false, false] rfl rfl (one_of HT_.out (by kernel_rfl)) (by decide) (fun K hK => ?_)
                                          refine goes_ Try.func13 (by kernel_rfl) rfl #[.slice A0 l0.length c0, .int .i64 (wrap64 (t372 + (Int.tmod (wrap64 (a2)) t373))), .int .u8 112] (by rfl) rfl rfl (by (try simp only [List.map_toArray, List.map_cons, List.map_nil]); first | done | rfl | (simp only [List.length_drop, List.length_take]; rfl)) ?_
                                          with_reducible refine (object_Inner.calls kj84 _ _ l0 (wrap64 (t372 + (Int.tmod (wrap64 (a2)) t373))) 112 t406 t407 t408 t409 _ ?side1 ?side2 A98.out).mono ?_
                                          (case side1 => repeat (first | exact (Kd.C_below HR0.out HB.out) | (with_reducible refine Kd.C_alloc ?_ _) | (with_reducible refine Kd.C_drewN ?_ _) | (with_reducible refine Kd.C_drew ?_)))
                                          (case side2 => exact HC0.out)
                                          rintro e w104 ⟨rfl, hb⟩
                                          refine ⟨_, rfl, ?_⟩
                                          have n0_ := Aside0.mk (blk_below (g := gb376) (o := .cells #[.int .i64 t372, .int .i64 t373, .bool t374] 27 (0, 0)) (by (with_reducible repeat (first | refine blk_drewN ?_ _ | refine blk_drew ?_ | refine blk_alloc ?_ _)); exact BK376.out) hb)
                                          have n1_ := Aside0.mk (blk_below (g := gb395) (o := .cells #[.int .i64 t392, .int .i64 t393] 25 (0, 0)) (by (with_reducible repeat (first | refine blk_drewN ?_ _ | refine blk_drew ?_ | refine blk_alloc ?_ _)); exact BK395.out) hb)
                                          have n2_ := Aside0.mk (blk_below (g := gb410) (o := .cells #[.int .i64 0, .int .i64 0, .bool false] 27 (0, 0)) (by (with_reducible repeat (first | refine blk_drewN ?_ _ | refine blk_drew ?_ | refine blk_alloc ?_ _)); exact BK410.out) hb)
                                          have n3_ := Aside0.mk (below_step (by repeat (first | (with_reducible first | exact HB.out | apply below_alloc | apply pw_below_drewN | apply below_drew1 | refine below_set ?_ GE376.out | refine below_set ?_ GE395.out | refine below_set ?_ GE410.out) | exact HB.out)) hb)
                                          clear BK376
                                          clear BK395
                                          clear BK410
                                          clear HB
                                          have BK376 := n0_
                                          have BK395 := n1_
                                          have BK410 := n2_
                                          have HB := n3_
                                          clear n0_ n1_ n2_ n3_
                                          (try clear hb)
                                          (try clear hb2)
                                          (try clear hk)
                                          (try clear hi)
                                          refine hK.out _ _ ⟨(blk_cell BK376.out 0).trans rfl, (blk_cell BK376.out 1).trans rfl, (blk_cell BK376.out 2).trans rfl⟩ (fun hHeld => ?_)
                                          clear hK K
                                          refine norm_ (a' := ?_) ?_ ?_
                                          rotate_left
                                          · show Act.put _ (some 176) _ = _
                                            simp only [Act.put, List.setIfInBounds_toArray, List.set_cons_zero, List.set_cons_succ, i64_w, i32_w]
                                            rfl
                                          refine pure_ (i := 12) (N := some 164) (v := ?_) (a' := ?_) #[true, true, true, true, true, true, true, true, true, true, true, true, true, false, false, true, false, false] rfl rfl (any_of HT_.out (by kernel_rfl)) (fun _ _ _ h => h) (Or.inl ⟨by rfl, ?_⟩) ?_ ?_
                                          rotate_left
                                          · intro w'
                                            go_simp
                                            with_reducible rfl
                                          rotate_left
                                          · simp only [Act.put, List.setIfInBounds_toArray, List.set_cons_zero, List.set_cons_succ, i64_w, i32_w]
                                            rfl
                                          refine pure_ (i := 13) (N := some 177) (v := ?_) (a' := ?_) #[true, true, true, true, true, true, true, true, true, true, true, true, true, true, false, true, false, false] rfl rfl (any_of HT_.out (by kernel_rfl)) (fun _ _ _ h => h) (Or.inl ⟨by rfl, ?_⟩) ?_ ?_
                                          rotate_left
                                          · intro w'
                                            go_simp
                                            with_reducible rfl
                                          rotate_left
                                          · simp only [Act.put, List.setIfInBounds_toArray, List.set_cons_zero, List.set_cons_succ, i64_w, i32_w]
                                            rfl
                                          refine pure_ (i := 14) (N := some 178) (v := ?_) (a' := ?_) #[true, true, true, true, true, true, true, true, true, true, true, true, true, true, true, true, false, false] rfl rfl (any_of HT_.out (by kernel_rfl)) (fun _ _ _ h => h) (Or.inl ⟨by rfl, ?_⟩) ?_ ?_
                                          rotate_left
                                          · intro w'
                                            go_simp
                                            with_reducible rfl
                                          rotate_left
                                          · simp only [Act.put, List.setIfInBounds_toArray, List.set_cons_zero, List.set_cons_succ, i64_w, i32_w]
                                            rfl
                                          exact norm_ (by first | (simp only [putAll, Act.put, List.setIfInBounds_toArray, List.set_cons_zero, List.set_cons_succ]; done) | (simp only [putAll, Act.put, List.setIfInBounds_toArray, List.set_cons_zero, List.set_cons_succ, *]; done)) (hCont (gb410) _ ⟨hHeld, (by (with_reducible repeat (first | refine blk_drewN ?_ _ | refine blk_drew ?_ | refine blk_alloc ?_ _)); exact BK376.out), (by (with_reducible repeat (first | refine blk_drewN ?_ _ | refine blk_drew ?_ | refine blk_alloc ?_ _)); exact BK395.out), (by (with_reducible repeat (first | refine blk_drewN ?_ _ | refine blk_drew ?_ | refine blk_alloc ?_ _)); exact BK410.out), GW410.out, GE410.out, NB376_410.out, NB410_376.out, NB395_410.out, NB410_395.out, (by repeat (first | (with_reducible first | exact HB.out | apply below_alloc | apply pw_below_drewN | apply below_drew1 | refine below_set ?_ GE376.out | refine below_set ?_ GE395.out | refine below_set ?_ GE410.out) | exact HB.out))⟩)
                                      rintro gb410 w105 ⟨hS_, h0_, h1_, h2_, h3_, h4_, h5_, h6_, h7_, h8_, h9_⟩
                                      have n0_ : Aside0 (w105.heap[gb376]? = some (.cells #[.int .i64 t372, .int .i64 t373, .bool t374] 27 (0, 0))) := ⟨h0_⟩
                                      have n1_ : Aside0 (w105.heap[gb395]? = some (.cells #[.int .i64 t392, .int .i64 t393] 25 (0, 0))) := ⟨h1_⟩
                                      have n2_ : Aside0 (w105.heap[gb410]? = some (.cells #[.int .i64 0, .int .i64 0, .bool false] 27 (0, 0))) := ⟨h2_⟩
                                      have n3_ : Aside0 (w.heap.size ≤ gb410) := ⟨h3_⟩
                                      have n4_ : Aside0 (w.heap.size ≤ gb410) := ⟨h4_⟩
                                      have n5_ : Aside0 (gb376 ≠ gb410) := ⟨h5_⟩
                                      have n6_ : Aside0 (gb410 ≠ gb376) := ⟨h6_⟩
                                      have n7_ : Aside0 (gb395 ≠ gb410) := ⟨h7_⟩
                                      have n8_ : Aside0 (gb410 ≠ gb395) := ⟨h8_⟩
                                      have n9_ : Aside0 (Below w.heap.size w w105) := ⟨h9_⟩
                                      clear BK376
                                      clear BK395
                                      clear HB
                                      clear h0_ h1_ h2_ h3_ h4_ h5_ h6_ h7_ h8_ h9_
                                      have BK376 := n0_
                                      have BK395 := n1_
                                      have BK410 := n2_
                                      have GW410 := n3_
                                      have GE410 := n4_
                                      have NB376_410 := n5_
                                      have NB410_376 := n6_
                                      have NB395_410 := n7_
                                      have NB410_395 := n8_
                                      have HB := n9_
                                      clear n0_ n1_ n2_ n3_ n4_ n5_ n6_ n7_ n8_ n9_
                                      have hHeld : w105.cell? ⟨gb376, 0, none⟩ = some (.int .i64 t372) ∧ w105.cell? ⟨gb376, 1, none⟩ = some (.int .i64 t373) ∧ w105.cell? ⟨gb376, 2, none⟩ = some (.bool t374) := hS_
                                      refine norm_ (a' := ?_) ?_ ?_
                                      rotate_left
                                      · first | (simp only [putAll, Act.put, List.setIfInBounds_toArray, List.set_cons_zero, List.set_cons_succ, *]; rfl) | (simp only [putAll, Act.put, List.setIfInBounds_toArray, List.set_cons_zero, List.set_cons_succ]; rfl)
                                      refine one_ (i := 16) (N := none) #[true, true, true, true, true, true, true, true, true, true, true, true, true, true, true, true, true, false] rfl rfl (one_of HT_.out (by kernel_rfl)) (by decide) (fun K hK => ?_)
                                      have hs106 : w105.cell? ⟨gb410, 0, none⟩ = some (.int .i64 0) := (blk_cell BK410.out 0).trans rfl
                                      have hfs106 := blk_frozen BK410.out 0
                                      have hns106_0 := NB376_410.out
                                      have hns106_1 := NB395_410.out
                                      have hms106_0 := NB410_376.out
                                      have hms106_1 := NB410_395.out
                                      have hs107 : w105.cell? ⟨gb410, 1, none⟩ = some (.int .i64 0) := (blk_cell BK410.out 1).trans rfl
                                      have hfs107 := blk_frozen BK410.out 1
                                      have hns107_0 := NB376_410.out
                                      have hns107_1 := NB395_410.out
                                      have hms107_0 := NB410_376.out
                                      have hms107_1 := NB410_395.out
                                      have hs108 : w105.cell? ⟨gb410, 2, none⟩ = some (.bool false) := (blk_cell BK410.out 2).trans rfl
                                      have hfs108 := blk_frozen BK410.out 2
                                      have hns108_0 := NB376_410.out
                                      have hns108_1 := NB395_410.out
                                      have hms108_0 := NB410_376.out
                                      have hms108_1 := NB410_395.out
                                      refine skip_ (w1 := ?_) (by rfl) rfl ?_ ?_
                                      rotate_left
                                      · go_simp
                                        rfl
                                      refine hK.out _ _ ⟨((cell_far (p := ⟨gb410, _, none⟩) NB376_410.out _).trans (((cell_far (p := ⟨gb410, _, none⟩) NB376_410.out _).trans (((cell_far (p := ⟨gb410, _, none⟩) NB376_410.out _).trans (hHeld.1)))))), ((cell_far (p := ⟨gb410, _, none⟩) NB376_410.out _).trans (((cell_far (p := ⟨gb410, _, none⟩) NB376_410.out _).trans (((cell_far (p := ⟨gb410, _, none⟩) NB376_410.out _).trans (hHeld.2.1)))))), ((cell_far (p := ⟨gb410, _, none⟩) NB376_410.out _).trans (((cell_far (p := ⟨gb410, _, none⟩) NB376_410.out _).trans (((cell_far (p := ⟨gb410, _, none⟩) NB376_410.out _).trans (hHeld.2.2))))))⟩ (fun hHeld => ?_)
                                      clear hK K
                                      refine pure_ (i := 17) (N := some 18) (v := ?_) (a' := ?_) #[true, true, true, true, true, true, true, true, true, true, true, true, true, true, true, true, true, true] rfl rfl (any_of HT_.out (by kernel_rfl)) (fun _ _ _ h => h) (Or.inl ⟨by rfl, ?_⟩) ?_ ?_
                                      rotate_left
                                      · intro w'
                                        go_simp
                                        with_reducible rfl
                                      rotate_left
                                      · simp only [Act.put, List.setIfInBounds_toArray, List.set_cons_zero, List.set_cons_succ, i64_w, i32_w]
                                        rfl
                                      refine done_ (done_of HT_.out (by kernel_rfl)) ?_
                                      have hnb109 := NB410_376.out
                                      have hnc109 := NB376_410.out
                                      have hnb110 := NB410_395.out
                                      have hnc110 := NB395_410.out
                                      have hcz111_0 : w105.cell? ⟨gb410, 0, none⟩ = some (.int .i64 0) := (blk_cell BK410.out 0).trans rfl
                                      have hcz111_1 : w105.cell? ⟨gb410, 1, none⟩ = some (.int .i64 0) := (blk_cell BK410.out 1).trans rfl
                                      have hcz111_2 : w105.cell? ⟨gb410, 2, none⟩ = some (.bool false) := (blk_cell BK410.out 2).trans rfl
                                      have hfz111_0 := blk_frozen BK410.out 0
                                      have hfz111_1 := blk_frozen BK410.out 1
                                      have hfz111_2 := blk_frozen BK410.out 2
                                      have hcz112_0 : w105.cell? ⟨gb376, 0, none⟩ = some (.int .i64 t372) := (blk_cell BK376.out 0).trans rfl
                                      have hcz112_1 : w105.cell? ⟨gb376, 1, none⟩ = some (.int .i64 t373) := (blk_cell BK376.out 1).trans rfl
                                      have hcz112_2 : w105.cell? ⟨gb376, 2, none⟩ = some (.bool t374) := (blk_cell BK376.out 2).trans rfl
                                      have hfz112_0 := blk_frozen BK376.out 0
                                      have hfz112_1 := blk_frozen BK376.out 1
                                      have hfz112_2 := blk_frozen BK376.out 2
                                      try go_wp2
                                      go_ret
                                      exact ⟨by first | rfl | (simp [errW_none, errW_some] <;> rfl) | (simp [*, errW_none, errW_some] <;> rfl), by repeat (first | (with_reducible first | exact HB.out | apply below_alloc | apply pw_below_drewN | apply below_drew1 | refine below_set ?_ GE376.out | refine below_set ?_ GE395.out | refine below_set ?_ GE410.out) | exact HB.out)⟩
                                    · rw [if_neg c99] at H
                                      have c99b0 : (t409 == 0) = false := beq_eq_false_iff_ne.mpr c99
                                      have c99b1 : (t409 != 0) = true := bne_iff_ne.mpr c99
                                      obtain rfl := Option.some.inj H
                                      have hnb113 := NB376_395.out
                                      have hnc113 := NB395_376.out
                                      have hcz114_0 : wc.cell? ⟨gb376, 0, none⟩ = some (.int .i64 t372) := (blk_cell BK376.out 0).trans rfl
                                      have hcz114_1 : wc.cell? ⟨gb376, 1, none⟩ = some (.int .i64 t373) := (blk_cell BK376.out 1).trans rfl
                                      have hcz114_2 : wc.cell? ⟨gb376, 2, none⟩ = some (.bool t374) := (blk_cell BK376.out 2).trans rfl
                                      have hfz114_0 := blk_frozen BK376.out 0
                                      have hfz114_1 := blk_frozen BK376.out 1
                                      have hfz114_2 := blk_frozen BK376.out 2
                                      try go_wp2
                                      have n0_ := Aside0.mk (blk_drew BK376.out)
                                      have n1_ := Aside0.mk (blk_drew BK395.out)
                                      have n2_ := Aside0.mk (below_drew1 HB.out)
                                      clear BK376
                                      clear BK395
                                      clear HB
                                      have BK376 := n0_
                                      have BK395 := n1_
                                      have HB := n2_
                                      clear n0_ n1_ n2_
                                      refine start_ (n := 18) (S := fun w' => w'.cell? ⟨gb376, 0, none⟩ = some (.int .i64 t372) ∧ w'.cell? ⟨gb376, 1, none⟩ = some (.int .i64 t373) ∧ w'.cell? ⟨gb376, 2, none⟩ = some (.bool t374)) (ds := []) #[false, false, false, false, false, false, false, false, false, false, false, false, false, false, false, false, false, false] (by kernel_rfl) rfl rfl ⟨(blk_cell BK376.out 0).trans rfl, (blk_cell BK376.out 1).trans rfl, (blk_cell BK376.out 2).trans rfl⟩ (fun hHeld => ?_); refine with_tabW platenlaw20_ObjectParagraphs.tab20 platenlaw20_ObjectParagraphs.bits20 (fun HT_ HW_ => ?_)
                                      generalize wc.drew = w115 at BK376 BK395 HB hHeld ⊢
                                      refine pure_ (i := 0) (N := some 165) (v := ?_) (a' := ?_) #[true, false, false, false, false, false, false, false, false, false, false, false, false, false, false, false, false, false] rfl rfl (any_of HT_.out (by kernel_rfl)) (fun _ _ _ h => h) (Or.inl ⟨by rfl, ?_⟩) ?_ ?_
                                      rotate_left
                                      · intro w'
                                        go_simp
                                        with_reducible rfl
                                      rotate_left
                                      · simp only [Act.put, List.setIfInBounds_toArray, List.set_cons_zero, List.set_cons_succ, i64_w, i32_w]
                                        rfl
                                      refine pure_ (i := 1) (N := some 166) (v := ?_) (a' := ?_) #[true, true, false, false, false, false, false, false, false, false, false, false, false, false, false, false, false, false] rfl rfl (any_of HT_.out (by kernel_rfl)) (fun _ _ _ h => h) (Or.inl ⟨by rfl, ?_⟩) ?_ ?_
                                      rotate_left
                                      · intro w'
                                        go_simp
                                        with_reducible rfl
                                      rotate_left
                                      · simp only [Act.put, List.setIfInBounds_toArray, List.set_cons_zero, List.set_cons_succ, i64_w, i32_w]
                                        rfl
                                      refine pure_ (i := 2) (N := some 167) (v := ?_) (a' := ?_) #[true, true, true, false, false, false, false, false, false, false, false, false, false, false, false, false, false, false] rfl rfl (any_of HT_.out (by kernel_rfl)) (fun _ _ _ h => h) (Or.inl ⟨by rfl, ?_⟩) ?_ ?_
                                      rotate_left
                                      · intro w'
                                        go_simp
                                        with_reducible rfl
                                      rotate_left
                                      · simp only [Act.put, List.setIfInBounds_toArray, List.set_cons_zero, List.set_cons_succ, i64_w, i32_w]
                                        rfl
                                      refine pure_ (i := 4) (N := some 169) (v := ?_) (a' := ?_) #[true, true, true, false, true, false, false, false, false, false, false, false, false, false, false, false, false, false] rfl rfl (any_of HT_.out (by kernel_rfl)) (fun _ _ _ h => h) (Or.inl ⟨by rfl, ?_⟩) ?_ ?_
                                      rotate_left
                                      · intro w'
                                        go_simp
                                        with_reducible rfl
                                      rotate_left
                                      · simp only [Act.put, List.setIfInBounds_toArray, List.set_cons_zero, List.set_cons_succ, i64_w, i32_w]
                                        rfl
                                      refine pure_ (i := 5) (N := some 170) (v := ?_) (a' := ?_) #[true, true, true, false, true, true, false, false, false, false, false, false, false, false, false, false, false, false] rfl rfl (any_of HT_.out (by kernel_rfl)) (fun _ _ _ h => h) (Or.inl ⟨by rfl, ?_⟩) ?_ ?_
                                      rotate_left
                                      · intro w'
                                        go_simp
                                        with_reducible rfl
                                      rotate_left
                                      · simp only [Act.put, List.setIfInBounds_toArray, List.set_cons_zero, List.set_cons_succ, i64_w, i32_w]
                                        rfl
                                      refine pure_ (i := 6) (N := some 171) (v := ?_) (a' := ?_) #[true, true, true, false, true, true, true, false, false, false, false, false, false, false, false, false, false, false] rfl rfl (any_of HT_.out (by kernel_rfl)) (fun _ _ _ h => h) (Or.inl ⟨by rfl, ?_⟩) ?_ ?_
                                      rotate_left
                                      · intro w'
                                        go_simp
                                        with_reducible rfl
                                      rotate_left
                                      · simp only [Act.put, List.setIfInBounds_toArray, List.set_cons_zero, List.set_cons_succ, i64_w, i32_w]
                                        rfl
                                      refine pure_ (i := 7) (N := some 172) (v := ?_) (a' := ?_) #[true, true, true, false, true, true, true, true, false, false, false, false, false, false, false, false, false, false] rfl rfl (any_of HT_.out (by kernel_rfl)) (fun _ _ _ h => h) (Or.inl ⟨by rfl, ?_⟩) ?_ ?_
                                      rotate_left
                                      · intro w'
                                        go_simp
                                        with_reducible rfl
                                      rotate_left
                                      · simp only [Act.put, List.setIfInBounds_toArray, List.set_cons_zero, List.set_cons_succ, i64_w, i32_w]
                                        rfl
                                      refine take_ (i := 3) (N := some 168) (v := ?_) (a' := ?_) #[true, true, true, true, true, true, true, true, false, false, false, false, false, false, false, false, false, false] rfl rfl (take_ofW HT_.out HW_.out (by kernel_rfl)) (fun _ _ _ h => h) (Or.inl ⟨by rfl, ?_⟩) hHeld ?_ ?_
                                      rotate_left
                                      · rintro w' ⟨s0, s1, s2⟩
                                        go_simp
                                        with_reducible rfl
                                      rotate_left
                                      · simp only [Act.put, List.setIfInBounds_toArray, List.set_cons_zero, List.set_cons_succ, i64_w, i32_w]
                                        rfl
                                      refine take_ (i := 8) (N := some 173) (v := ?_) (a' := ?_) #[true, true, true, true, true, true, true, true, true, false, false, false, false, false, false, false, false, false] rfl rfl (take_ofW HT_.out HW_.out (by kernel_rfl)) (fun _ _ _ h => h) (Or.inl ⟨by rfl, ?_⟩) hHeld ?_ ?_
                                      rotate_left
                                      · rintro w' ⟨s0, s1, s2⟩
                                        go_simp
                                        with_reducible rfl
                                      rotate_left
                                      · simp only [Act.put, List.setIfInBounds_toArray, List.set_cons_zero, List.set_cons_succ, i64_w, i32_w]
                                        rfl
                                      refine pure_ (i := 9) (N := some 174) (v := ?_) (a' := ?_) #[true, true, true, true, true, true, true, true, true, true, false, false, false, false, false, false, false, false] rfl rfl (any_of HT_.out (by kernel_rfl)) (fun _ _ _ h => h) (Or.inl ⟨by rfl, ?_⟩) ?_ ?_
                                      rotate_left
                                      · intro w'
                                        go_simp
                                        with_reducible rfl
                                      rotate_left
                                      · simp only [Act.put, List.setIfInBounds_toArray, List.set_cons_zero, List.set_cons_succ, i64_w, i32_w]
                                        rfl
                                      refine pure_ (i := 10) (N := some 175) (v := ?_) (a' := ?_) #[true, true, true, true, true, true, true, true, true, true, true, false, false, false, false, false, false, false] rfl rfl (any_of HT_.out (by kernel_rfl)) (fun _ _ _ h => h) (Or.inl ⟨by rfl, ?_⟩) ?_ ?_
                                      rotate_left
                                      · intro w'
                                        go_simp
                                        with_reducible rfl
                                      rotate_left
                                      · simp only [Act.put, List.setIfInBounds_toArray, List.set_cons_zero, List.set_cons_succ, i64_w, i32_w]
                                        rfl
                                      refine join_ (σ := Nat) 2 #[true, true, true, true, true, true, true, true, true, true, true, true, true, true, true, true, false, false] (fun s_ => [(176, .tuple #[.agg #[.int .i64 t406, .int .i64 t407, .bool t408], .int .i64 t409]), (17, .pointer (some ⟨s_, 0, none⟩)), (164, .tuple #[.agg #[.int .i64 t406, .int .i64 t407, .bool t408], .int .i64 t409]), (177, .agg #[.int .i64 t406, .int .i64 t407, .bool t408]), (178, .int .i64 t409)]) (fun s_ w' => (w'.cell? ⟨gb376, 0, none⟩ = some (.int .i64 t372) ∧ w'.cell? ⟨gb376, 1, none⟩ = some (.int .i64 t373) ∧ w'.cell? ⟨gb376, 2, none⟩ = some (.bool t374)) ∧ (w'.heap[gb376]? = some (.cells #[.int .i64 t372, .int .i64 t373, .bool t374] 27 (0, 0))) ∧ (w'.heap[gb395]? = some (.cells #[.int .i64 t392, .int .i64 t393] 25 (0, 0))) ∧ (w'.heap[s_]? = some (.cells #[.int .i64 0, .int .i64 0, .bool false] 27 (0, 0))) ∧ (w.heap.size ≤ s_) ∧ (w.heap.size ≤ s_) ∧ (gb376 ≠ s_) ∧ (s_ ≠ gb376) ∧ (gb395 ≠ s_) ∧ (s_ ≠ gb395) ∧ (Below w.heap.size w w')) ?_ ?_
                                      rotate_left
                                      · intro hCont
                                        refine two_ (i := 11) (j := 15) (Ni := some 176) (Nj := some 17) #[true, true, true, true, true, true, true, true, true, true, true, true, false, false, false, false, false, false] #[true, true, true, true, true, true, true, true, true, true, true, false, false, false, false, true, false, false] rfl rfl rfl rfl (two_of HT_.out (by kernel_rfl)) (by decide) (by decide) (fun K hK => ?_) (fun K hK => ?_)
                                        · skip
                                          refine goes_ Try.func13 (by kernel_rfl) rfl #[.slice A0 l0.length c0, .int .i64 (wrap64 (t372 + (Int.tmod (wrap64 (a2)) t373))), .int .u8 112] (by rfl) rfl rfl (by (try simp only [List.map_toArray, List.map_cons, List.map_nil]); first | done | rfl | (simp only [List.length_drop, List.length_take]; rfl)) ?_
                                          with_reducible refine (object_Inner.calls kj84 _ _ l0 (wrap64 (t372 + (Int.tmod (wrap64 (a2)) t373))) 112 t406 t407 t408 t409 _ ?side1 ?side2 A98.out).mono ?_
                                          (case side1 => repeat (first | exact (Kd.C_below HR0.out HB.out) | (with_reducible refine Kd.C_alloc ?_ _) | (with_reducible refine Kd.C_drewN ?_ _) | (with_reducible refine Kd.C_drew ?_)))
                                          (case side2 => exact HC0.out)
                                          rintro e w116 ⟨rfl, hb⟩
                                          refine ⟨_, rfl, ?_⟩
                                          have n0_ := Aside0.mk (blk_below (g := gb376) (o := .cells #[.int .i64 t372, .int .i64 t373, .bool t374] 27 (0, 0)) (by (with_reducible repeat (first | refine blk_drewN ?_ _ | refine blk_drew ?_ | refine blk_alloc ?_ _)); exact BK376.out) hb)
                                          have n1_ := Aside0.mk (blk_below (g := gb395) (o := .cells #[.int .i64 t392, .int .i64 t393] 25 (0, 0)) (by (with_reducible repeat (first | refine blk_drewN ?_ _ | refine blk_drew ?_ | refine blk_alloc ?_ _)); exact BK395.out) hb)
                                          have n2_ := Aside0.mk (below_step (by repeat (first | (with_reducible first | exact HB.out | apply below_alloc | apply pw_below_drewN | apply below_drew1 | refine below_set ?_ GE376.out | refine below_set ?_ GE395.out) | exact HB.out)) hb)
                                          clear BK376
                                          clear BK395
                                          clear HB
                                          have BK376 := n0_
                                          have BK395 := n1_
                                          have HB := n2_
                                          clear n0_ n1_ n2_
                                          (try clear hb)
                                          (try clear hb2)
                                          (try clear hk)
                                          (try clear hi)
                                          refine hK.out _ _ ⟨(blk_cell BK376.out 0).trans rfl, (blk_cell BK376.out 1).trans rfl, (blk_cell BK376.out 2).trans rfl⟩ (fun hHeld => ?_)
                                          clear hK K
                                          refine norm_ (a' := ?_) ?_ ?_
                                          rotate_left
                                          · show Act.put _ (some 176) _ = _
                                            simp only [Act.put, List.setIfInBounds_toArray, List.set_cons_zero, List.set_cons_succ, i64_w, i32_w]
                                            rfl
                                          refine pure_ (i := 12) (N := some 164) (v := ?_) (a' := ?_) #[true, true, true, true, true, true, true, true, true, true, true, true, true, false, false, false, false, false] rfl rfl (any_of HT_.out (by kernel_rfl)) (fun _ _ _ h => h) (Or.inl ⟨by rfl, ?_⟩) ?_ ?_
                                          rotate_left
                                          · intro w'
                                            go_simp
                                            with_reducible rfl
                                          rotate_left
                                          · simp only [Act.put, List.setIfInBounds_toArray, List.set_cons_zero, List.set_cons_succ, i64_w, i32_w]
                                            rfl
                                          refine pure_ (i := 13) (N := some 177) (v := ?_) (a' := ?_) #[true, true, true, true, true, true, true, true, true, true, true, true, true, true, false, false, false, false] rfl rfl (any_of HT_.out (by kernel_rfl)) (fun _ _ _ h => h) (Or.inl ⟨by rfl, ?_⟩) ?_ ?_
                                          rotate_left
                                          · intro w'
                                            go_simp
                                            with_reducible rfl
                                          rotate_left
                                          · simp only [Act.put, List.setIfInBounds_toArray, List.set_cons_zero, List.set_cons_succ, i64_w, i32_w]
                                            rfl
                                          refine pure_ (i := 14) (N := some 178) (v := ?_) (a' := ?_) #[true, true, true, true, true, true, true, true, true, true, true, true, true, true, true, false, false, false] rfl rfl (any_of HT_.out (by kernel_rfl)) (fun _ _ _ h => h) (Or.inl ⟨by rfl, ?_⟩) ?_ ?_
                                          rotate_left
                                          · intro w'
                                            go_simp
                                            with_reducible rfl
                                          rotate_left
                                          · simp only [Act.put, List.setIfInBounds_toArray, List.set_cons_zero, List.set_cons_succ, i64_w, i32_w]
                                            rfl
                                          refine one_ (i := 15) (N := some 17) #[true, true, true, true, true, true, true, true, true, true, true, true, true, true, true, true, false, false] rfl rfl (one_of HT_.out (by kernel_rfl)) (by decide) (fun K hK => ?_)
                                          refine box_step ?hg (N := 17) ?hd (cs := #[.int .i64 0, .int .i64 0, .bool false]) (t := 27) ?hr ?_; (case hd => rfl); (case hg => rfl); (case hr => first | (go_simp; done) | (go_simp; rfl))
                                          intro gb410 hg w117 hbox hb
                                          have n0_ := Aside0.mk (blk_below (g := gb376) (o := .cells #[.int .i64 t372, .int .i64 t373, .bool t374] 27 (0, 0)) (by (with_reducible repeat (first | refine blk_drewN ?_ _ | refine blk_drew ?_ | refine blk_alloc ?_ _)); exact BK376.out) hb)
                                          have n1_ := Aside0.mk (blk_below (g := gb395) (o := .cells #[.int .i64 t392, .int .i64 t393] 25 (0, 0)) (by (with_reducible repeat (first | refine blk_drewN ?_ _ | refine blk_drew ?_ | refine blk_alloc ?_ _)); exact BK395.out) hb)
                                          have n2_ := Aside0.mk (below_step (by repeat (first | (with_reducible first | exact HB.out | apply below_alloc | apply pw_below_drewN | apply below_drew1 | refine below_set ?_ GE376.out | refine below_set ?_ GE395.out) | exact HB.out)) hb)
                                          have n3_ := Aside0.mk (hbox)
                                          have n4_ := Aside0.mk ((by rw [hg]; exact (below_size (by repeat (first | (with_reducible first | exact HB.out | apply below_alloc | apply pw_below_drewN | apply below_drew1 | refine below_set ?_ GE376.out | refine below_set ?_ GE395.out) | exact HB.out))) : w.heap.size ≤ gb410))
                                          have n5_ := Aside0.mk ((by rw [hg]; exact (below_size (by repeat (first | (with_reducible first | exact HB.out | apply below_alloc | apply pw_below_drewN | apply below_drew1 | refine below_set ?_ GE376.out | refine below_set ?_ GE395.out) | exact HB.out))) : w.heap.size ≤ gb410))
                                          have n6_ := Aside0.mk ((by rw [hg]; exact Nat.ne_of_lt (blk_lt (g := gb376) (o := .cells #[.int .i64 t372, .int .i64 t373, .bool t374] 27 (0, 0)) (by (with_reducible repeat (first | refine blk_drewN ?_ _ | refine blk_drew ?_ | refine blk_alloc ?_ _)); exact BK376.out)) : gb376 ≠ gb410))
                                          have n7_ := Aside0.mk ((by rw [hg]; exact Nat.ne_of_gt (blk_lt (g := gb376) (o := .cells #[.int .i64 t372, .int .i64 t373, .bool t374] 27 (0, 0)) (by (with_reducible repeat (first | refine blk_drewN ?_ _ | refine blk_drew ?_ | refine blk_alloc ?_ _)); exact BK376.out)) : gb410 ≠ gb376))
                                          have n8_ := Aside0.mk ((by rw [hg]; exact Nat.ne_of_lt (blk_lt (g := gb395) (o := .cells #[.int .i64 t392, .int .i64 t393] 25 (0, 0)) (by (with_reducible repeat (first | refine blk_drewN ?_ _ | refine blk_drew ?_ | refine blk_alloc ?_ _)); exact BK395.out)) : gb395 ≠ gb410))
                                          have n9_ := Aside0.mk ((by rw [hg]; exact Nat.ne_of_gt (blk_lt (g := gb395) (o := .cells #[.int .i64 t392, .int .i64 t393] 25 (0, 0)) (by (with_reducible repeat (first | refine blk_drewN ?_ _ | refine blk_drew ?_ | refine blk_alloc ?_ _)); exact BK395.out)) : gb410 ≠ gb395))
                                          clear BK376
                                          clear BK395
                                          clear HB
                                          have BK376 := n0_
                                          have BK395 := n1_
                                          have HB := n2_
                                          have BK410 := n3_
                                          have GW410 := n4_
                                          have GE410 := n5_
                                          have NB376_410 := n6_
                                          have NB410_376 := n7_
                                          have NB395_410 := n8_
                                          have NB410_395 := n9_
                                          clear n0_ n1_ n2_ n3_ n4_ n5_ n6_ n7_ n8_ n9_
                                          clear hb hbox hg
                                          refine hK.out _ _ ⟨(blk_cell BK376.out 0).trans rfl, (blk_cell BK376.out 1).trans rfl, (blk_cell BK376.out 2).trans rfl⟩ (fun hHeld => ?_)
                                          clear hK K
                                          refine norm_ (a' := ?_) ?_ ?_
                                          rotate_left
                                          · show Act.put _ (some 17) _ = _
                                            simp only [Act.put, List.setIfInBounds_toArray, List.set_cons_zero, List.set_cons_succ, i64_w, i32_w]
                                            rfl
                                          exact norm_ (by first | (simp only [putAll, Act.put, List.setIfInBounds_toArray, List.set_cons_zero, List.set_cons_succ]; done) | (simp only [putAll, Act.put, List.setIfInBounds_toArray, List.set_cons_zero, List.set_cons_succ, *]; done)) (hCont (gb410) _ ⟨hHeld, (by (with_reducible repeat (first | refine blk_drewN ?_ _ | refine blk_drew ?_ | refine blk_alloc ?_ _)); exact BK376.out), (by (with_reducible repeat (first | refine blk_drewN ?_ _ | refine blk_drew ?_ | refine blk_alloc ?_ _)); exact BK395.out), (by (with_reducible repeat (first | refine blk_drewN ?_ _ | refine blk_drew ?_ | refine blk_alloc ?_ _)); exact BK410.out), GW410.out, GE410.out, NB376_410.out, NB410_376.out, NB395_410.out, NB410_395.out, (by repeat (first | (with_reducible first | exact HB.out | apply below_alloc | apply pw_below_drewN | apply below_drew1 | refine below_set ?_ GE376.out | refine below_set ?_ GE395.out | refine below_set ?_ GE410.out) | exact HB.out))⟩)
                                        · skip
                                          refine box_step ?hg (N := 17) ?hd (cs := #[.int .i64 0, .int .i64 0, .bool false]) (t := 27) ?hr ?_; (case hd => rfl); (case hg => rfl); (case hr => first | (go_simp; done) | (go_simp; rfl))
                                          intro gb410 hg w116 hbox hb
                                          have n0_ := Aside0.mk (blk_below (g := gb376) (o := .cells #[.int .i64 t372, .int .i64 t373, .bool t374] 27 (0, 0)) (by (with_reducible repeat (first | refine blk_drewN ?_ _ | refine blk_drew ?_ | refine blk_alloc ?_ _)); exact BK376.out) hb)
                                          have n1_ := Aside0.mk (blk_below (g := gb395) (o := .cells #[.int .i64 t392, .int .i64 t393] 25 (0, 0)) (by (with_reducible repeat (first | refine blk_drewN ?_ _ | refine blk_drew ?_ | refine blk_alloc ?_ _)); exact BK395.out) hb)
                                          have n2_ := Aside0.mk (below_step (by repeat (first | (with_reducible first | exact HB.out | apply below_alloc | apply pw_below_drewN | apply below_drew1 | refine below_set ?_ GE376.out | refine below_set ?_ GE395.out) | exact HB.out)) hb)
                                          have n3_ := Aside0.mk (hbox)
                                          have n4_ := Aside0.mk ((by rw [hg]; exact (below_size (by repeat (first | (with_reducible first | exact HB.out | apply below_alloc | apply pw_below_drewN | apply below_drew1 | refine below_set ?_ GE376.out | refine below_set ?_ GE395.out) | exact HB.out))) : w.heap.size ≤ gb410))
                                          have n5_ := Aside0.mk ((by rw [hg]; exact (below_size (by repeat (first | (with_reducible first | exact HB.out | apply below_alloc | apply pw_below_drewN | apply below_drew1 | refine below_set ?_ GE376.out | refine below_set ?_ GE395.out) | exact HB.out))) : w.heap.size ≤ gb410))
                                          have n6_ := Aside0.mk ((by rw [hg]; exact Nat.ne_of_lt (blk_lt (g := gb376) (o := .cells #[.int .i64 t372, .int .i64 t373, .bool t374] 27 (0, 0)) (by (with_reducible repeat (first | refine blk_drewN ?_ _ | refine blk_drew ?_ | refine blk_alloc ?_ _)); exact BK376.out)) : gb376 ≠ gb410))
                                          have n7_ := Aside0.mk ((by rw [hg]; exact Nat.ne_of_gt (blk_lt (g := gb376) (o := .cells #[.int .i64 t372, .int .i64 t373, .bool t374] 27 (0, 0)) (by (with_reducible repeat (first | refine blk_drewN ?_ _ | refine blk_drew ?_ | refine blk_alloc ?_ _)); exact BK376.out)) : gb410 ≠ gb376))
                                          have n8_ := Aside0.mk ((by rw [hg]; exact Nat.ne_of_lt (blk_lt (g := gb395) (o := .cells #[.int .i64 t392, .int .i64 t393] 25 (0, 0)) (by (with_reducible repeat (first | refine blk_drewN ?_ _ | refine blk_drew ?_ | refine blk_alloc ?_ _)); exact BK395.out)) : gb395 ≠ gb410))
                                          have n9_ := Aside0.mk ((by rw [hg]; exact Nat.ne_of_gt (blk_lt (g := gb395) (o := .cells #[.int .i64 t392, .int .i64 t393] 25 (0, 0)) (by (with_reducible repeat (first | refine blk_drewN ?_ _ | refine blk_drew ?_ | refine blk_alloc ?_ _)); exact BK395.out)) : gb410 ≠ gb395))
                                          clear BK376
                                          clear BK395
                                          clear HB
                                          have BK376 := n0_
                                          have BK395 := n1_
                                          have HB := n2_
                                          have BK410 := n3_
                                          have GW410 := n4_
                                          have GE410 := n5_
                                          have NB376_410 := n6_
                                          have NB410_376 := n7_
                                          have NB395_410 := n8_
                                          have NB410_395 := n9_
                                          clear n0_ n1_ n2_ n3_ n4_ n5_ n6_ n7_ n8_ n9_
                                          clear hb hbox hg
                                          refine hK.out _ _ ⟨(blk_cell BK376.out 0).trans rfl, (blk_cell BK376.out 1).trans rfl, (blk_cell BK376.out 2).trans rfl⟩ (fun hHeld => ?_)
                                          clear hK K
                                          refine norm_ (a' := ?_) ?_ ?_
                                          rotate_left
                                          · show Act.put _ (some 17) _ = _
                                            simp only [Act.put, List.setIfInBounds_toArray, List.set_cons_zero, List.set_cons_succ, i64_w, i32_w]
                                            rfl
                                          refine one_ (i := 11) (N := some 176) #[true, true, true, true, true, true, true, true, true, true, true, true, false, false, false, true, false, false] rfl rfl (one_of HT_.out (by kernel_rfl)) (by decide) (fun K hK => ?_)
                                          refine goes_ Try.func13 (by kernel_rfl) rfl #[.slice A0 l0.length c0, .int .i64 (wrap64 (t372 + (Int.tmod (wrap64 (a2)) t373))), .int .u8 112] (by rfl) rfl rfl (by (try simp only [List.map_toArray, List.map_cons, List.map_nil]); first | done | rfl | (simp only [List.length_drop, List.length_take]; rfl)) ?_
                                          with_reducible refine (object_Inner.calls kj84 _ _ l0 (wrap64 (t372 + (Int.tmod (wrap64 (a2)) t373))) 112 t406 t407 t408 t409 _ ?side1 ?side2 A98.out).mono ?_
                                          (case side1 => repeat (first | exact (Kd.C_below HR0.out HB.out) | (with_reducible refine Kd.C_alloc ?_ _) | (with_reducible refine Kd.C_drewN ?_ _) | (with_reducible refine Kd.C_drew ?_)))
                                          (case side2 => exact HC0.out)
                                          rintro e w117 ⟨rfl, hb⟩
                                          refine ⟨_, rfl, ?_⟩
                                          have n0_ := Aside0.mk (blk_below (g := gb376) (o := .cells #[.int .i64 t372, .int .i64 t373, .bool t374] 27 (0, 0)) (by (with_reducible repeat (first | refine blk_drewN ?_ _ | refine blk_drew ?_ | refine blk_alloc ?_ _)); exact BK376.out) hb)
                                          have n1_ := Aside0.mk (blk_below (g := gb395) (o := .cells #[.int .i64 t392, .int .i64 t393] 25 (0, 0)) (by (with_reducible repeat (first | refine blk_drewN ?_ _ | refine blk_drew ?_ | refine blk_alloc ?_ _)); exact BK395.out) hb)
                                          have n2_ := Aside0.mk (blk_below (g := gb410) (o := .cells #[.int .i64 0, .int .i64 0, .bool false] 27 (0, 0)) (by (with_reducible repeat (first | refine blk_drewN ?_ _ | refine blk_drew ?_ | refine blk_alloc ?_ _)); exact BK410.out) hb)
                                          have n3_ := Aside0.mk (below_step (by repeat (first | (with_reducible first | exact HB.out | apply below_alloc | apply pw_below_drewN | apply below_drew1 | refine below_set ?_ GE376.out | refine below_set ?_ GE395.out | refine below_set ?_ GE410.out) | exact HB.out)) hb)
                                          clear BK376
                                          clear BK395
                                          clear BK410
                                          clear HB
                                          have BK376 := n0_
                                          have BK395 := n1_
                                          have BK410 := n2_
                                          have HB := n3_
                                          clear n0_ n1_ n2_ n3_
                                          (try clear hb)
                                          (try clear hb2)
                                          (try clear hk)
                                          (try clear hi)
                                          refine hK.out _ _ ⟨(blk_cell BK376.out 0).trans rfl, (blk_cell BK376.out 1).trans rfl, (blk_cell BK376.out 2).trans rfl⟩ (fun hHeld => ?_)
                                          clear hK K
                                          refine norm_ (a' := ?_) ?_ ?_
                                          rotate_left
                                          · show Act.put _ (some 176) _ = _
                                            simp only [Act.put, List.setIfInBounds_toArray, List.set_cons_zero, List.set_cons_succ, i64_w, i32_w]
                                            rfl
                                          refine pure_ (i := 12) (N := some 164) (v := ?_) (a' := ?_) #[true, true, true, true, true, true, true, true, true, true, true, true, true, false, false, true, false, false] rfl rfl (any_of HT_.out (by kernel_rfl)) (fun _ _ _ h => h) (Or.inl ⟨by rfl, ?_⟩) ?_ ?_
                                          rotate_left
                                          · intro w'
                                            go_simp
                                            with_reducible rfl
                                          rotate_left
                                          · simp only [Act.put, List.setIfInBounds_toArray, List.set_cons_zero, List.set_cons_succ, i64_w, i32_w]
                                            rfl
                                          refine pure_ (i := 13) (N := some 177) (v := ?_) (a' := ?_) #[true, true, true, true, true, true, true, true, true, true, true, true, true, true, false, true, false, false] rfl rfl (any_of HT_.out (by kernel_rfl)) (fun _ _ _ h => h) (Or.inl ⟨by rfl, ?_⟩) ?_ ?_
                                          rotate_left
                                          · intro w'
                                            go_simp
                                            with_reducible rfl
                                          rotate_left
                                          · simp only [Act.put, List.setIfInBounds_toArray, List.set_cons_zero, List.set_cons_succ, i64_w, i32_w]
                                            rfl
                                          refine pure_ (i := 14) (N := some 178) (v := ?_) (a' := ?_) #[true, true, true, true, true, true, true, true, true, true, true, true, true, true, true, true, false, false] rfl rfl (any_of HT_.out (by kernel_rfl)) (fun _ _ _ h => h) (Or.inl ⟨by rfl, ?_⟩) ?_ ?_
                                          rotate_left
                                          · intro w'
                                            go_simp
                                            with_reducible rfl
                                          rotate_left
                                          · simp only [Act.put, List.setIfInBounds_toArray, List.set_cons_zero, List.set_cons_succ, i64_w, i32_w]
                                            rfl
                                          exact norm_ (by first | (simp only [putAll, Act.put, List.setIfInBounds_toArray, List.set_cons_zero, List.set_cons_succ]; done) | (simp only [putAll, Act.put, List.setIfInBounds_toArray, List.set_cons_zero, List.set_cons_succ, *]; done)) (hCont (gb410) _ ⟨hHeld, (by (with_reducible repeat (first | refine blk_drewN ?_ _ | refine blk_drew ?_ | refine blk_alloc ?_ _)); exact BK376.out), (by (with_reducible repeat (first | refine blk_drewN ?_ _ | refine blk_drew ?_ | refine blk_alloc ?_ _)); exact BK395.out), (by (with_reducible repeat (first | refine blk_drewN ?_ _ | refine blk_drew ?_ | refine blk_alloc ?_ _)); exact BK410.out), GW410.out, GE410.out, NB376_410.out, NB410_376.out, NB395_410.out, NB410_395.out, (by repeat (first | (with_reducible first | exact HB.out | apply below_alloc | apply pw_below_drewN | apply below_drew1 | refine below_set ?_ GE376.out | refine below_set ?_ GE395.out | refine below_set ?_ GE410.out) | exact HB.out))⟩)
                                      rintro gb410 w118 ⟨hS_, h0_, h1_, h2_, h3_, h4_, h5_, h6_, h7_, h8_, h9_⟩
                                      have n0_ : Aside0 (w118.heap[gb376]? = some (.cells #[.int .i64 t372, .int .i64 t373, .bool t374] 27 (0, 0))) := ⟨h0_⟩
                                      have n1_ : Aside0 (w118.heap[gb395]? = some (.cells #[.int .i64 t392, .int .i64 t393] 25 (0, 0))) := ⟨h1_⟩
                                      have n2_ : Aside0 (w118.heap[gb410]? = some (.cells #[.int .i64 0, .int .i64 0, .bool false] 27 (0, 0))) := ⟨h2_⟩
                                      have n3_ : Aside0 (w.heap.size ≤ gb410) := ⟨h3_⟩
                                      have n4_ : Aside0 (w.heap.size ≤ gb410) := ⟨h4_⟩
                                      have n5_ : Aside0 (gb376 ≠ gb410) := ⟨h5_⟩
                                      have n6_ : Aside0 (gb410 ≠ gb376) := ⟨h6_⟩
                                      have n7_ : Aside0 (gb395 ≠ gb410) := ⟨h7_⟩
                                      have n8_ : Aside0 (gb410 ≠ gb395) := ⟨h8_⟩
                                      have n9_ : Aside0 (Below w.heap.size w w118) := ⟨h9_⟩
                                      clear BK376
                                      clear BK395
                                      clear HB
                                      clear h0_ h1_ h2_ h3_ h4_ h5_ h6_ h7_ h8_ h9_
                                      have BK376 := n0_
                                      have BK395 := n1_
                                      have BK410 := n2_
                                      have GW410 := n3_
                                      have GE410 := n4_
                                      have NB376_410 := n5_
                                      have NB410_376 := n6_
                                      have NB395_410 := n7_
                                      have NB410_395 := n8_
                                      have HB := n9_
                                      clear n0_ n1_ n2_ n3_ n4_ n5_ n6_ n7_ n8_ n9_
                                      have hHeld : w118.cell? ⟨gb376, 0, none⟩ = some (.int .i64 t372) ∧ w118.cell? ⟨gb376, 1, none⟩ = some (.int .i64 t373) ∧ w118.cell? ⟨gb376, 2, none⟩ = some (.bool t374) := hS_
                                      refine norm_ (a' := ?_) ?_ ?_
                                      rotate_left
                                      · first | (simp only [putAll, Act.put, List.setIfInBounds_toArray, List.set_cons_zero, List.set_cons_succ, *]; rfl) | (simp only [putAll, Act.put, List.setIfInBounds_toArray, List.set_cons_zero, List.set_cons_succ]; rfl)
                                      refine one_ (i := 16) (N := none) #[true, true, true, true, true, true, true, true, true, true, true, true, true, true, true, true, true, false] rfl rfl (one_of HT_.out (by kernel_rfl)) (by decide) (fun K hK => ?_)
                                      have hs119 : w118.cell? ⟨gb410, 0, none⟩ = some (.int .i64 0) := (blk_cell BK410.out 0).trans rfl
                                      have hfs119 := blk_frozen BK410.out 0
                                      have hns119_0 := NB376_410.out
                                      have hns119_1 := NB395_410.out
                                      have hms119_0 := NB410_376.out
                                      have hms119_1 := NB410_395.out
                                      have hs120 : w118.cell? ⟨gb410, 1, none⟩ = some (.int .i64 0) := (blk_cell BK410.out 1).trans rfl
                                      have hfs120 := blk_frozen BK410.out 1
                                      have hns120_0 := NB376_410.out
                                      have hns120_1 := NB395_410.out
                                      have hms120_0 := NB410_376.out
                                      have hms120_1 := NB410_395.out
                                      have hs121 : w118.cell? ⟨gb410, 2, none⟩ = some (.bool false) := (blk_cell BK410.out 2).trans rfl
                                      have hfs121 := blk_frozen BK410.out 2
                                      have hns121_0 := NB376_410.out
                                      have hns121_1 := NB395_410.out
                                      have hms121_0 := NB410_376.out
                                      have hms121_1 := NB410_395.out
                                      refine skip_ (w1 := ?_) (by rfl) rfl ?_ ?_
                                      rotate_left
                                      · go_simp
                                        rfl
                                      refine hK.out _ _ ⟨((cell_far (p := ⟨gb410, _, none⟩) NB376_410.out _).trans (((cell_far (p := ⟨gb410, _, none⟩) NB376_410.out _).trans (((cell_far (p := ⟨gb410, _, none⟩) NB376_410.out _).trans (hHeld.1)))))), ((cell_far (p := ⟨gb410, _, none⟩) NB376_410.out _).trans (((cell_far (p := ⟨gb410, _, none⟩) NB376_410.out _).trans (((cell_far (p := ⟨gb410, _, none⟩) NB376_410.out _).trans (hHeld.2.1)))))), ((cell_far (p := ⟨gb410, _, none⟩) NB376_410.out _).trans (((cell_far (p := ⟨gb410, _, none⟩) NB376_410.out _).trans (((cell_far (p := ⟨gb410, _, none⟩) NB376_410.out _).trans (hHeld.2.2))))))⟩ (fun hHeld => ?_)
                                      clear hK K
                                      refine pure_ (i := 17) (N := some 18) (v := ?_) (a' := ?_) #[true, true, true, true, true, true, true, true, true, true, true, true, true, true, true, true, true, true] rfl rfl (any_of HT_.out (by kernel_rfl)) (fun _ _ _ h => h) (Or.inl ⟨by rfl, ?_⟩) ?_ ?_
                                      rotate_left
                                      · intro w'
                                        go_simp
                                        with_reducible rfl
                                      rotate_left
                                      · simp only [Act.put, List.setIfInBounds_toArray, List.set_cons_zero, List.set_cons_succ, i64_w, i32_w]
                                        rfl
                                      refine done_ (done_of HT_.out (by kernel_rfl)) ?_
                                      try go_wp2
                                      go_ret
                                      exact ⟨by first | rfl | (simp [errW_none, errW_some] <;> rfl) | (simp [*, errW_none, errW_some] <;> rfl), by repeat (first | (with_reducible first | exact HB.out | apply below_alloc | apply pw_below_drewN | apply below_drew1 | refine below_set ?_ GE376.out | refine below_set ?_ GE395.out | refine below_set ?_ GE410.out) | exact HB.out)⟩
                · rw [if_neg c31] at H
                  exact absurd H (by simp)
              · rw [if_neg c30] at H
                exact absurd H (by simp)

/-- THE ONE PURE STATEMENT of platenlaw20_ObjectParagraphs: yours. -/
def platenlaw20_ObjectParagraphs.Pure : Prop := ∀ (l0 : List Int) (a1 : Int) (a2 : Int), l0.length ≤ maxLen → l0.length * 1 ≤ 140737488351232 → (∀ x ∈ l0, (Lit.int .u8 x).wf = true) → (Lit.int .u8 a1).wf = true → (Lit.int .u8 a2).wf = true → ∃ k, platenlaw20_ObjectParagraphs.f k l0 a1 a2 = some true
theorem platenlaw20_ObjectParagraphs.walk (P : platenlaw20_ObjectParagraphs.Pure) (a0 : Option Addr) (len0 cap0 : Nat) (z0 : List Int) (a1 : Int) (a2 : Int) (w : World) (w0 : (a0 = none ∧ len0 = 0 ∧ cap0 = 0 ∧ z0 = []) ∨ ∃ x, a0 = some x ∧ len0 ≤ cap0 ∧ cap0 ≤ maxLen ∧ z0.length = cap0 ∧ (∀ i, i < z0.length → w.cell? (x.add i) = some (.int .u8 (z0.getD i 0))) ∧ ∀ n ∈ z0, (Lit.int .u8 n).wf = true) (y0 : len0 * 1 ≤ 140737488351232) (w1 : (Lit.int .u8 a1).wf = true) (w2 : (Lit.int .u8 a2).wf = true) :
    Calls Try.prog 6 #[.slice a0 len0 cap0, .int .u8 a1, .int .u8 a2] w fun e w' => e = .returned (.bool true) ∧ Below w.heap.size w w' := by
  obtain ⟨l0, rfl, hr0, hm0, hw0, hc0⟩ := ReadsInt.ofRowC w0
  obtain ⟨k, h⟩ := P l0 a1 a2 hm0 y0 hw0 w1 w2
  refine (platenlaw20_ObjectParagraphs.calls k _ _ l0 a1 a2 true w (Kd.C_of_reads (d := (0 : Int)) (h1 := fun _ => rfl) hr0) hc0 h).mono ?_
  rintro e w' ⟨rfl, hd⟩
  exact ⟨rfl, hd⟩

end Go.Proofs.Ytcljafgpjoagpaa.Pa
