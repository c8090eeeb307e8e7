-- Laid by a program of this claim's own (wip/tools/mkprint.py, ext.py): walks of the functions that the statements reach.
import Derived.Test.YtloafpnniooliaaDoorPax0
import Derived.Test.YtloafpnniooliaaDoorPax12
import Derived.Test.YtloafpnniooliaaDoorPax13
namespace Go.Proofs.YtloafpnniooliaaDoor.Pa
open Go.RowKit Go.Proofs.YtloafpnniooliaaDoor.Ext Go.Proofs.YtloafpnniooliaaDoorW.PrintWords Go.Proofs.YtloafpnniooliaaDoorW.PrintLast Go.Proofs.YtloafpnniooliaaDoorW.PrintMore
attribute [local go_sem] max2_int min2_int max_two min_two max_three min_three max_four min_four   -- for this text's walks alone
set_option linter.unusedVariables false
set_option linter.unusedSimpArgs false

/-! ### platenref19_signs: function 42 -/
mutual
def platenref19_signs.l0 : Nat → List Int → Int → Bool → Int → Int → Option (Int × Bool)
  | 0, _, _, _, _, _ => none
  | k + 1, x0, x1, x2, x3, x10 => if x10 < x3 then (if x2 = true then (if x1 = (x0.length : Int) then (platenref19_signs.j1 k x0 x1 x2 x3 x10 true) else (if 0 ≤ x1 then (if x1 < (x0.length : Int) then (platenref19_signs.j1 k x0 x1 x2 x3 x10 ((rd x0 x1) == 10)) else (none)) else (none))) else (platenref19_signs.j1 k x0 x1 x2 x3 x10 false)) else (some (x1, true))
def platenref19_signs.j1 : Nat → List Int → Int → Bool → Int → Int → Bool → Option (Int × Bool)
  | 0, _, _, _, _, _, _ => none
  | k + 1, x0, x1, x2, x3, x10, x21 => if x21 = true then (platenref19_signs.j2 k x0 x1 x2 x3 x10 x21) else (if x2 = true then (platenref19_signs.j2 k x0 x1 x2 x3 x10 false) else (if x1 = 0 then (platenref19_signs.j2 k x0 x1 x2 x3 x10 true) else (if 0 ≤ (wrap64 (x1 - 1)) then (if (wrap64 (x1 - 1)) < (x0.length : Int) then (platenref19_signs.j2 k x0 x1 x2 x3 x10 ((rd x0 (wrap64 (x1 - 1))) == 10)) else (none)) else (none))))
def platenref19_signs.j2 : Nat → List Int → Int → Bool → Int → Int → Bool → Option (Int × Bool)
  | 0, _, _, _, _, _, _ => none
  | k + 1, x0, x1, x2, x3, x10, x21 => if x21 = true then (some (0, false)) else (if x2 = true then ((platenref01_Size.f k x0 x1).bind fun t299 => (platenref19_signs.l0 k x0 (wrap64 (x1 + t299)) x2 x3 (wrap64 (x10 + 1)))) else ((platenref01_Last.f k x0 x1).bind fun t300 => (platenref19_signs.l0 k x0 (wrap64 (x1 - t300)) x2 x3 (wrap64 (x10 + 1)))))
end
def platenref19_signs.f (k : Nat) (l0 : List Int) (a1 : Int) (a2 : Bool) (a3 : Int) : Option (Int × Bool) := platenref19_signs.l0 k l0 a1 a2 a3 0
theorem platenref19_signs.mono_l : ∀ k, (∀ y0 y1 y2 y3 y4, LeO (platenref19_signs.l0 k y0 y1 y2 y3 y4) (platenref19_signs.l0 (k + 1) y0 y1 y2 y3 y4)) ∧ (∀ y0 y1 y2 y3 y4 y5, LeO (platenref19_signs.j1 k y0 y1 y2 y3 y4 y5) (platenref19_signs.j1 (k + 1) y0 y1 y2 y3 y4 y5)) ∧ (∀ y0 y1 y2 y3 y4 y5, LeO (platenref19_signs.j2 k y0 y1 y2 y3 y4 y5) (platenref19_signs.j2 (k + 1) y0 y1 y2 y3 y4 y5))
  | 0 => ⟨fun _ _ _ _ _ r h => by simp [platenref19_signs.l0] at h, fun _ _ _ _ _ _ r h => by simp [platenref19_signs.j1] at h, fun _ _ _ _ _ _ r h => by simp [platenref19_signs.j2] at h⟩
  | k + 1 => by
    obtain ⟨ih0, ih1, ih2⟩ := platenref19_signs.mono_l k
    refine ⟨?_, ?_, ?_⟩
    · intro y0 y1 y2 y3 y4
      unfold platenref19_signs.l0
      repeat' first
      | (with_reducible exact ih0 _ _ _ _ _)
      | (with_reducible exact ih1 _ _ _ _ _ _)
      | (with_reducible exact ih2 _ _ _ _ _ _)
      | (with_reducible exact platenref01_Last.mono _ _ _)
      | (with_reducible exact platenref01_Size.mono _ _ _)
      | (with_reducible exact LeO.refl _)
      | (with_reducible exact LeO.none _)
      | (with_reducible refine LeO.ite ?_ ?_)
      | (with_reducible refine LeO.bind ?_ (fun _ => ?_))
      | exact ih0 _ _ _ _ _
      | exact ih1 _ _ _ _ _ _
      | exact ih2 _ _ _ _ _ _
      | exact platenref01_Last.mono _ _ _
      | exact platenref01_Size.mono _ _ _
      | exact LeO.none _
      | refine LeO.ite ?_ ?_
      | refine LeO.bind ?_ (fun _ => ?_)
    · intro y0 y1 y2 y3 y4 y5
      unfold platenref19_signs.j1
      repeat' first
      | (with_reducible exact ih0 _ _ _ _ _)
      | (with_reducible exact ih1 _ _ _ _ _ _)
      | (with_reducible exact ih2 _ _ _ _ _ _)
      | (with_reducible exact platenref01_Last.mono _ _ _)
      | (with_reducible exact platenref01_Size.mono _ _ _)
      | (with_reducible exact LeO.refl _)
      | (with_reducible exact LeO.none _)
      | (with_reducible refine LeO.ite ?_ ?_)
      | (with_reducible refine LeO.bind ?_ (fun _ => ?_))
      | exact ih0 _ _ _ _ _
      | exact ih1 _ _ _ _ _ _
      | exact ih2 _ _ _ _ _ _
      | exact platenref01_Last.mono _ _ _
      | exact platenref01_Size.mono _ _ _
      | exact LeO.none _
      | refine LeO.ite ?_ ?_
      | refine LeO.bind ?_ (fun _ => ?_)
    · intro y0 y1 y2 y3 y4 y5
      unfold platenref19_signs.j2
      repeat' first
      | (with_reducible exact ih0 _ _ _ _ _)
      | (with_reducible exact ih1 _ _ _ _ _ _)
      | (with_reducible exact ih2 _ _ _ _ _ _)
      | (with_reducible exact platenref01_Last.mono _ _ _)
      | (with_reducible exact platenref01_Size.mono _ _ _)
      | (with_reducible exact LeO.refl _)
      | (with_reducible exact LeO.none _)
      | (with_reducible refine LeO.ite ?_ ?_)
      | (with_reducible refine LeO.bind ?_ (fun _ => ?_))
      | exact ih0 _ _ _ _ _
      | exact ih1 _ _ _ _ _ _
      | exact ih2 _ _ _ _ _ _
      | exact platenref01_Last.mono _ _ _
      | exact platenref01_Size.mono _ _ _
      | exact LeO.none _
      | refine LeO.ite ?_ ?_
      | refine LeO.bind ?_ (fun _ => ?_)
theorem platenref19_signs.mono : ∀ a0 a1 a2 a3 k, LeO (platenref19_signs.f k a0 a1 a2 a3) (platenref19_signs.f (k + 1) a0 a1 a2 a3) := by
  intro a0 a1 a2 a3 k
  obtain ⟨ih0, ih1, ih2⟩ := platenref19_signs.mono_l k
  unfold platenref19_signs.f
  repeat' first
      | (with_reducible exact ih0 _ _ _ _ _)
      | (with_reducible exact ih1 _ _ _ _ _ _)
      | (with_reducible exact ih2 _ _ _ _ _ _)
      | (with_reducible exact platenref01_Last.mono _ _ _)
      | (with_reducible exact platenref01_Size.mono _ _ _)
      | (with_reducible exact LeO.refl _)
      | (with_reducible exact LeO.none _)
      | (with_reducible refine LeO.ite ?_ ?_)
      | (with_reducible refine LeO.bind ?_ (fun _ => ?_))
      | exact ih0 _ _ _ _ _
      | exact ih1 _ _ _ _ _ _
      | exact ih2 _ _ _ _ _ _
      | exact platenref01_Last.mono _ _ _
      | exact platenref01_Size.mono _ _ _
      | exact LeO.none _
      | refine LeO.ite ?_ ?_
      | refine LeO.bind ?_ (fun _ => ?_)
set_option maxHeartbeats 8000000 in
set_option maxRecDepth 100000 in
theorem platenref19_signs.calls (k : Nat) (A0 : Option Addr) (c0 : Nat) (l0 : List Int) (a1 : Int) (a2 : Bool) (a3 : Int) (r1 : Int) (r2 : Bool) (w : World) (hr0 : Kd.C (Kd.int .u8) w A0 l0.length l0) (hc0 : l0.length ≤ c0) (h : platenref19_signs.f k l0 a1 a2 a3 = some (r1, r2)) :
  Calls Tryd.prog 42 #[.slice A0 l0.length c0, .int .i64 a1, .bool a2, .int .i64 a3] w fun e w' => e = .returned (.tuple #[.int .i64 r1, .bool r2]) ∧ Drawn0 w w' := by
 have HR0 := Aside0.mk hr0
 have HC0 := Aside0.mk hc0
 clear hr0 hc0
 have H : (platenref19_signs.l0 k l0 a1 a2 a3 0) = some (r1, r2) := h
 clear h
 have H' := Aside0.mk H
 clear H
 go_enter Tryd.func42, Tryd.ntmps42
 go_wp2
 go_loopg [1, 10] k (fun kq v1 v10 w' => ∃ (x1_1 : Int) (x10_1 : Int), v1 = .int .i64 x1_1 ∧ v10 = .int .i64 x10_1 ∧ Aside0 (platenref19_signs.l0 kq l0 x1_1 a2 a3 x10_1 = some (r1, r2)) ∧ Aside0 (kq ≤ k) ∧ Drawn0 w w')
 case atStart => exact ⟨(a1), (0), (by first | rfl | (simp; done) | (simp [*]; done)), (by first | rfl | (simp; done) | (simp [*]; done)), H', ⟨Nat.le_refl _⟩, by repeat (first | exact Drawn0.refl _ | apply Drawn0.step)⟩
 case round =>
  clear H'
  try clear p2
  try clear c4
  obtain ⟨x1_1, x10_1, rfl, rfl, HA, HK1, ⟨m1, rfl⟩⟩ := hrel
  cases gk with
  | zero => exact absurd HA.out (by simp [platenref19_signs.l0])
  | succ k1 =>
   have H := HA.out
   clear HA
   simp only [platenref19_signs.l0] at H
   by_cases c5 : x10_1 < a3
   ·rw [if_pos c5] at H
    have c5b0 : decide (x10_1 < a3) = true := decide_eq_true c5
    clear c5
    have HC6 := Aside0.mk H
    clear H
    go_upto_region 5 with (fail)
    go_cut [21] (fun v21 wc => ∃ (kq : Nat) (x21_5 : Bool), v21 = .bool x21_5 ∧ Aside0 (platenref19_signs.j1 kq l0 x1_1 a2 a3 x10_1 x21_5 = some (r1, r2)) ∧ Aside0 (kq ≤ k1) ∧ Drawn0 w wc)
    case first =>
     have H := HC6.out
     clear HC6
     by_cases c7 : a2 = true
     ·subst c7
      have H1 : (if x1_1 = (l0.length : Int) then (platenref19_signs.j1 k1 l0 x1_1 true a3 x10_1 true) else (if 0 ≤ x1_1 then (if x1_1 < (l0.length : Int) then (platenref19_signs.j1 k1 l0 x1_1 true a3 x10_1 ((rd l0 x1_1) == 10)) else (none)) else (none))) = some (r1, r2) := by rw [if_pos rfl] at H; exact H
      clear H
      have H := H1
      clear H1
      by_cases c8 : x1_1 = (l0.length : Int)
      ·rw [if_pos c8] at H
       have c8b0 : (x1_1 == (l0.length : Int)) = true := beq_iff_eq.mpr c8
       have c8b1 : (x1_1 != (l0.length : Int)) = false := bne_eq_false_iff_eq.mpr c8
       clear c8
       (first | rw [c8b0] | (simp only [i64_w, i32_w]; rw [c8b0]) | skip)
       have H' := Aside0.mk H
       clear H
       go_wp2
       go_meet
       case rel => exact ⟨_, (true), (by first | rfl | (simp; done) | (simp [*]; done)), H', ⟨by have := HK1.out; first | omega | exact Nat.le_refl _⟩, by repeat (first | exact Drawn0.refl _ | apply Drawn0.step)⟩
      ·rw [if_neg c8] at H
       have c8b0 : (x1_1 == (l0.length : Int)) = false := beq_eq_false_iff_ne.mpr c8
       have c8b1 : (x1_1 != (l0.length : Int)) = true := bne_iff_ne.mpr c8
       (first | rw [c8b0] | (simp only [i64_w, i32_w]; rw [c8b0]) | skip)
       by_cases c9 : 0 ≤ x1_1
       ·rw [if_pos c9] at H
        have c9b0 : decide (0 ≤ x1_1) = true := decide_eq_true c9
        clear c9
        by_cases c10 : x1_1 < (l0.length : Int)
        ·rw [if_pos c10] at H
         have c10b0 : decide (x1_1 < (l0.length : Int)) = true := decide_eq_true c10
         clear c10
         have H' := Aside0.mk H
         clear H
         have p297 : 0 ≤ (x1_1 : Int) := of_decide_eq_true (by first | (with_reducible assumption) | assumption)
         have q297 : x1_1 < (l0.length : Int) := of_decide_eq_true (by first | (with_reducible assumption) | assumption)
         obtain ⟨ad297, e297, hx297_0⟩ := Kd.at_int HR0.out x1_1 p297 q297
         cases e297
         replace p297 := eq_true p297
         replace q297 := eq_true q297
         go_wp2
         go_meet
         case rel => exact ⟨_, (((rd l0 x1_1) == 10)), (by first | rfl | (simp; done) | (simp [*]; done)), H', ⟨by have := HK1.out; first | omega | exact Nat.le_refl _⟩, by repeat (first | exact Drawn0.refl _ | apply Drawn0.step)⟩
        ·rw [if_neg c10] at H
         exact absurd H (by simp)
       ·rw [if_neg c9] at H
        exact absurd H (by simp)
     ·replace c7 := Bool.eq_false_iff.mpr c7
      subst c7
      have H1 : (platenref19_signs.j1 k1 l0 x1_1 false a3 x10_1 false) = some (r1, r2) := by rw [if_neg (show ¬ (false = true) by decide)] at H; exact H
      clear H
      have H := H1
      clear H1
      have H' := Aside0.mk H
      clear H
      go_wp2
      go_meet
      case rel => exact ⟨_, (false), (by first | rfl | (simp; done) | (simp [*]; done)), H', ⟨by have := HK1.out; first | omega | exact Nat.le_refl _⟩, by repeat (first | exact Drawn0.refl _ | apply Drawn0.step)⟩
    case rest =>
     clear HC6
     try clear c1
     try clear p2
     try clear q2
     try clear hx2
     try clear c4
     try clear c5
     try clear c5b0
     try clear c7
     try clear c8
     try clear c8b0
     try clear c8b1
     try clear c9
     try clear c9b0
     try clear c10
     try clear c10b0
     try clear hx297_0
     try clear p2
     try clear p297
     try clear q297
     obtain ⟨kq, x21_5, rfl, HA, HJ5, ⟨mc5, rfl⟩⟩ := hcut
     cases kq with
     | zero => exact absurd HA.out (by simp [platenref19_signs.j1])
     | succ kj5 =>
      have H := HA.out
      clear HA
      simp only [platenref19_signs.j1] at H
      have HC11 := Aside0.mk H
      clear H
      go_upto_if 21 with (fail)
      go_cut [21] (fun v21 wc => ∃ (kq : Nat) (x21_10 : Bool), v21 = .bool x21_10 ∧ Aside0 (platenref19_signs.j2 kq l0 x1_1 a2 a3 x10_1 x21_10 = some (r1, r2)) ∧ Aside0 (kq ≤ kj5) ∧ Drawn0 w wc)
      case first =>
       have H := HC11.out
       clear HC11
       by_cases c12 : x21_5 = true
       ·subst c12
        have H1 : (platenref19_signs.j2 kj5 l0 x1_1 a2 a3 x10_1 true) = some (r1, r2) := by rw [if_pos rfl] at H; exact H
        clear H
        have H := H1
        clear H1
        have H' := Aside0.mk H
        clear H
        go_wp2
        go_meet
        case rel => exact ⟨_, (true), (by first | rfl | (simp; done) | (simp [*]; done)), H', ⟨by have := HK1.out; have := HJ5.out; first | omega | exact Nat.le_refl _⟩, by repeat (first | exact Drawn0.refl _ | apply Drawn0.step)⟩
       ·replace c12 := Bool.eq_false_iff.mpr c12
        subst c12
        have H1 : (if a2 = true then (platenref19_signs.j2 kj5 l0 x1_1 a2 a3 x10_1 false) else (if x1_1 = 0 then (platenref19_signs.j2 kj5 l0 x1_1 a2 a3 x10_1 true) else (if 0 ≤ (wrap64 (x1_1 - 1)) then (if (wrap64 (x1_1 - 1)) < (l0.length : Int) then (platenref19_signs.j2 kj5 l0 x1_1 a2 a3 x10_1 ((rd l0 (wrap64 (x1_1 - 1))) == 10)) else (none)) else (none)))) = some (r1, r2) := by rw [if_neg (show ¬ (false = true) by decide)] at H; exact H
        clear H
        have H := H1
        clear H1
        by_cases c13 : a2 = true
        ·subst c13
         have H1 : (platenref19_signs.j2 kj5 l0 x1_1 true a3 x10_1 false) = some (r1, r2) := by rw [if_pos rfl] at H; exact H
         clear H
         have H := H1
         clear H1
         have H' := Aside0.mk H
         clear H
         go_wp2
         go_meet
         case rel => exact ⟨_, (false), (by first | rfl | (simp; done) | (simp [*]; done)), H', ⟨by have := HK1.out; have := HJ5.out; first | omega | exact Nat.le_refl _⟩, by repeat (first | exact Drawn0.refl _ | apply Drawn0.step)⟩
        ·replace c13 := Bool.eq_false_iff.mpr c13
         subst c13
         have H1 : (if x1_1 = 0 then (platenref19_signs.j2 kj5 l0 x1_1 false a3 x10_1 true) else (if 0 ≤ (wrap64 (x1_1 - 1)) then (if (wrap64 (x1_1 - 1)) < (l0.length : Int) then (platenref19_signs.j2 kj5 l0 x1_1 false a3 x10_1 ((rd l0 (wrap64 (x1_1 - 1))) == 10)) else (none)) else (none))) = some (r1, r2) := by rw [if_neg (show ¬ (false = true) by decide)] at H; exact H
         clear H
         have H := H1
         clear H1
         by_cases c14 : x1_1 = 0
         ·rw [if_pos c14] at H
          have c14b0 : (x1_1 == 0) = true := beq_iff_eq.mpr c14
          have c14b1 : (x1_1 != 0) = false := bne_eq_false_iff_eq.mpr c14
          clear c14
          (first | rw [c14b0] | (simp only [i64_w, i32_w]; rw [c14b0]) | skip)
          have H' := Aside0.mk H
          clear H
          go_wp2
          go_meet
          case rel => exact ⟨_, (true), (by first | rfl | (simp; done) | (simp [*]; done)), H', ⟨by have := HK1.out; have := HJ5.out; first | omega | exact Nat.le_refl _⟩, by repeat (first | exact Drawn0.refl _ | apply Drawn0.step)⟩
         ·rw [if_neg c14] at H
          have c14b0 : (x1_1 == 0) = false := beq_eq_false_iff_ne.mpr c14
          have c14b1 : (x1_1 != 0) = true := bne_iff_ne.mpr c14
          (first | rw [c14b0] | (simp only [i64_w, i32_w]; rw [c14b0]) | skip)
          obtain ⟨ji15, hji15⟩ : ∃ j_ : Int, (wrap64 (x1_1 - 1)) = j_ := ⟨_, rfl⟩
          replace H : (if 0 ≤ (ji15) then (if (ji15) < (l0.length : Int) then (platenref19_signs.j2 kj5 l0 x1_1 false a3 x10_1 ((rd l0 (ji15)) == 10)) else (none)) else (none)) = some (r1, r2) := by first | (rw [hji15] at H; exact H) | (simp only [hji15] at H ⊢; exact H)
          have hji15w : (IntKind.i64.wrap (x1_1 - 1)) = ji15 := (i64_w _).trans hji15
          by_cases c16 : 0 ≤ (ji15)
          ·rw [if_pos c16] at H
           have c16b0 : decide (0 ≤ (ji15)) = true := decide_eq_true c16
           clear c16
           by_cases c17 : (ji15) < (l0.length : Int)
           ·rw [if_pos c17] at H
            have c17b0 : decide ((ji15) < (l0.length : Int)) = true := decide_eq_true c17
            clear c17
            have H' := Aside0.mk H
            clear H
            have p298 : 0 ≤ ((ji15) : Int) := of_decide_eq_true (by first | (with_reducible assumption) | assumption)
            have q298 : (ji15) < (l0.length : Int) := of_decide_eq_true (by first | (with_reducible assumption) | assumption)
            obtain ⟨ad298, e298, hx298_0⟩ := Kd.at_int HR0.out (ji15) p298 q298
            cases e298
            replace p298 := eq_true p298
            replace q298 := eq_true q298
            go_wp2
            go_meet
            case rel => exact ⟨_, (((rd l0 (ji15)) == 10)), (by first | rfl | (simp; done) | (simp only [← hji15] <;> (first | rfl | simp)) | (simp [*]; done)), H', ⟨by have := HK1.out; have := HJ5.out; first | omega | exact Nat.le_refl _⟩, by repeat (first | exact Drawn0.refl _ | apply Drawn0.step)⟩
           ·rw [if_neg c17] at H
            exact absurd H (by simp)
          ·rw [if_neg c16] at H
           exact absurd H (by simp)
      case rest =>
       clear HC11
       try clear c1
       try clear p2
       try clear q2
       try clear hx2
       try clear c4
       try clear c5
       try clear c5b0
       try clear p6
       try clear c7
       try clear c8
       try clear c8b0
       try clear c8b1
       try clear c9
       try clear c9b0
       try clear c10
       try clear c10b0
       try clear c12
       try clear c13
       try clear c14
       try clear c14b0
       try clear c14b1
       try clear c16
       try clear c16b0
       try clear c17
       try clear c17b0
       try clear hx297_0
       try clear hx298_0
       try clear p2
       try clear p297
       try clear p298
       try clear q2
       try clear q297
       try clear q298
       obtain ⟨kq, x21_10, rfl, HA, HJ10, ⟨mc10, rfl⟩⟩ := hcut
       cases kq with
       | zero => exact absurd HA.out (by simp [platenref19_signs.j2])
       | succ kj10 =>
        have H := HA.out
        clear HA
        simp only [platenref19_signs.j2] at H
        by_cases c18 : x21_10 = true
        ·subst c18
         have H1 : (some (0, false)) = some (r1, r2) := by rw [if_pos rfl] at H; exact H
         clear H
         have H := H1
         clear H1
         simp only [Option.some.injEq, Prod.mk.injEq] at H
         obtain ⟨rfl, rfl⟩ := H
         go_wp2
         go_ret2
         exact ⟨by first | rfl | (simp; done) | (simp [*]; done), by repeat (first | exact Drawn0.refl _ | apply Drawn0.step)⟩
        ·replace c18 := Bool.eq_false_iff.mpr c18
         subst c18
         have H1 : (if a2 = true then ((platenref01_Size.f kj10 l0 x1_1).bind fun t299 => (platenref19_signs.l0 kj10 l0 (wrap64 (x1_1 + t299)) a2 a3 (wrap64 (x10_1 + 1)))) else ((platenref01_Last.f kj10 l0 x1_1).bind fun t300 => (platenref19_signs.l0 kj10 l0 (wrap64 (x1_1 - t300)) a2 a3 (wrap64 (x10_1 + 1))))) = some (r1, r2) := by rw [if_neg (show ¬ (false = true) by decide)] at H; exact H
         clear H
         have H := H1
         clear H1
         by_cases c19 : a2 = true
         ·subst c19
          have H1 : ((platenref01_Size.f kj10 l0 x1_1).bind fun t299 => (platenref19_signs.l0 kj10 l0 (wrap64 (x1_1 + t299)) true a3 (wrap64 (x10_1 + 1)))) = some (r1, r2) := by rw [if_pos rfl] at H; exact H
          clear H
          have H := H1
          clear H1
          replace H := Option.bind_eq_some_iff.mp H
          obtain ⟨t299, A200, H⟩ := H
          replace H : (platenref19_signs.l0 kj10 l0 (wrap64 (x1_1 + t299)) true a3 (wrap64 (x10_1 + 1))) = some (r1, r2) := H
          have A20 := Aside0.mk A200
          clear A200
          have H' := Aside0.mk H
          clear H
          go_wp2_with (first | ((with_reducible refine gate_callee (f := 16) rfl ?_); refine goesL_ (some 55) rfl rfl Tryd.func16 (by kernel_rfl) rfl #[.slice A0 l0.length c0, .int .i64 x1_1] rfl (by (try simp only [List.map_toArray, List.map_cons, List.map_nil]); first | done | rfl | (simp only [List.length_drop, List.length_take]; rfl)) ?_; (with_reducible refine (platenref01_Size.calls kj10 _ _ l0 x1_1 t299 _ ?side1 ?side2 A20.out).mono ?_); (case side1 => repeat (first | exact HR0.out | (with_reducible refine Kd.C_alloc ?_ _) | (with_reducible refine Kd.C_drewN ?_ _) | (with_reducible refine Kd.C_drew ?_))); (case side2 => exact HC0.out); rintro e w' ⟨rfl, ⟨nd, rfl⟩⟩; refine ⟨_, rfl, ?_⟩))
          go_roundg kj10
          case measure => have := HK1.out; have := HJ5.out; have := HJ10.out; omega
          case rel => exact ⟨(wrap64 (x1_1 + t299)), (wrap64 (x10_1 + 1)), (by first | rfl | (simp; done) | (simp [*]; done)), (by first | rfl | (simp; done) | (simp [*]; done)), H', ⟨by have := HK1.out; have := HJ5.out; have := HJ10.out; omega⟩, by repeat (first | exact Drawn0.refl _ | apply Drawn0.step)⟩
         ·replace c19 := Bool.eq_false_iff.mpr c19
          subst c19
          have H1 : ((platenref01_Last.f kj10 l0 x1_1).bind fun t300 => (platenref19_signs.l0 kj10 l0 (wrap64 (x1_1 - t300)) false a3 (wrap64 (x10_1 + 1)))) = some (r1, r2) := by rw [if_neg (show ¬ (false = true) by decide)] at H; exact H
          clear H
          have H := H1
          clear H1
          replace H := Option.bind_eq_some_iff.mp H
          obtain ⟨t300, A210, H⟩ := H
          replace H : (platenref19_signs.l0 kj10 l0 (wrap64 (x1_1 - t300)) false a3 (wrap64 (x10_1 + 1))) = some (r1, r2) := H
          have A21 := Aside0.mk A210
          clear A210
          have H' := Aside0.mk H
          clear H
          go_wp2_with (first | ((with_reducible refine gate_callee (f := 20) rfl ?_); refine goesL_ (some 19) rfl rfl Tryd.func20 (by kernel_rfl) rfl #[.slice A0 l0.length c0, .int .i64 x1_1] rfl (by (try simp only [List.map_toArray, List.map_cons, List.map_nil]); first | done | rfl | (simp only [List.length_drop, List.length_take]; rfl)) ?_; (with_reducible refine (platenref01_Last.calls kj10 _ _ l0 x1_1 t300 _ ?side1 ?side2 A21.out).mono ?_); (case side1 => repeat (first | exact HR0.out | (with_reducible refine Kd.C_alloc ?_ _) | (with_reducible refine Kd.C_drewN ?_ _) | (with_reducible refine Kd.C_drew ?_))); (case side2 => exact HC0.out); rintro e w' ⟨rfl, ⟨nd, rfl⟩⟩; refine ⟨_, rfl, ?_⟩))
          go_roundg kj10
          case measure => have := HK1.out; have := HJ5.out; have := HJ10.out; omega
          case rel => exact ⟨(wrap64 (x1_1 - t300)), (wrap64 (x10_1 + 1)), (by first | rfl | (simp; done) | (simp [*]; done)), (by first | rfl | (simp; done) | (simp [*]; done)), H', ⟨by have := HK1.out; have := HJ5.out; have := HJ10.out; omega⟩, by repeat (first | exact Drawn0.refl _ | apply Drawn0.step)⟩
   ·rw [if_neg c5] at H
    have c5b0 : decide (x10_1 < a3) = false := decide_eq_false c5
    clear c5
    simp only [Option.some.injEq, Prod.mk.injEq] at H
    obtain ⟨rfl, rfl⟩ := H
    go_wp2
    go_ret2
    exact ⟨by first | rfl | (simp; done) | (simp [*]; done), by repeat (first | exact Drawn0.refl _ | apply Drawn0.step)⟩

/-! ### platenref03_Ends: function 27 -/
def platenref03_Ends.l0 : Nat → List Int → List Int → Int → Option (List Int)
  | 0, _, _, _ => none
  | k + 1, x0, x3, x4 => if x4 < (x0.length : Int) then (if 0 ≤ x4 then (if (rd x0 x4) = 10 then (if x3.length < 17592186044416 then (platenref03_Ends.l0 k x0 (x3 ++ [x4]) (wrap64 (x4 + 1))) else (none)) else (platenref03_Ends.l0 k x0 x3 (wrap64 (x4 + 1)))) else (none)) else (some x3)
def platenref03_Ends.f (k : Nat) (l0 : List Int) : Option (List Int) := platenref03_Ends.l0 k l0 ([] : List Int) 0
theorem platenref03_Ends.mono_l : ∀ k, (∀ y0 y1 y2, LeO (platenref03_Ends.l0 k y0 y1 y2) (platenref03_Ends.l0 (k + 1) y0 y1 y2))
  | 0 => fun _ _ _ r h => by simp [platenref03_Ends.l0] at h
  | k + 1 => by
    have ih0 := platenref03_Ends.mono_l k
    · intro y0 y1 y2
      unfold platenref03_Ends.l0
      repeat' first
      | (with_reducible exact ih0 _ _ _)
      | (with_reducible exact LeO.refl _)
      | (with_reducible exact LeO.none _)
      | (with_reducible refine LeO.ite ?_ ?_)
      | (with_reducible refine LeO.bind ?_ (fun _ => ?_))
      | exact ih0 _ _ _
      | exact LeO.none _
      | refine LeO.ite ?_ ?_
      | refine LeO.bind ?_ (fun _ => ?_)
theorem platenref03_Ends.mono : ∀ a0 k, LeO (platenref03_Ends.f k a0) (platenref03_Ends.f (k + 1) a0) := by
  intro a0 k
  have ih0 := platenref03_Ends.mono_l k
  unfold platenref03_Ends.f
  repeat' first
      | (with_reducible exact ih0 _ _ _)
      | (with_reducible exact LeO.refl _)
      | (with_reducible exact LeO.none _)
      | (with_reducible refine LeO.ite ?_ ?_)
      | (with_reducible refine LeO.bind ?_ (fun _ => ?_))
      | exact ih0 _ _ _
      | exact LeO.none _
      | refine LeO.ite ?_ ?_
      | refine LeO.bind ?_ (fun _ => ?_)
set_option maxHeartbeats 8000000 in
set_option maxRecDepth 100000 in
theorem platenref03_Ends.calls (k : Nat) (A0 : Option Addr) (c0 : Nat) (l0 : List Int) (r : List Int) (w : World) (hr0 : Kd.C (Kd.int .u8) w A0 l0.length l0) (hc0 : l0.length ≤ c0) (h : platenref03_Ends.f k l0 = some r) :
    Calls Tryd.prog 27 #[.slice A0 l0.length c0] w fun e w' => ∃ v0_ : Value, e = .returned (v0_) ∧ Kd.R (Kd.int .i64) 3 w' w.heap.size (fun _ => True) v0_ r ∧ Below w.heap.size w w' := by
  have HR0 := Aside0.mk hr0
  have HC0 := Aside0.mk hc0
  clear hr0 hc0
  have HB := Aside0.mk (Below.refl w.heap.size w)
  have H : (platenref03_Ends.l0 k l0 ([] : List Int) 0) = some r := h
  clear h
  have H' := Aside0.mk H
  clear H
  go_enter Tryd.func27, Tryd.ntmps27
  go_wp2
  go_loopg [3, 4] k (fun kq v3 v4 w' => ∃ (x3_1 : List Int) (x4_1 : Int), v4 = .int .i64 x4_1 ∧ Aside0 (platenref03_Ends.l0 kq l0 x3_1 x4_1 = some r) ∧ Aside0 (kq ≤ k) ∧ Aside0 (Kd.R (Kd.int .i64) 3 w' w.heap.size (fun _ => True) v3 x3_1) ∧ Aside0 (Below w.heap.size w w'))
  case atStart => exact ⟨(([] : List Int)), (0), (by first | rfl | (simp; done) | (simp [*]; done)), H', ⟨Nat.le_refl _⟩, ⟨by first | exact Kd.R_nil _ _ _ _ _ | exact Kd.N_nil _ _ _ _ _ | exact Kd.V_nil _ _ _ _ _ | exact Kd.Q_nil _ _ _ _ _ | exact Kd.S_nil _ _ _ _ _⟩, ⟨by repeat (first | (with_reducible first | exact HB.out | apply below_alloc | apply pw_below_drewN | apply below_drew1) | exact HB.out)⟩⟩
  case round =>
    clear H'
    obtain ⟨x3_1, x4_1, rfl, HA, HK1, HO_3, HB⟩ := hrel
    cases gk with
    | zero => exact absurd HA.out (by simp [platenref03_Ends.l0])
    | succ k1 =>
      have H := HA.out
      clear HA
      simp only [platenref03_Ends.l0] at H
      by_cases c2 : x4_1 < (l0.length : Int)
      · rw [if_pos c2] at H
        have c2b0 : decide (x4_1 < (l0.length : Int)) = true := decide_eq_true c2
        clear c2
        by_cases c3 : 0 ≤ x4_1
        · rw [if_pos c3] at H
          have c3b0 : decide (0 ≤ x4_1) = true := decide_eq_true c3
          clear c3
          by_cases c4 : (rd l0 x4_1) = 10
          · rw [if_pos c4] at H
            have c4b0 : ((rd l0 x4_1) == 10) = true := beq_iff_eq.mpr c4
            have c4b1 : ((rd l0 x4_1) != 10) = false := bne_eq_false_iff_eq.mpr c4
            clear c4
            by_cases c5 : x3_1.length < 17592186044416
            · rw [if_pos c5] at H
              have LMc5 := Aside0.mk c5
              clear c5
              obtain ⟨y302, hy302⟩ : ∃ y_ : List Int, y_ = (x3_1 ++ [x4_1]) := ⟨_, rfl⟩
              replace H : (platenref03_Ends.l0 k1 l0 y302 (wrap64 (x4_1 + 1))) = some r := by first | (rw [hy302]; with_reducible exact H) | (have H2_ := (Option.bind_some _ _).symm.trans H; rw [hy302]; with_reducible exact H2_) | (have H2_ := (Option.bind_some _ _).symm.trans H; with_reducible exact H2_) | with_reducible exact H | (rw [hy302]; exact H) | exact H
              have Ny302 := Aside0.mk hy302
              clear hy302
              have H' := Aside0.mk H
              clear H
              have p301 : 0 ≤ (x4_1 : Int) := of_decide_eq_true (by first | (with_reducible assumption) | assumption)
              have q301 : x4_1 < (l0.length : Int) := of_decide_eq_true (by first | (with_reducible assumption) | assumption)
              obtain ⟨ad301, e301, hx301_0⟩ := Kd.at_int HR0.out x4_1 p301 q301
              cases e301
              replace hx301_0 := (HB.out.cell (World.block_lt_of_cell? w _ hx301_0)).trans hx301_0
              replace p301 := eq_true p301
              replace q301 := eq_true q301
              go_wp2_with (first | ((with_reducible refine gate_builtin (b := .append) (xs := #[.tmp 16, .tmp 18]) rfl ?_); at_builtin; refine Kd.R_append (Kd.int .i64) (w0 := w) w.heap.size rfl (.tmp 16) (.tmp 18) 51 3 (.int .i64 0) 8 rfl Tryd.underlying51 info3 rfl (by decide) (by omega) u3 x3_1 x4_1 [.int .i64 x4_1] (fun _ => True) (fun _ => False) rfl rfl ?aP (fun _ hk => hk.elim) ?aF ?aO ?aB ?aS ?aL ?_; (case aP => exact rfl); (case aB => exact (by repeat (first | (with_reducible first | exact HB.out | apply below_alloc | apply pw_below_drewN | apply below_drew1) | exact HB.out))); (case aF => exact (fun _ _ => trivial)); (case aO => exact (by (with_reducible repeat (first | apply Kd.R_alloc | apply Kd.R_drewN | apply Kd.R_drew)); exact HO_3.out)); (case aS => exact (below_size (by repeat (first | (with_reducible first | exact HB.out | apply below_alloc | apply pw_below_drewN | apply below_drew1) | exact HB.out)))); (case aL => have := LMc5.out; omega); intro v303 w6 ho hb hg hat; rw [← Ny302.out] at ho; have n0_ := Aside0.mk (hb); have n1_ := Aside0.mk (ho); clear HB; clear HO_3; have HB := n0_; have HO304 := n1_; clear n0_ n1_; clear ho hb hg hat))
              go_roundg k1
              case measure => have := HK1.out; omega
              case rel => exact ⟨(y302), (wrap64 (x4_1 + 1)), (by first | rfl | (simp; done) | (simp [*]; done)), H', ⟨by have := HK1.out; omega⟩, ⟨by (with_reducible repeat (first | apply Kd.R_alloc | apply Kd.R_drewN | apply Kd.R_drew)); exact HO304.out⟩, ⟨by repeat (first | (with_reducible first | exact HB.out | apply below_alloc | apply pw_below_drewN | apply below_drew1) | exact HB.out)⟩⟩
            · rw [if_neg c5] at H
              exact absurd H (by simp)
          · rw [if_neg c4] at H
            have c4b0 : ((rd l0 x4_1) == 10) = false := beq_eq_false_iff_ne.mpr c4
            have c4b1 : ((rd l0 x4_1) != 10) = true := bne_iff_ne.mpr c4
            have H' := Aside0.mk H
            clear H
            have p301 : 0 ≤ (x4_1 : Int) := of_decide_eq_true (by first | (with_reducible assumption) | assumption)
            have q301 : x4_1 < (l0.length : Int) := of_decide_eq_true (by first | (with_reducible assumption) | assumption)
            obtain ⟨ad301, e301, hx301_0⟩ := Kd.at_int HR0.out x4_1 p301 q301
            cases e301
            replace hx301_0 := (HB.out.cell (World.block_lt_of_cell? w _ hx301_0)).trans hx301_0
            replace p301 := eq_true p301
            replace q301 := eq_true q301
            go_wp2
            go_roundg k1
            case measure => have := HK1.out; omega
            case rel => exact ⟨(x3_1), (wrap64 (x4_1 + 1)), (by first | rfl | (simp; done) | (simp [*]; done)), H', ⟨by have := HK1.out; omega⟩, ⟨by (with_reducible repeat (first | apply Kd.R_alloc | apply Kd.R_drewN | apply Kd.R_drew)); exact HO_3.out⟩, ⟨by repeat (first | (with_reducible first | exact HB.out | apply below_alloc | apply pw_below_drewN | apply below_drew1) | exact HB.out)⟩⟩
        · rw [if_neg c3] at H
          exact absurd H (by simp)
      · rw [if_neg c2] at H
        have c2b0 : decide (x4_1 < (l0.length : Int)) = false := decide_eq_false c2
        clear c2
        obtain rfl := Option.some.inj H
        go_wp2
        go_ret
        exact ⟨_, by first | rfl | (simp [errW_none, errW_some] <;> rfl) | (simp [*, errW_none, errW_some] <;> rfl), by (with_reducible repeat (first | apply Kd.R_alloc | apply Kd.R_drewN | apply Kd.R_drew)); exact HO_3.out, by repeat (first | (with_reducible first | exact HB.out | apply below_alloc | apply pw_below_drewN | apply below_drew1) | exact HB.out)⟩

/-! ### platenref03_Of: function 13 -/
def platenref03_Of.l0 : Nat → Int → Int → List Int → Int → Option (Int)
  | 0, _, _, _, _ => none
  | k + 1, x1, x5, x6, x7 => if x7 < (x6.length : Int) then (if 0 ≤ x7 then (if (rd x6 x7) < x1 then (platenref03_Of.l0 k x1 (wrap64 (x5 + 1)) x6 (wrap64 (x7 + 1))) else (platenref03_Of.l0 k x1 x5 x6 (wrap64 (x7 + 1)))) else (none)) else (some x5)
def platenref03_Of.f (k : Nat) (l0 : List Int) (a1 : Int) : Option (Int) := (platenref03_Ends.f k l0).bind fun t305 => (platenref03_Of.l0 k a1 0 t305 0)
theorem platenref03_Of.mono_l : ∀ k, (∀ y0 y1 y2 y3, LeO (platenref03_Of.l0 k y0 y1 y2 y3) (platenref03_Of.l0 (k + 1) y0 y1 y2 y3))
  | 0 => fun _ _ _ _ r h => by simp [platenref03_Of.l0] at h
  | k + 1 => by
    have ih0 := platenref03_Of.mono_l k
    · intro y0 y1 y2 y3
      unfold platenref03_Of.l0
      repeat' first
      | (with_reducible exact ih0 _ _ _ _)
      | (with_reducible exact platenref03_Ends.mono _ _)
      | (with_reducible exact LeO.refl _)
      | (with_reducible exact LeO.none _)
      | (with_reducible refine LeO.ite ?_ ?_)
      | (with_reducible refine LeO.bind ?_ (fun _ => ?_))
      | exact ih0 _ _ _ _
      | exact platenref03_Ends.mono _ _
      | exact LeO.none _
      | refine LeO.ite ?_ ?_
      | refine LeO.bind ?_ (fun _ => ?_)
theorem platenref03_Of.mono : ∀ a0 a1 k, LeO (platenref03_Of.f k a0 a1) (platenref03_Of.f (k + 1) a0 a1) := by
  intro a0 a1 k
  have ih0 := platenref03_Of.mono_l k
  unfold platenref03_Of.f
  repeat' first
      | (with_reducible exact ih0 _ _ _ _)
      | (with_reducible exact platenref03_Ends.mono _ _)
      | (with_reducible exact LeO.refl _)
      | (with_reducible exact LeO.none _)
      | (with_reducible refine LeO.ite ?_ ?_)
      | (with_reducible refine LeO.bind ?_ (fun _ => ?_))
      | exact ih0 _ _ _ _
      | exact platenref03_Ends.mono _ _
      | exact LeO.none _
      | refine LeO.ite ?_ ?_
      | refine LeO.bind ?_ (fun _ => ?_)
set_option maxHeartbeats 8000000 in
set_option maxRecDepth 100000 in
theorem platenref03_Of.calls (k : Nat) (A0 : Option Addr) (c0 : Nat) (l0 : List Int) (a1 : Int) (r : Int) (w : World) (hr0 : Kd.C (Kd.int .u8) w A0 l0.length l0) (hc0 : l0.length ≤ c0) (h : platenref03_Of.f k l0 a1 = some r) :
    Calls Tryd.prog 13 #[.slice A0 l0.length c0, .int .i64 a1] w fun e w' => e = .returned (.int .i64 r) ∧ Below w.heap.size w w' := by
  have HR0 := Aside0.mk hr0
  have HC0 := Aside0.mk hc0
  clear hr0 hc0
  have HB := Aside0.mk (Below.refl w.heap.size w)
  have H : ((platenref03_Ends.f k l0).bind fun t305 => (platenref03_Of.l0 k a1 0 t305 0)) = some r := h
  clear h
  replace H := Option.bind_eq_some_iff.mp H
  obtain ⟨t305, A30, H⟩ := H
  replace H : (platenref03_Of.l0 k a1 0 t305 0) = some r := H
  have A3 := Aside0.mk A30
  clear A30
  have H' := Aside0.mk H
  clear H
  go_enter Tryd.func13, Tryd.ntmps13
  go_wp2_with (first | ((with_reducible refine gate_callee (f := 27) rfl ?_); refine goesL_ (some 9) rfl rfl Tryd.func27 (by kernel_rfl) rfl #[.slice A0 l0.length c0] rfl (by (try simp only [List.map_toArray, List.map_cons, List.map_nil]); first | done | rfl | (simp only [List.length_drop, List.length_take]; rfl)) ?_; (with_reducible refine (platenref03_Ends.calls k _ _ l0 t305 _ ?side1 ?side2 A3.out).mono ?_); (case side1 => repeat (first | exact HR0.out | (with_reducible refine Kd.C_alloc ?_ _) | (with_reducible refine Kd.C_drewN ?_ _) | (with_reducible refine Kd.C_drew ?_))); (case side2 => exact HC0.out); rintro e w4 ⟨v306, rfl, ho0, hb⟩; refine ⟨_, rfl, ?_⟩; have n0_ := Aside0.mk (Kd.R_lower ho0 (below_size (by repeat (first | (with_reducible first | exact HB.out | apply below_alloc | apply pw_below_drewN | apply below_drew1) | exact HB.out)))); have n1_ := Aside0.mk (below_step (by repeat (first | (with_reducible first | exact HB.out | apply below_alloc | apply pw_below_drewN | apply below_drew1) | exact HB.out)) hb); clear HB; have HO307 := n0_; have HB := n1_; clear n0_ n1_; (try clear hb); (try clear hb2); (try clear hk); (try clear hi); (try clear ho0)))
  go_loopg [5, 7] k (fun kq v5 v7 w' => ∃ (x5_1 : Int) (x7_1 : Int), v5 = .int .i64 x5_1 ∧ v7 = .int .i64 x7_1 ∧ Aside0 (platenref03_Of.l0 kq a1 x5_1 t305 x7_1 = some r) ∧ Aside0 (kq ≤ k) ∧ Aside0 (Kd.R (Kd.int .i64) 3 w' w.heap.size (fun _ => True) v306 t305) ∧ Aside0 (Below w.heap.size w w'))
  case atStart => exact ⟨(0), (0), (by first | rfl | (simp; done) | (simp [*]; done)), (by first | rfl | (simp; done) | (simp [*]; done)), H', ⟨Nat.le_refl _⟩, ⟨by (with_reducible repeat (first | apply Kd.R_alloc | apply Kd.R_drewN | apply Kd.R_drew)); exact HO307.out⟩, ⟨by repeat (first | (with_reducible first | exact HB.out | apply below_alloc | apply pw_below_drewN | apply below_drew1) | exact HB.out)⟩⟩
  case round =>
    clear H'
    try clear c1
    try clear c2
    try clear p2
    obtain ⟨x5_1, x7_1, rfl, rfl, HA, HK1, HO_6, HB⟩ := hrel
    cases gk with
    | zero => exact absurd HA.out (by simp [platenref03_Of.l0])
    | succ k1 =>
      have H := HA.out
      clear HA
      simp only [platenref03_Of.l0] at H
      by_cases c5 : x7_1 < (t305.length : Int)
      · rw [if_pos c5] at H
        have c5b0 : decide (x7_1 < (t305.length : Int)) = true := decide_eq_true c5
        clear c5
        by_cases c6 : 0 ≤ x7_1
        · rw [if_pos c6] at H
          have c6b0 : decide (0 ≤ x7_1) = true := decide_eq_true c6
          clear c6
          by_cases c7 : (rd t305 x7_1) < a1
          · rw [if_pos c7] at H
            have c7b0 : decide ((rd t305 x7_1) < a1) = true := decide_eq_true c7
            clear c7
            have H' := Aside0.mk H
            clear H
            obtain ⟨Ao8, co8, eo8⟩ := Kd.R_slice HO_6.out
            subst eo8
            have p308 : 0 ≤ (x7_1 : Int) := of_decide_eq_true (by first | (with_reducible assumption) | assumption)
            have q308 : x7_1 < (t305.length : Int) := of_decide_eq_true (by first | (with_reducible assumption) | assumption)
            obtain ⟨ad308, e308, hx308_0⟩ := Kd.at_int (Kd.R_reads' HO_6.out).2.2 x7_1 p308 q308
            cases e308
            replace p308 := eq_true p308
            replace q308 := eq_true q308
            go_wp2
            go_roundg k1
            case measure => have := HK1.out; omega
            case rel => exact ⟨(wrap64 (x5_1 + 1)), (wrap64 (x7_1 + 1)), (by first | rfl | (simp; done) | (simp [*]; done)), (by first | rfl | (simp; done) | (simp [*]; done)), H', ⟨by have := HK1.out; omega⟩, ⟨by (with_reducible repeat (first | apply Kd.R_alloc | apply Kd.R_drewN | apply Kd.R_drew)); exact HO_6.out⟩, ⟨by repeat (first | (with_reducible first | exact HB.out | apply below_alloc | apply pw_below_drewN | apply below_drew1) | exact HB.out)⟩⟩
          · rw [if_neg c7] at H
            have c7b0 : decide ((rd t305 x7_1) < a1) = false := decide_eq_false c7
            clear c7
            have H' := Aside0.mk H
            clear H
            obtain ⟨Ao9, co9, eo9⟩ := Kd.R_slice HO_6.out
            subst eo9
            have p308 : 0 ≤ (x7_1 : Int) := of_decide_eq_true (by first | (with_reducible assumption) | assumption)
            have q308 : x7_1 < (t305.length : Int) := of_decide_eq_true (by first | (with_reducible assumption) | assumption)
            obtain ⟨ad308, e308, hx308_0⟩ := Kd.at_int (Kd.R_reads' HO_6.out).2.2 x7_1 p308 q308
            cases e308
            replace p308 := eq_true p308
            replace q308 := eq_true q308
            go_wp2
            go_roundg k1
            case measure => have := HK1.out; omega
            case rel => exact ⟨(x5_1), (wrap64 (x7_1 + 1)), (by first | rfl | (simp; done) | (simp [*]; done)), (by first | rfl | (simp; done) | (simp [*]; done)), H', ⟨by have := HK1.out; omega⟩, ⟨by (with_reducible repeat (first | apply Kd.R_alloc | apply Kd.R_drewN | apply Kd.R_drew)); exact HO_6.out⟩, ⟨by repeat (first | (with_reducible first | exact HB.out | apply below_alloc | apply pw_below_drewN | apply below_drew1) | exact HB.out)⟩⟩
        · rw [if_neg c6] at H
          exact absurd H (by simp)
      · rw [if_neg c5] at H
        have c5b0 : decide (x7_1 < (t305.length : Int)) = false := decide_eq_false c5
        clear c5
        obtain rfl := Option.some.inj H
        obtain ⟨Ao10, co10, eo10⟩ := Kd.R_slice HO_6.out
        subst eo10
        go_wp2
        go_ret
        exact ⟨by first | rfl | (simp [errW_none, errW_some] <;> rfl) | (simp [*, errW_none, errW_some] <;> rfl), by repeat (first | (with_reducible first | exact HB.out | apply below_alloc | apply pw_below_drewN | apply below_drew1) | exact HB.out)⟩

/-! ### platenref03_Spans: function 14 -/
def platenref03_Spans.l0 : Nat → List Int → List (S39) → Int → List Int → Int → Option ((List (S39)))
  | 0, _, _, _, _, _ => none
  | k + 1, x0, x3, x4, x5, x6 => if x6 < (x5.length : Int) then (if 0 ≤ x6 then (if x3.length < 8796093022208 then (platenref03_Spans.l0 k x0 (x3 ++ [(⟨x4, wrap64 ((rd x5 x6) - x4)⟩ : S39)]) (wrap64 ((rd x5 x6) + 1)) x5 (wrap64 (x6 + 1))) else (none)) else (none)) else (if x3.length < 8796093022208 then (some (x3 ++ [(⟨x4, wrap64 ((x0.length : Int) - x4)⟩ : S39)])) else (none))
def platenref03_Spans.f (k : Nat) (l0 : List Int) : Option ((List (S39))) := (platenref03_Ends.f k l0).bind fun t309 => (platenref03_Spans.l0 k l0 ([] : List (S39)) 0 t309 0)
theorem platenref03_Spans.mono_l : ∀ k, (∀ y0 y1 y2 y3 y4, LeO (platenref03_Spans.l0 k y0 y1 y2 y3 y4) (platenref03_Spans.l0 (k + 1) y0 y1 y2 y3 y4))
  | 0 => fun _ _ _ _ _ r h => by simp [platenref03_Spans.l0] at h
  | k + 1 => by
    have ih0 := platenref03_Spans.mono_l k
    · intro y0 y1 y2 y3 y4
      unfold platenref03_Spans.l0
      repeat' first
      | (with_reducible exact ih0 _ _ _ _ _)
      | (with_reducible exact platenref03_Ends.mono _ _)
      | (with_reducible exact LeO.refl _)
      | (with_reducible exact LeO.none _)
      | (with_reducible refine LeO.ite ?_ ?_)
      | (with_reducible refine LeO.bind ?_ (fun _ => ?_))
      | exact ih0 _ _ _ _ _
      | exact platenref03_Ends.mono _ _
      | exact LeO.none _
      | refine LeO.ite ?_ ?_
      | refine LeO.bind ?_ (fun _ => ?_)
theorem platenref03_Spans.mono : ∀ a0 k, LeO (platenref03_Spans.f k a0) (platenref03_Spans.f (k + 1) a0) := by
  intro a0 k
  have ih0 := platenref03_Spans.mono_l k
  unfold platenref03_Spans.f
  repeat' first
      | (with_reducible exact ih0 _ _ _ _ _)
      | (with_reducible exact platenref03_Ends.mono _ _)
      | (with_reducible exact LeO.refl _)
      | (with_reducible exact LeO.none _)
      | (with_reducible refine LeO.ite ?_ ?_)
      | (with_reducible refine LeO.bind ?_ (fun _ => ?_))
      | exact ih0 _ _ _ _ _
      | exact platenref03_Ends.mono _ _
      | exact LeO.none _
      | refine LeO.ite ?_ ?_
      | refine LeO.bind ?_ (fun _ => ?_)
set_option maxHeartbeats 8000000 in
set_option maxRecDepth 100000 in
theorem platenref03_Spans.calls (k : Nat) (A0 : Option Addr) (c0 : Nat) (l0 : List Int) (r : List (S39)) (w : World) (hr0 : Kd.C (Kd.int .u8) w A0 l0.length l0) (hc0 : l0.length ≤ c0) (h : platenref03_Spans.f k l0 = some r) :
  Calls Tryd.prog 14 #[.slice A0 l0.length c0] w fun e w' => ∃ v0_ : Value, e = .returned (v0_) ∧ Kd.R k39 39 w' w.heap.size (fun _ => True) v0_ r ∧ Below w.heap.size w w' := by
 have hu39 := Tryd.underlying39
 have HR0 := Aside0.mk hr0
 have HC0 := Aside0.mk hc0
 clear hr0 hc0
 have HB := Aside0.mk (Below.refl w.heap.size w)
 have H : ((platenref03_Ends.f k l0).bind fun t309 => (platenref03_Spans.l0 k l0 ([] : List (S39)) 0 t309 0)) = some r := h
 clear h
 replace H := Option.bind_eq_some_iff.mp H
 obtain ⟨t309, A20, H⟩ := H
 replace H : (platenref03_Spans.l0 k l0 ([] : List (S39)) 0 t309 0) = some r := H
 have A2 := Aside0.mk A20
 clear A20
 have H' := Aside0.mk H
 clear H
 go_enter Tryd.func14, Tryd.ntmps14
 go_wp2_with (first | ((with_reducible refine gate_callee (f := 27) rfl ?_); refine goesL_ (some 8) rfl rfl Tryd.func27 (by kernel_rfl) rfl #[.slice A0 l0.length c0] rfl (by (try simp only [List.map_toArray, List.map_cons, List.map_nil]); first | done | rfl | (simp only [List.length_drop, List.length_take]; rfl)) ?_; (with_reducible refine (platenref03_Ends.calls k _ _ l0 t309 _ ?side1 ?side2 A2.out).mono ?_); (case side1 => repeat (first | exact HR0.out | (with_reducible refine Kd.C_alloc ?_ _) | (with_reducible refine Kd.C_drewN ?_ _) | (with_reducible refine Kd.C_drew ?_))); (case side2 => exact HC0.out); rintro e w3 ⟨v310, rfl, ho0, hb⟩; refine ⟨_, rfl, ?_⟩; have n0_ := Aside0.mk (Kd.R_lower ho0 (below_size (by repeat (first | exact HB.out | apply bA | apply bN | apply bD)))); have n1_ := Aside0.mk (below_step (by repeat (first | exact HB.out | apply bA | apply bN | apply bD)) hb); clear HB; have HO311 := n0_; have HB := n1_; clear n0_ n1_; (try clear hb); (try clear hb2); (try clear hk); (try clear hi); (try clear ho0)))
 go_loopg [3, 4, 6] k (fun kq v3 v4 v6 w' => ∃ (x3_1 : List (S39)) (x4_1 : Int) (x6_1 : Int), v4 = .int .i64 x4_1 ∧ v6 = .int .i64 x6_1 ∧ Aside0 (platenref03_Spans.l0 kq l0 x3_1 x4_1 t309 x6_1 = some r) ∧ Aside0 (kq ≤ k) ∧ Aside0 (Kd.R k39 39 w' w.heap.size (fun _ => True) v3 x3_1) ∧ Aside0 (Kd.R (Kd.int .i64) 3 w' w.heap.size (fun _ => True) v310 t309) ∧ Aside0 (Below w.heap.size w w'))
 case atStart => exact ⟨(([] : List (S39))), (0), (0), (by first | rfl | (simp; done) | (simp [*]; done)), (by first | rfl | (simp; done) | (simp [*]; done)), H', ⟨Nat.le_refl _⟩, ⟨by first | exact Kd.R_nil _ _ _ _ _ | exact Kd.N_nil _ _ _ _ _ | exact Kd.V_nil _ _ _ _ _ | exact Kd.Q_nil _ _ _ _ _ | exact Kd.S_nil _ _ _ _ _⟩, ⟨by (with_reducible repeat (first | apply Kd.R_alloc | apply Kd.R_drewN | apply Kd.R_drew)); exact HO311.out⟩, ⟨by repeat (first | exact HB.out | apply bA | apply bN | apply bD)⟩⟩
 case round =>
  clear H'
  try clear c1
  try clear c2
  try clear p2
  obtain ⟨x3_1, x4_1, x6_1, rfl, rfl, HA, HK1, HO_3, HO_5, HB⟩ := hrel
  cases gk with
  | zero => exact absurd HA.out (by simp [platenref03_Spans.l0])
  | succ k1 =>
   have H := HA.out
   clear HA
   simp only [platenref03_Spans.l0] at H
   by_cases c4 : x6_1 < (t309.length : Int)
   ·rw [if_pos c4] at H
    have c4b0 : decide (x6_1 < (t309.length : Int)) = true := decide_eq_true c4
    clear c4
    by_cases c5 : 0 ≤ x6_1
    ·rw [if_pos c5] at H
     have c5b0 : decide (0 ≤ x6_1) = true := decide_eq_true c5
     clear c5
     by_cases c6 : x3_1.length < 8796093022208
     ·rw [if_pos c6] at H
      have LMc6 := Aside0.mk c6
      clear c6
      obtain ⟨y313, hy313⟩ : ∃ y_ : List (S39), y_ = (x3_1 ++ [(⟨x4_1, wrap64 ((rd t309 x6_1) - x4_1)⟩ : S39)]) := ⟨_, rfl⟩
      replace H : (platenref03_Spans.l0 k1 l0 y313 (wrap64 ((rd t309 x6_1) + 1)) t309 (wrap64 (x6_1 + 1))) = some r := by first | (rw [hy313]; with_reducible exact H) | (have H2_ := (Option.bind_some _ _).symm.trans H; rw [hy313]; with_reducible exact H2_) | (have H2_ := (Option.bind_some _ _).symm.trans H; with_reducible exact H2_) | with_reducible exact H | (rw [hy313]; exact H) | exact H
      have Ny313 := Aside0.mk hy313
      clear hy313
      have H' := Aside0.mk H
      clear H
      obtain ⟨Ao7, co7, eo7⟩ := Kd.R_slice HO_5.out
      subst eo7
      have p312 : 0 ≤ (x6_1 : Int) := of_decide_eq_true (by first | (with_reducible assumption) | assumption)
      have q312 : x6_1 < (t309.length : Int) := of_decide_eq_true (by first | (with_reducible assumption) | assumption)
      obtain ⟨ad312, e312, hx312_0⟩ := Kd.at_int (Kd.R_reads' HO_5.out).2.2 x6_1 p312 q312
      cases e312
      replace p312 := eq_true p312
      replace q312 := eq_true q312
      go_wp2_with (first | ((with_reducible refine gate_builtin (b := .append) (xs := #[.tmp 15, .tmp 24]) rfl ?_); at_builtin; refine Kd.R_append k39 (w0 := w) w.heap.size rfl (.tmp 15) (.tmp 24) 36 39 (.agg #[(.int .i64 0), (.int .i64 0)]) 16 rfl Tryd.underlying36 info39 rfl (by decide) (by omega) u3 x3_1 (⟨x4_1, wrap64 ((rd t309 x6_1) - x4_1)⟩ : S39) [.int .i64 x4_1, .int .i64 (wrap64 ((rd t309 x6_1) - x4_1))] (fun _ => True) (fun _ => False) rfl rfl ?aP (fun _ hk => hk.elim) ?aF ?aO ?aB ?aS ?aL ?_; (case aP => exact k39_mkM _ _ _ (⟨x4_1, wrap64 ((rd t309 x6_1) - x4_1)⟩ : S39)); (case aB => exact (by repeat (first | exact HB.out | apply bA | apply bN | apply bD))); (case aF => exact (fun _ _ => trivial)); (case aO => exact (by (with_reducible repeat (first | apply Kd.R_alloc | apply Kd.R_drewN | apply Kd.R_drew)); exact HO_3.out)); (case aS => exact (below_size (by repeat (first | exact HB.out | apply bA | apply bN | apply bD)))); (case aL => have := LMc6.out; omega); intro v314 w8 ho hb hg hat; rw [← Ny313.out] at ho; have n0_ := Aside0.mk (Kd.R_over' (by (with_reducible repeat (first | apply Kd.R_alloc | apply Kd.R_drewN | apply Kd.R_drew)); exact HO_5.out) (Kd.R_typed (by (with_reducible repeat (first | apply Kd.R_alloc | apply Kd.R_drewN | apply Kd.R_drew)); exact HO_3.out)) (by decide) hg); have n1_ := Aside0.mk (hb); have n2_ := Aside0.mk (ho); clear HO_5; clear HB; clear HO_3; have HO_5 := n0_; have HB := n1_; have HO315 := n2_; clear n0_ n1_ n2_; clear ho hb hg hat; have p316 : 0 ≤ (x6_1 : Int) := of_decide_eq_true (by first | (with_reducible assumption) | assumption); have q316 : x6_1 < (t309.length : Int) := of_decide_eq_true (by first | (with_reducible assumption) | assumption); obtain ⟨ad316, e316, hx316_0⟩ := Kd.at_int (Kd.R_reads' HO_5.out).2.2 x6_1 p316 q316; obtain rfl : ad312 = ad316 := (by injection e316); replace p316 := eq_true p316; replace q316 := eq_true q316))
      go_roundg k1
      case measure => have := HK1.out; omega
      case rel => exact ⟨(y313), (wrap64 ((rd t309 x6_1) + 1)), (wrap64 (x6_1 + 1)), (by first | rfl | (simp; done) | (simp [*]; done)), (by first | rfl | (simp; done) | (simp [*]; done)), H', ⟨by have := HK1.out; omega⟩, ⟨by (with_reducible repeat (first | apply Kd.R_alloc | apply Kd.R_drewN | apply Kd.R_drew)); exact HO315.out⟩, ⟨by (with_reducible repeat (first | apply Kd.R_alloc | apply Kd.R_drewN | apply Kd.R_drew)); exact HO_5.out⟩, ⟨by repeat (first | exact HB.out | apply bA | apply bN | apply bD)⟩⟩
     ·rw [if_neg c6] at H
      exact absurd H (by simp)
    ·rw [if_neg c5] at H
     exact absurd H (by simp)
   ·rw [if_neg c4] at H
    have c4b0 : decide (x6_1 < (t309.length : Int)) = false := decide_eq_false c4
    clear c4
    by_cases c9 : x3_1.length < 8796093022208
    ·rw [if_pos c9] at H
     have LMc9 := Aside0.mk c9
     clear c9
     obtain ⟨y317, hy317⟩ : ∃ y_ : List (S39), y_ = (x3_1 ++ [(⟨x4_1, wrap64 ((l0.length : Int) - x4_1)⟩ : S39)]) := ⟨_, rfl⟩
     replace H : (some y317) = some r := by first | (rw [hy317]; with_reducible exact H) | (have H2_ := (Option.bind_some _ _).symm.trans H; rw [hy317]; with_reducible exact H2_) | (have H2_ := (Option.bind_some _ _).symm.trans H; with_reducible exact H2_) | with_reducible exact H | (rw [hy317]; exact H) | exact H
     have Ny317 := Aside0.mk hy317
     clear hy317
     obtain rfl := Option.some.inj H
     obtain ⟨Ao10, co10, eo10⟩ := Kd.R_slice HO_5.out
     subst eo10
     go_wp2_with (first | ((with_reducible refine gate_builtin (b := .append) (xs := #[.tmp 31, .tmp 38]) rfl ?_); at_builtin; refine Kd.R_append k39 (w0 := w) w.heap.size rfl (.tmp 31) (.tmp 38) 36 39 (.agg #[(.int .i64 0), (.int .i64 0)]) 16 rfl Tryd.underlying36 info39 rfl (by decide) (by omega) u3 x3_1 (⟨x4_1, wrap64 ((l0.length : Int) - x4_1)⟩ : S39) [.int .i64 x4_1, .int .i64 (wrap64 ((l0.length : Int) - x4_1))] (fun _ => True) (fun _ => False) rfl rfl ?aP (fun _ hk => hk.elim) ?aF ?aO ?aB ?aS ?aL ?_; (case aP => exact k39_mkM _ _ _ (⟨x4_1, wrap64 ((l0.length : Int) - x4_1)⟩ : S39)); (case aB => exact (by repeat (first | exact HB.out | apply bA | apply bN | apply bD))); (case aF => exact (fun _ _ => trivial)); (case aO => exact (by (with_reducible repeat (first | apply Kd.R_alloc | apply Kd.R_drewN | apply Kd.R_drew)); exact HO_3.out)); (case aS => exact (below_size (by repeat (first | exact HB.out | apply bA | apply bN | apply bD)))); (case aL => have := LMc9.out; omega); intro v318 w11 ho hb hg hat; rw [← Ny317.out] at ho; have n0_ := Aside0.mk (Kd.R_over' (by (with_reducible repeat (first | apply Kd.R_alloc | apply Kd.R_drewN | apply Kd.R_drew)); exact HO_5.out) (Kd.R_typed (by (with_reducible repeat (first | apply Kd.R_alloc | apply Kd.R_drewN | apply Kd.R_drew)); exact HO_3.out)) (by decide) hg); have n1_ := Aside0.mk (hb); have n2_ := Aside0.mk (ho); clear HO_5; clear HB; clear HO_3; have HO_5 := n0_; have HB := n1_; have HO319 := n2_; clear n0_ n1_ n2_; clear ho hb hg hat))
     go_ret
     exact ⟨_, by first | rfl | (simp [errW_none, errW_some] <;> rfl) | (simp [*, errW_none, errW_some] <;> rfl), by (with_reducible repeat (first | apply Kd.R_alloc | apply Kd.R_drewN | apply Kd.R_drew)); exact HO319.out, by repeat (first | exact HB.out | apply bA | apply bN | apply bD)⟩
    ·rw [if_neg c9] at H
     exact absurd H (by simp)

/-! ### platenref01_Step: function 48 -/
def platenref01_Step.f (a0 : Int) (a1 : Int) (a2 : Int) : Option (Int) := if a1 = 9 then (if a2 = 0 then (none) else (some (wrap64 ((wrap64 ((wrap64 (Int.tdiv a0 a2)) + 1)) * a2)))) else (some (wrap64 (a0 + 1)))
set_option maxHeartbeats 8000000 in
set_option maxRecDepth 100000 in
theorem platenref01_Step.calls (a0 : Int) (a1 : Int) (a2 : Int) (r : Int) (w : World) (h : platenref01_Step.f a0 a1 a2 = some r) :
    Calls Tryd.prog 48 #[.int .i64 a0, .int .u8 a1, .int .i64 a2] w fun e w' => e = .returned (.int .i64 r) ∧ Drawn0 w w' := by
  have H : (if a1 = 9 then (if a2 = 0 then (none) else (some (wrap64 ((wrap64 ((wrap64 (Int.tdiv a0 a2)) + 1)) * a2)))) else (some (wrap64 (a0 + 1)))) = some r := h
  clear h
  by_cases c4 : a1 = 9
  · rw [if_pos c4] at H
    have c4b0 : (a1 == 9) = true := beq_iff_eq.mpr c4
    have c4b1 : (a1 != 9) = false := bne_eq_false_iff_eq.mpr c4
    clear c4
    by_cases c5 : a2 = 0
    · rw [if_pos c5] at H
      exact absurd H (by simp)
    · rw [if_neg c5] at H
      have c5b0 : (a2 == 0) = false := beq_eq_false_iff_ne.mpr c5
      have c5b1 : (a2 != 0) = true := bne_iff_ne.mpr c5
      obtain rfl := Option.some.inj H
      go_enter Tryd.func48, Tryd.ntmps48
      go_wp2
      go_ret
      exact ⟨by first | rfl | (simp; done) | (simp [*]; done), by repeat (first | exact Drawn0.refl _ | apply Drawn0.step)⟩
  · rw [if_neg c4] at H
    have c4b0 : (a1 == 9) = false := beq_eq_false_iff_ne.mpr c4
    have c4b1 : (a1 != 9) = true := bne_iff_ne.mpr c4
    obtain rfl := Option.some.inj H
    go_enter Tryd.func48, Tryd.ntmps48
    go_wp2
    go_ret
    exact ⟨by first | rfl | (simp; done) | (simp [*]; done), by repeat (first | exact Drawn0.refl _ | apply Drawn0.step)⟩

end Go.Proofs.YtloafpnniooliaaDoor.Pa
