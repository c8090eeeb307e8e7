-- Laid by a program of this claim's own (wip/tools/mkprint.py, ext.py): walks of the functions that the statements reach.
import Derived.Test.YtloafpnniooliaaDoorPax0
namespace Go.Proofs.YtloafpnniooliaaDoor.Pa
open Go.RowKit Go.Proofs.YtloafpnniooliaaDoor.Ext Go.Proofs.YtloafpnniooliaaDoorW.PrintWords Go.Proofs.YtloafpnniooliaaDoorW.PrintLast Go.Proofs.YtloafpnniooliaaDoorW.PrintMore
attribute [local go_sem] max2_int min2_int max_two min_two max_three min_three max_four min_four   -- for this text's walks alone
set_option linter.unusedVariables false
set_option linter.unusedSimpArgs false

/-! ### platenref01_Size: function 16 -/
mutual
def platenref01_Size.j0 : Nat → List Int → Int → Bool → Option (Int)
  | 0, _, _, _ => none
  | k + 1, x0, x1, x17 => if x17 = true then (some 0) else (if 0 ≤ x1 then (if x1 < (x0.length : Int) then (if (rd x0 x1) ≥ 194 then (platenref01_Size.j1 k x0 x1 (rd x0 x1) 1 128 191 (decide ((rd x0 x1) ≤ 223))) else (platenref01_Size.j1 k x0 x1 (rd x0 x1) 1 128 191 false)) else (none)) else (none))
def platenref01_Size.j3 : Nat → List Int → Int → Int → Int → Int → Int → Option (Int)
  | 0, _, _, _, _, _, _ => none
  | k + 1, x0, x1, x5, x6, x7, x8 => if x5 = 224 then (platenref01_Size.j4 k x0 x1 x6 160 x8) else (if x5 = 237 then (platenref01_Size.j4 k x0 x1 x6 x7 159) else (if x5 = 240 then (platenref01_Size.j4 k x0 x1 x6 144 x8) else (if x5 = 244 then (platenref01_Size.j4 k x0 x1 x6 x7 143) else (platenref01_Size.j4 k x0 x1 x6 x7 x8))))
def platenref01_Size.j4 : Nat → List Int → Int → Int → Int → Int → Option (Int)
  | 0, _, _, _, _, _ => none
  | k + 1, x0, x1, x6, x7, x8 => if x6 = 1 then (platenref01_Size.j5 k x0 x1 x6 true) else (if x6 > (wrap64 ((x0.length : Int) - x1)) then (platenref01_Size.j5 k x0 x1 x6 true) else (if 0 ≤ (wrap64 (x1 + 1)) then (if (wrap64 (x1 + 1)) < (x0.length : Int) then (if (rd x0 (wrap64 (x1 + 1))) < x7 then (platenref01_Size.j5 k x0 x1 x6 true) else (platenref01_Size.j5 k x0 x1 x6 (decide ((rd x0 (wrap64 (x1 + 1))) > x8)))) else (none)) else (none)))
def platenref01_Size.j5 : Nat → List Int → Int → Int → Bool → Option (Int)
  | 0, _, _, _, _ => none
  | k + 1, x0, x1, x6, x79 => if x79 = true then (some 1) else (platenref01_Size.l0 k x0 x1 x6 2)
def platenref01_Size.l0 : Nat → List Int → Int → Int → Int → Option (Int)
  | 0, _, _, _, _ => none
  | k + 1, x0, x1, x6, x9 => if x9 < x6 then (if 0 ≤ (wrap64 (x1 + x9)) then (if (wrap64 (x1 + x9)) < (x0.length : Int) then (if (rd x0 (wrap64 (x1 + x9))) < 128 then (some 1) else (if (rd x0 (wrap64 (x1 + x9))) > 191 then (some 1) else (platenref01_Size.l0 k x0 x1 x6 (wrap64 (x9 + 1))))) else (none)) else (none)) else (some x6)
def platenref01_Size.j1 : Nat → List Int → Int → Int → Int → Int → Int → Bool → Option (Int)
  | 0, _, _, _, _, _, _, _ => none
  | k + 1, x0, x1, x5, x6, x7, x8, x22 => if x22 = true then (platenref01_Size.j3 k x0 x1 x5 2 x7 x8) else (if x5 ≥ 224 then (platenref01_Size.j2 k x0 x1 x5 x6 x7 x8 (decide (x5 ≤ 239))) else (platenref01_Size.j2 k x0 x1 x5 x6 x7 x8 false))
def platenref01_Size.j2 : Nat → List Int → Int → Int → Int → Int → Int → Bool → Option (Int)
  | 0, _, _, _, _, _, _, _ => none
  | k + 1, x0, x1, x5, x6, x7, x8, x29 => if x29 = true then (platenref01_Size.j3 k x0 x1 x5 3 x7 x8) else (if x5 ≥ 240 then (if x5 ≤ 244 then (platenref01_Size.j3 k x0 x1 x5 4 x7 x8) else (platenref01_Size.j3 k x0 x1 x5 x6 x7 x8)) else (platenref01_Size.j3 k x0 x1 x5 x6 x7 x8))
end
def platenref01_Size.f (k : Nat) (l0 : List Int) (a1 : Int) : Option (Int) := if a1 < 0 then (platenref01_Size.j0 k l0 a1 true) else (platenref01_Size.j0 k l0 a1 (decide (a1 ≥ (l0.length : Int))))
theorem platenref01_Size.mono_l : ∀ k, (∀ y0 y1 y2, LeO (platenref01_Size.j0 k y0 y1 y2) (platenref01_Size.j0 (k + 1) y0 y1 y2)) ∧ (∀ y0 y1 y2 y3 y4 y5, LeO (platenref01_Size.j3 k y0 y1 y2 y3 y4 y5) (platenref01_Size.j3 (k + 1) y0 y1 y2 y3 y4 y5)) ∧ (∀ y0 y1 y2 y3 y4, LeO (platenref01_Size.j4 k y0 y1 y2 y3 y4) (platenref01_Size.j4 (k + 1) y0 y1 y2 y3 y4)) ∧ (∀ y0 y1 y2 y3, LeO (platenref01_Size.j5 k y0 y1 y2 y3) (platenref01_Size.j5 (k + 1) y0 y1 y2 y3)) ∧ (∀ y0 y1 y2 y3, LeO (platenref01_Size.l0 k y0 y1 y2 y3) (platenref01_Size.l0 (k + 1) y0 y1 y2 y3)) ∧ (∀ y0 y1 y2 y3 y4 y5 y6, LeO (platenref01_Size.j1 k y0 y1 y2 y3 y4 y5 y6) (platenref01_Size.j1 (k + 1) y0 y1 y2 y3 y4 y5 y6)) ∧ (∀ y0 y1 y2 y3 y4 y5 y6, LeO (platenref01_Size.j2 k y0 y1 y2 y3 y4 y5 y6) (platenref01_Size.j2 (k + 1) y0 y1 y2 y3 y4 y5 y6))
  | 0 => ⟨fun _ _ _ r h => by simp [platenref01_Size.j0] at h, fun _ _ _ _ _ _ r h => by simp [platenref01_Size.j3] at h, fun _ _ _ _ _ r h => by simp [platenref01_Size.j4] at h, fun _ _ _ _ r h => by simp [platenref01_Size.j5] at h, fun _ _ _ _ r h => by simp [platenref01_Size.l0] at h, fun _ _ _ _ _ _ _ r h => by simp [platenref01_Size.j1] at h, fun _ _ _ _ _ _ _ r h => by simp [platenref01_Size.j2] at h⟩
  | k + 1 => by
    obtain ⟨ih0, ih1, ih2, ih3, ih4, ih5, ih6⟩ := platenref01_Size.mono_l k
    refine ⟨?_, ?_, ?_, ?_, ?_, ?_, ?_⟩
    · intro y0 y1 y2
      unfold platenref01_Size.j0
      repeat' first
      | (with_reducible exact ih0 _ _ _)
      | (with_reducible exact ih1 _ _ _ _ _ _)
      | (with_reducible exact ih2 _ _ _ _ _)
      | (with_reducible exact ih3 _ _ _ _)
      | (with_reducible exact ih4 _ _ _ _)
      | (with_reducible exact ih5 _ _ _ _ _ _ _)
      | (with_reducible exact ih6 _ _ _ _ _ _ _)
      | (with_reducible exact LeO.refl _)
      | (with_reducible exact LeO.none _)
      | (with_reducible refine LeO.ite ?_ ?_)
      | (with_reducible refine LeO.bind ?_ (fun _ => ?_))
      | exact ih0 _ _ _
      | exact ih1 _ _ _ _ _ _
      | exact ih2 _ _ _ _ _
      | exact ih3 _ _ _ _
      | exact ih4 _ _ _ _
      | exact ih5 _ _ _ _ _ _ _
      | exact ih6 _ _ _ _ _ _ _
      | exact LeO.none _
      | refine LeO.ite ?_ ?_
      | refine LeO.bind ?_ (fun _ => ?_)
    · intro y0 y1 y2 y3 y4 y5
      unfold platenref01_Size.j3
      repeat' first
      | (with_reducible exact ih0 _ _ _)
      | (with_reducible exact ih1 _ _ _ _ _ _)
      | (with_reducible exact ih2 _ _ _ _ _)
      | (with_reducible exact ih3 _ _ _ _)
      | (with_reducible exact ih4 _ _ _ _)
      | (with_reducible exact ih5 _ _ _ _ _ _ _)
      | (with_reducible exact ih6 _ _ _ _ _ _ _)
      | (with_reducible exact LeO.refl _)
      | (with_reducible exact LeO.none _)
      | (with_reducible refine LeO.ite ?_ ?_)
      | (with_reducible refine LeO.bind ?_ (fun _ => ?_))
      | exact ih0 _ _ _
      | exact ih1 _ _ _ _ _ _
      | exact ih2 _ _ _ _ _
      | exact ih3 _ _ _ _
      | exact ih4 _ _ _ _
      | exact ih5 _ _ _ _ _ _ _
      | exact ih6 _ _ _ _ _ _ _
      | exact LeO.none _
      | refine LeO.ite ?_ ?_
      | refine LeO.bind ?_ (fun _ => ?_)
    · intro y0 y1 y2 y3 y4
      unfold platenref01_Size.j4
      repeat' first
      | (with_reducible exact ih0 _ _ _)
      | (with_reducible exact ih1 _ _ _ _ _ _)
      | (with_reducible exact ih2 _ _ _ _ _)
      | (with_reducible exact ih3 _ _ _ _)
      | (with_reducible exact ih4 _ _ _ _)
      | (with_reducible exact ih5 _ _ _ _ _ _ _)
      | (with_reducible exact ih6 _ _ _ _ _ _ _)
      | (with_reducible exact LeO.refl _)
      | (with_reducible exact LeO.none _)
      | (with_reducible refine LeO.ite ?_ ?_)
      | (with_reducible refine LeO.bind ?_ (fun _ => ?_))
      | exact ih0 _ _ _
      | exact ih1 _ _ _ _ _ _
      | exact ih2 _ _ _ _ _
      | exact ih3 _ _ _ _
      | exact ih4 _ _ _ _
      | exact ih5 _ _ _ _ _ _ _
      | exact ih6 _ _ _ _ _ _ _
      | exact LeO.none _
      | refine LeO.ite ?_ ?_
      | refine LeO.bind ?_ (fun _ => ?_)
    · intro y0 y1 y2 y3
      unfold platenref01_Size.j5
      repeat' first
      | (with_reducible exact ih0 _ _ _)
      | (with_reducible exact ih1 _ _ _ _ _ _)
      | (with_reducible exact ih2 _ _ _ _ _)
      | (with_reducible exact ih3 _ _ _ _)
      | (with_reducible exact ih4 _ _ _ _)
      | (with_reducible exact ih5 _ _ _ _ _ _ _)
      | (with_reducible exact ih6 _ _ _ _ _ _ _)
      | (with_reducible exact LeO.refl _)
      | (with_reducible exact LeO.none _)
      | (with_reducible refine LeO.ite ?_ ?_)
      | (with_reducible refine LeO.bind ?_ (fun _ => ?_))
      | exact ih0 _ _ _
      | exact ih1 _ _ _ _ _ _
      | exact ih2 _ _ _ _ _
      | exact ih3 _ _ _ _
      | exact ih4 _ _ _ _
      | exact ih5 _ _ _ _ _ _ _
      | exact ih6 _ _ _ _ _ _ _
      | exact LeO.none _
      | refine LeO.ite ?_ ?_
      | refine LeO.bind ?_ (fun _ => ?_)
    · intro y0 y1 y2 y3
      unfold platenref01_Size.l0
      repeat' first
      | (with_reducible exact ih0 _ _ _)
      | (with_reducible exact ih1 _ _ _ _ _ _)
      | (with_reducible exact ih2 _ _ _ _ _)
      | (with_reducible exact ih3 _ _ _ _)
      | (with_reducible exact ih4 _ _ _ _)
      | (with_reducible exact ih5 _ _ _ _ _ _ _)
      | (with_reducible exact ih6 _ _ _ _ _ _ _)
      | (with_reducible exact LeO.refl _)
      | (with_reducible exact LeO.none _)
      | (with_reducible refine LeO.ite ?_ ?_)
      | (with_reducible refine LeO.bind ?_ (fun _ => ?_))
      | exact ih0 _ _ _
      | exact ih1 _ _ _ _ _ _
      | exact ih2 _ _ _ _ _
      | exact ih3 _ _ _ _
      | exact ih4 _ _ _ _
      | exact ih5 _ _ _ _ _ _ _
      | exact ih6 _ _ _ _ _ _ _
      | exact LeO.none _
      | refine LeO.ite ?_ ?_
      | refine LeO.bind ?_ (fun _ => ?_)
    · intro y0 y1 y2 y3 y4 y5 y6
      unfold platenref01_Size.j1
      repeat' first
      | (with_reducible exact ih0 _ _ _)
      | (with_reducible exact ih1 _ _ _ _ _ _)
      | (with_reducible exact ih2 _ _ _ _ _)
      | (with_reducible exact ih3 _ _ _ _)
      | (with_reducible exact ih4 _ _ _ _)
      | (with_reducible exact ih5 _ _ _ _ _ _ _)
      | (with_reducible exact ih6 _ _ _ _ _ _ _)
      | (with_reducible exact LeO.refl _)
      | (with_reducible exact LeO.none _)
      | (with_reducible refine LeO.ite ?_ ?_)
      | (with_reducible refine LeO.bind ?_ (fun _ => ?_))
      | exact ih0 _ _ _
      | exact ih1 _ _ _ _ _ _
      | exact ih2 _ _ _ _ _
      | exact ih3 _ _ _ _
      | exact ih4 _ _ _ _
      | exact ih5 _ _ _ _ _ _ _
      | exact ih6 _ _ _ _ _ _ _
      | exact LeO.none _
      | refine LeO.ite ?_ ?_
      | refine LeO.bind ?_ (fun _ => ?_)
    · intro y0 y1 y2 y3 y4 y5 y6
      unfold platenref01_Size.j2
      repeat' first
      | (with_reducible exact ih0 _ _ _)
      | (with_reducible exact ih1 _ _ _ _ _ _)
      | (with_reducible exact ih2 _ _ _ _ _)
      | (with_reducible exact ih3 _ _ _ _)
      | (with_reducible exact ih4 _ _ _ _)
      | (with_reducible exact ih5 _ _ _ _ _ _ _)
      | (with_reducible exact ih6 _ _ _ _ _ _ _)
      | (with_reducible exact LeO.refl _)
      | (with_reducible exact LeO.none _)
      | (with_reducible refine LeO.ite ?_ ?_)
      | (with_reducible refine LeO.bind ?_ (fun _ => ?_))
      | exact ih0 _ _ _
      | exact ih1 _ _ _ _ _ _
      | exact ih2 _ _ _ _ _
      | exact ih3 _ _ _ _
      | exact ih4 _ _ _ _
      | exact ih5 _ _ _ _ _ _ _
      | exact ih6 _ _ _ _ _ _ _
      | exact LeO.none _
      | refine LeO.ite ?_ ?_
      | refine LeO.bind ?_ (fun _ => ?_)
theorem platenref01_Size.mono : ∀ a0 a1 k, LeO (platenref01_Size.f k a0 a1) (platenref01_Size.f (k + 1) a0 a1) := by
  intro a0 a1 k
  obtain ⟨ih0, ih1, ih2, ih3, ih4, ih5, ih6⟩ := platenref01_Size.mono_l k
  unfold platenref01_Size.f
  repeat' first
      | (with_reducible exact ih0 _ _ _)
      | (with_reducible exact ih1 _ _ _ _ _ _)
      | (with_reducible exact ih2 _ _ _ _ _)
      | (with_reducible exact ih3 _ _ _ _)
      | (with_reducible exact ih4 _ _ _ _)
      | (with_reducible exact ih5 _ _ _ _ _ _ _)
      | (with_reducible exact ih6 _ _ _ _ _ _ _)
      | (with_reducible exact LeO.refl _)
      | (with_reducible exact LeO.none _)
      | (with_reducible refine LeO.ite ?_ ?_)
      | (with_reducible refine LeO.bind ?_ (fun _ => ?_))
      | exact ih0 _ _ _
      | exact ih1 _ _ _ _ _ _
      | exact ih2 _ _ _ _ _
      | exact ih3 _ _ _ _
      | exact ih4 _ _ _ _
      | exact ih5 _ _ _ _ _ _ _
      | exact ih6 _ _ _ _ _ _ _
      | exact LeO.none _
      | refine LeO.ite ?_ ?_
      | refine LeO.bind ?_ (fun _ => ?_)
set_option maxHeartbeats 8000000 in
set_option maxRecDepth 100000 in
theorem platenref01_Size.calls (k : Nat) (A0 : Option Addr) (c0 : Nat) (l0 : List Int) (a1 : Int) (r : Int) (w : World) (hr0 : Kd.C (Kd.int .u8) w A0 l0.length l0) (hc0 : l0.length ≤ c0) (h : platenref01_Size.f k l0 a1 = some r) :
  Calls Tryd.prog 16 #[.slice A0 l0.length c0, .int .i64 a1] w fun e w' => e = .returned (.int .i64 r) ∧ Drawn0 w w' := by
 have HR0 := Aside0.mk hr0
 have HC0 := Aside0.mk hc0
 clear hr0 hc0
 have H : (if a1 < 0 then (platenref01_Size.j0 k l0 a1 true) else (platenref01_Size.j0 k l0 a1 (decide (a1 ≥ (l0.length : Int))))) = some r := h
 clear h
 have HC3 := Aside0.mk H
 clear H
 go_enter Tryd.func16, Tryd.ntmps16
 go_upto_region 1 with (fail)
 go_cut [17] (fun v17 wc => ∃ (kq : Nat) (x17_2 : Bool), v17 = .bool x17_2 ∧ Aside0 (platenref01_Size.j0 kq l0 a1 x17_2 = some r) ∧ Aside0 (kq ≤ k) ∧ Drawn0 w wc)
 case first =>
  have H := HC3.out
  clear HC3
  by_cases c4 : a1 < 0
  ·rw [if_pos c4] at H
   have c4b0 : decide (a1 < 0) = true := decide_eq_true c4
   clear c4
   (first | rw [c4b0] | (simp only [i64_w, i32_w]; rw [c4b0]) | skip)
   have H' := Aside0.mk H
   clear H
   go_wp2
   go_meet
   case rel => exact ⟨_, (true), (by first | rfl | (simp; done) | (simp [*]; done)), H', ⟨by first | omega | exact Nat.le_refl _⟩, by repeat (first | exact Drawn0.refl _ | apply Drawn0.step)⟩
  ·rw [if_neg c4] at H
   have c4b0 : decide (a1 < 0) = false := decide_eq_false c4
   clear c4
   (first | rw [c4b0] | (simp only [i64_w, i32_w]; rw [c4b0]) | skip)
   have H' := Aside0.mk H
   clear H
   go_wp2
   go_meet
   case rel => exact ⟨_, (decide (a1 ≥ (l0.length : Int))), (by first | rfl | (simp; done) | (simp [*]; done)), H', ⟨by first | omega | exact Nat.le_refl _⟩, by repeat (first | exact Drawn0.refl _ | apply Drawn0.step)⟩
 case rest =>
  clear HC3
  try clear c1
  try clear p2
  try clear c4
  try clear c4b0
  obtain ⟨kq, x17_2, rfl, HA, HJ2, ⟨mc2, rfl⟩⟩ := hcut
  cases kq with
  | zero => exact absurd HA.out (by simp [platenref01_Size.j0])
  | succ kj2 =>
   have H := HA.out
   clear HA
   simp only [platenref01_Size.j0] at H
   by_cases c5 : x17_2 = true
   ·subst c5
    have H1 : (some 0) = some r := by rw [if_pos rfl] at H; exact H
    clear H
    have H := H1
    clear H1
    obtain rfl := Option.some.inj H
    go_wp2
    go_ret
    exact ⟨by first | rfl | (simp; done) | (simp [*]; done), by repeat (first | exact Drawn0.refl _ | apply Drawn0.step)⟩
   ·replace c5 := Bool.eq_false_iff.mpr c5
    subst c5
    have H1 : (if 0 ≤ a1 then (if a1 < (l0.length : Int) then (if (rd l0 a1) ≥ 194 then (platenref01_Size.j1 kj2 l0 a1 (rd l0 a1) 1 128 191 (decide ((rd l0 a1) ≤ 223))) else (platenref01_Size.j1 kj2 l0 a1 (rd l0 a1) 1 128 191 false)) else (none)) else (none)) = some r := by rw [if_neg (show ¬ (false = true) by decide)] at H; exact H
    clear H
    have H := H1
    clear H1
    by_cases c6 : 0 ≤ a1
    ·rw [if_pos c6] at H
     have c6b0 : decide (0 ≤ a1) = true := decide_eq_true c6
     clear c6
     by_cases c7 : a1 < (l0.length : Int)
     ·rw [if_pos c7] at H
      have c7b0 : decide (a1 < (l0.length : Int)) = true := decide_eq_true c7
      clear c7
      have HC8 := Aside0.mk H
      clear H
      have p281 : 0 ≤ (a1 : Int) := of_decide_eq_true (by first | (with_reducible assumption) | assumption)
      have q281 : a1 < (l0.length : Int) := of_decide_eq_true (by first | (with_reducible assumption) | assumption)
      obtain ⟨ad281, e281, hx281_0⟩ := Kd.at_int HR0.out a1 p281 q281
      cases e281
      replace p281 := eq_true p281
      replace q281 := eq_true q281
      go_upto_block 0 with (fail)
      go_cut [6] (fun v6 wc => ∃ (kq : Nat) (x6_7 : Int), v6 = .int .i64 x6_7 ∧ Aside0 (platenref01_Size.j3 kq l0 a1 (rd l0 a1) x6_7 128 191 = some r) ∧ Aside0 (kq ≤ kj2) ∧ Drawn0 w wc)
      case first =>
       have H := HC8.out
       clear HC8
       have HC9 := Aside0.mk H
       clear H
       go_upto_region 6 with (fail)
       go_cut [22] (fun v22 wc => ∃ (kq : Nat) (x22_8 : Bool), v22 = .bool x22_8 ∧ Aside0 (platenref01_Size.j1 kq l0 a1 (rd l0 a1) 1 128 191 x22_8 = some r) ∧ Aside0 (kq ≤ kj2) ∧ Drawn0 w wc)
       case first =>
        have H := HC9.out
        clear HC9
        by_cases c10 : (rd l0 a1) ≥ 194
        ·rw [if_pos c10] at H
         have c10b0 : decide (194 ≤ (rd l0 a1)) = true := decide_eq_true c10
         clear c10
         (first | rw [c10b0] | (simp only [i64_w, i32_w]; rw [c10b0]) | skip)
         have H' := Aside0.mk H
         clear H
         go_wp2
         go_meet
         case rel => exact ⟨_, (decide ((rd l0 a1) ≤ 223)), (by first | rfl | (simp; done) | (simp [*]; done)), H', ⟨by have := HJ2.out; first | omega | exact Nat.le_refl _⟩, by repeat (first | exact Drawn0.refl _ | apply Drawn0.step)⟩
        ·rw [if_neg c10] at H
         have c10b0 : decide (194 ≤ (rd l0 a1)) = false := decide_eq_false c10
         clear c10
         (first | rw [c10b0] | (simp only [i64_w, i32_w]; rw [c10b0]) | skip)
         have H' := Aside0.mk H
         clear H
         go_wp2
         go_meet
         case rel => exact ⟨_, (false), (by first | rfl | (simp; done) | (simp [*]; done)), H', ⟨by have := HJ2.out; first | omega | exact Nat.le_refl _⟩, by repeat (first | exact Drawn0.refl _ | apply Drawn0.step)⟩
       case rest =>
        clear HC9
        try clear c1
        try clear c2
        try clear p2
        try clear q2
        try clear hx2
        try clear c4
        try clear c4b0
        try clear c5
        try clear c6
        try clear c6b0
        try clear c7
        try clear c7b0
        try clear c10
        try clear c10b0
        try clear hx281_0
        try clear p2
        try clear p281
        try clear q281
        obtain ⟨kq, x22_8, rfl, HA, HJ8, ⟨mc8, rfl⟩⟩ := hcut
        cases kq with
        | zero => exact absurd HA.out (by simp [platenref01_Size.j1])
        | succ kj8 =>
         have H := HA.out
         clear HA
         simp only [platenref01_Size.j1] at H
         by_cases c11 : x22_8 = true
         ·subst c11
          have H1 : (platenref01_Size.j3 kj8 l0 a1 (rd l0 a1) 2 128 191) = some r := by rw [if_pos rfl] at H; exact H
          clear H
          have H := H1
          clear H1
          have H' := Aside0.mk H
          clear H
          go_wp2
          go_meet
          case rel => exact ⟨_, (2), (by first | rfl | (simp; done) | (simp [*]; done)), H', ⟨by have := HJ2.out; have := HJ8.out; first | omega | exact Nat.le_refl _⟩, by repeat (first | exact Drawn0.refl _ | apply Drawn0.step)⟩
         ·replace c11 := Bool.eq_false_iff.mpr c11
          subst c11
          have H1 : (if (rd l0 a1) ≥ 224 then (platenref01_Size.j2 kj8 l0 a1 (rd l0 a1) 1 128 191 (decide ((rd l0 a1) ≤ 239))) else (platenref01_Size.j2 kj8 l0 a1 (rd l0 a1) 1 128 191 false)) = some r := by rw [if_neg (show ¬ (false = true) by decide)] at H; exact H
          clear H
          have H := H1
          clear H1
          have HC12 := Aside0.mk H
          clear H
          go_upto_region 8 with (fail)
          go_cut [29] (fun v29 wc => ∃ (kq : Nat) (x29_11 : Bool), v29 = .bool x29_11 ∧ Aside0 (platenref01_Size.j2 kq l0 a1 (rd l0 a1) 1 128 191 x29_11 = some r) ∧ Aside0 (kq ≤ kj8) ∧ Drawn0 w wc)
          case first =>
           have H := HC12.out
           clear HC12
           by_cases c13 : (rd l0 a1) ≥ 224
           ·rw [if_pos c13] at H
            have c13b0 : decide (224 ≤ (rd l0 a1)) = true := decide_eq_true c13
            clear c13
            (first | rw [c13b0] | (simp only [i64_w, i32_w]; rw [c13b0]) | skip)
            have H' := Aside0.mk H
            clear H
            go_wp2
            go_meet
            case rel => exact ⟨_, (decide ((rd l0 a1) ≤ 239)), (by first | rfl | (simp; done) | (simp [*]; done)), H', ⟨by have := HJ2.out; have := HJ8.out; first | omega | exact Nat.le_refl _⟩, by repeat (first | exact Drawn0.refl _ | apply Drawn0.step)⟩
           ·rw [if_neg c13] at H
            have c13b0 : decide (224 ≤ (rd l0 a1)) = false := decide_eq_false c13
            clear c13
            (first | rw [c13b0] | (simp only [i64_w, i32_w]; rw [c13b0]) | skip)
            have H' := Aside0.mk H
            clear H
            go_wp2
            go_meet
            case rel => exact ⟨_, (false), (by first | rfl | (simp; done) | (simp [*]; done)), H', ⟨by have := HJ2.out; have := HJ8.out; first | omega | exact Nat.le_refl _⟩, by repeat (first | exact Drawn0.refl _ | apply Drawn0.step)⟩
          case rest =>
           clear HC12
           try clear c1
           try clear c2
           try clear p2
           try clear q2
           try clear hx2
           try clear c4
           try clear c4b0
           try clear c5
           try clear c6
           try clear c6b0
           try clear c7
           try clear c7b0
           try clear c8
           try clear c10
           try clear c10b0
           try clear c11
           try clear c13
           try clear c13b0
           try clear hx281_0
           try clear p2
           try clear p281
           try clear q2
           try clear q281
           obtain ⟨kq, x29_11, rfl, HA, HJ11, ⟨mc11, rfl⟩⟩ := hcut
           cases kq with
           | zero => exact absurd HA.out (by simp [platenref01_Size.j2])
           | succ kj11 =>
            have H := HA.out
            clear HA
            simp only [platenref01_Size.j2] at H
            by_cases c14 : x29_11 = true
            ·subst c14
             have H1 : (platenref01_Size.j3 kj11 l0 a1 (rd l0 a1) 3 128 191) = some r := by rw [if_pos rfl] at H; exact H
             clear H
             have H := H1
             clear H1
             have H' := Aside0.mk H
             clear H
             go_wp2
             go_meet
             case rel => exact ⟨_, (3), (by first | rfl | (simp; done) | (simp [*]; done)), H', ⟨by have := HJ2.out; have := HJ8.out; have := HJ11.out; first | omega | exact Nat.le_refl _⟩, by repeat (first | exact Drawn0.refl _ | apply Drawn0.step)⟩
            ·replace c14 := Bool.eq_false_iff.mpr c14
             subst c14
             have H1 : (if (rd l0 a1) ≥ 240 then (if (rd l0 a1) ≤ 244 then (platenref01_Size.j3 kj11 l0 a1 (rd l0 a1) 4 128 191) else (platenref01_Size.j3 kj11 l0 a1 (rd l0 a1) 1 128 191)) else (platenref01_Size.j3 kj11 l0 a1 (rd l0 a1) 1 128 191)) = some r := by rw [if_neg (show ¬ (false = true) by decide)] at H; exact H
             clear H
             have H := H1
             clear H1
             by_cases c15 : (rd l0 a1) ≥ 240
             ·rw [if_pos c15] at H
              have c15b0 : decide (240 ≤ (rd l0 a1)) = true := decide_eq_true c15
              clear c15
              by_cases c16 : (rd l0 a1) ≤ 244
              ·rw [if_pos c16] at H
               have c16b0 : decide ((rd l0 a1) ≤ 244) = true := decide_eq_true c16
               clear c16
               have H' := Aside0.mk H
               clear H
               go_wp2
               go_meet
               case rel => exact ⟨_, (4), (by first | rfl | (simp; done) | (simp [*]; done)), H', ⟨by have := HJ2.out; have := HJ8.out; have := HJ11.out; first | omega | exact Nat.le_refl _⟩, by repeat (first | exact Drawn0.refl _ | apply Drawn0.step)⟩
              ·rw [if_neg c16] at H
               have c16b0 : decide ((rd l0 a1) ≤ 244) = false := decide_eq_false c16
               clear c16
               have H' := Aside0.mk H
               clear H
               go_wp2
               go_meet
               case rel => exact ⟨_, (1), (by first | rfl | (simp; done) | (simp [*]; done)), H', ⟨by have := HJ2.out; have := HJ8.out; have := HJ11.out; first | omega | exact Nat.le_refl _⟩, by repeat (first | exact Drawn0.refl _ | apply Drawn0.step)⟩
             ·rw [if_neg c15] at H
              have c15b0 : decide (240 ≤ (rd l0 a1)) = false := decide_eq_false c15
              clear c15
              have H' := Aside0.mk H
              clear H
              go_wp2
              go_meet
              case rel => exact ⟨_, (1), (by first | rfl | (simp; done) | (simp [*]; done)), H', ⟨by have := HJ2.out; have := HJ8.out; have := HJ11.out; first | omega | exact Nat.le_refl _⟩, by repeat (first | exact Drawn0.refl _ | apply Drawn0.step)⟩
      case rest =>
       clear HC8
       try clear c1
       try clear c2
       try clear p2
       try clear q2
       try clear hx2
       try clear c4
       try clear c4b0
       try clear c5
       try clear c6
       try clear c6b0
       try clear c7
       try clear c7b0
       try clear c8
       try clear c10
       try clear c10b0
       try clear c11
       try clear c13
       try clear c13b0
       try clear c14
       try clear c15
       try clear c15b0
       try clear c16
       try clear c16b0
       try clear hx281_0
       try clear p2
       try clear p281
       try clear q2
       try clear q281
       obtain ⟨kq, x6_7, rfl, HA, HJ7, ⟨mc7, rfl⟩⟩ := hcut
       cases kq with
       | zero => exact absurd HA.out (by simp [platenref01_Size.j3])
       | succ kj7 =>
        have H := HA.out
        clear HA
        simp only [platenref01_Size.j3] at H
        have HC17 := Aside0.mk H
        clear H
        go_upto_block 1 with (fail)
        go_cut [7, 8] (fun v7 v8 wc => ∃ (kq : Nat) (x7_16 : Int) (x8_16 : Int), v7 = .int .u8 x7_16 ∧ v8 = .int .u8 x8_16 ∧ Aside0 (platenref01_Size.j4 kq l0 a1 x6_7 x7_16 x8_16 = some r) ∧ Aside0 (kq ≤ kj7) ∧ Drawn0 w wc)
        case first =>
         have H := HC17.out
         clear HC17
         by_cases c18 : (rd l0 a1) = 224
         ·rw [if_pos c18] at H
          have c18b0 : ((rd l0 a1) == 224) = true := beq_iff_eq.mpr c18
          have c18b1 : ((rd l0 a1) != 224) = false := bne_eq_false_iff_eq.mpr c18
          clear c18
          (first | rw [c18b0] | (simp only [i64_w, i32_w]; rw [c18b0]) | skip)
          have H' := Aside0.mk H
          clear H
          go_wp2
          go_meet
          case rel => exact ⟨_, (160), (191), (by first | rfl | (simp; done) | (simp [*]; done)), (by first | rfl | (simp; done) | (simp [*]; done)), H', ⟨by have := HJ2.out; have := HJ7.out; first | omega | exact Nat.le_refl _⟩, by repeat (first | exact Drawn0.refl _ | apply Drawn0.step)⟩
         ·rw [if_neg c18] at H
          have c18b0 : ((rd l0 a1) == 224) = false := beq_eq_false_iff_ne.mpr c18
          have c18b1 : ((rd l0 a1) != 224) = true := bne_iff_ne.mpr c18
          (first | rw [c18b0] | (simp only [i64_w, i32_w]; rw [c18b0]) | skip)
          by_cases c19 : (rd l0 a1) = 237
          ·rw [if_pos c19] at H
           have c19b0 : ((rd l0 a1) == 237) = true := beq_iff_eq.mpr c19
           have c19b1 : ((rd l0 a1) != 237) = false := bne_eq_false_iff_eq.mpr c19
           clear c19
           have H' := Aside0.mk H
           clear H
           go_wp2
           go_meet
           case rel => exact ⟨_, (128), (159), (by first | rfl | (simp; done) | (simp [*]; done)), (by first | rfl | (simp; done) | (simp [*]; done)), H', ⟨by have := HJ2.out; have := HJ7.out; first | omega | exact Nat.le_refl _⟩, by repeat (first | exact Drawn0.refl _ | apply Drawn0.step)⟩
          ·rw [if_neg c19] at H
           have c19b0 : ((rd l0 a1) == 237) = false := beq_eq_false_iff_ne.mpr c19
           have c19b1 : ((rd l0 a1) != 237) = true := bne_iff_ne.mpr c19
           by_cases c20 : (rd l0 a1) = 240
           ·rw [if_pos c20] at H
            have c20b0 : ((rd l0 a1) == 240) = true := beq_iff_eq.mpr c20
            have c20b1 : ((rd l0 a1) != 240) = false := bne_eq_false_iff_eq.mpr c20
            clear c20
            have H' := Aside0.mk H
            clear H
            go_wp2
            go_meet
            case rel => exact ⟨_, (144), (191), (by first | rfl | (simp; done) | (simp [*]; done)), (by first | rfl | (simp; done) | (simp [*]; done)), H', ⟨by have := HJ2.out; have := HJ7.out; first | omega | exact Nat.le_refl _⟩, by repeat (first | exact Drawn0.refl _ | apply Drawn0.step)⟩
           ·rw [if_neg c20] at H
            have c20b0 : ((rd l0 a1) == 240) = false := beq_eq_false_iff_ne.mpr c20
            have c20b1 : ((rd l0 a1) != 240) = true := bne_iff_ne.mpr c20
            by_cases c21 : (rd l0 a1) = 244
            ·rw [if_pos c21] at H
             have c21b0 : ((rd l0 a1) == 244) = true := beq_iff_eq.mpr c21
             have c21b1 : ((rd l0 a1) != 244) = false := bne_eq_false_iff_eq.mpr c21
             clear c21
             have H' := Aside0.mk H
             clear H
             go_wp2
             go_meet
             case rel => exact ⟨_, (128), (143), (by first | rfl | (simp; done) | (simp [*]; done)), (by first | rfl | (simp; done) | (simp [*]; done)), H', ⟨by have := HJ2.out; have := HJ7.out; first | omega | exact Nat.le_refl _⟩, by repeat (first | exact Drawn0.refl _ | apply Drawn0.step)⟩
            ·rw [if_neg c21] at H
             have c21b0 : ((rd l0 a1) == 244) = false := beq_eq_false_iff_ne.mpr c21
             have c21b1 : ((rd l0 a1) != 244) = true := bne_iff_ne.mpr c21
             have H' := Aside0.mk H
             clear H
             go_wp2
             go_meet
             case rel => exact ⟨_, (128), (191), (by first | rfl | (simp; done) | (simp [*]; done)), (by first | rfl | (simp; done) | (simp [*]; done)), H', ⟨by have := HJ2.out; have := HJ7.out; first | omega | exact Nat.le_refl _⟩, by repeat (first | exact Drawn0.refl _ | apply Drawn0.step)⟩
        case rest =>
         clear HC17
         try clear c1
         try clear c2
         try clear p2
         try clear q2
         try clear hx2
         try clear c4
         try clear c4b0
         try clear c5
         try clear c6
         try clear c6b0
         try clear c7
         try clear c7b0
         try clear c8
         try clear c10
         try clear c10b0
         try clear c11
         try clear c13
         try clear c13b0
         try clear c14
         try clear c15
         try clear c15b0
         try clear c16
         try clear c16b0
         try clear c18
         try clear c18b0
         try clear c18b1
         try clear c19
         try clear c19b0
         try clear c19b1
         try clear c20
         try clear c20b0
         try clear c20b1
         try clear c21
         try clear c21b0
         try clear c21b1
         try clear hx281_0
         try clear p2
         try clear p281
         try clear q2
         try clear q281
         obtain ⟨kq, x7_16, x8_16, rfl, rfl, HA, HJ16, ⟨mc16, rfl⟩⟩ := hcut
         cases kq with
         | zero => exact absurd HA.out (by simp [platenref01_Size.j4])
         | succ kj16 =>
          have H := HA.out
          clear HA
          simp only [platenref01_Size.j4] at H
          have HC22 := Aside0.mk H
          clear H
          go_upto_region 21 with (fail)
          go_cut [79] (fun v79 wc => ∃ (kq : Nat) (x79_21 : Bool), v79 = .bool x79_21 ∧ Aside0 (platenref01_Size.j5 kq l0 a1 x6_7 x79_21 = some r) ∧ Aside0 (kq ≤ kj16) ∧ Drawn0 w wc)
          case first =>
           have H := HC22.out
           clear HC22
           by_cases c23 : x6_7 = 1
           ·rw [if_pos c23] at H
            have c23b0 : (x6_7 == 1) = true := beq_iff_eq.mpr c23
            have c23b1 : (x6_7 != 1) = false := bne_eq_false_iff_eq.mpr c23
            clear c23
            (first | rw [c23b0] | (simp only [i64_w, i32_w]; rw [c23b0]) | skip)
            have H' := Aside0.mk H
            clear H
            go_wp2
            go_meet
            case rel => exact ⟨_, (true), (by first | rfl | (simp; done) | (simp [*]; done)), H', ⟨by have := HJ2.out; have := HJ7.out; have := HJ16.out; first | omega | exact Nat.le_refl _⟩, by repeat (first | exact Drawn0.refl _ | apply Drawn0.step)⟩
           ·rw [if_neg c23] at H
            have c23b0 : (x6_7 == 1) = false := beq_eq_false_iff_ne.mpr c23
            have c23b1 : (x6_7 != 1) = true := bne_iff_ne.mpr c23
            (first | rw [c23b0] | (simp only [i64_w, i32_w]; rw [c23b0]) | skip)
            by_cases c24 : x6_7 > (wrap64 ((l0.length : Int) - a1))
            ·rw [if_pos c24] at H
             have c24b0 : decide ((wrap64 ((l0.length : Int) - a1)) < x6_7) = true := decide_eq_true c24
             clear c24
             have H' := Aside0.mk H
             clear H
             go_wp2
             go_meet
             case rel => exact ⟨_, (true), (by first | rfl | (simp; done) | (simp [*]; done)), H', ⟨by have := HJ2.out; have := HJ7.out; have := HJ16.out; first | omega | exact Nat.le_refl _⟩, by repeat (first | exact Drawn0.refl _ | apply Drawn0.step)⟩
            ·rw [if_neg c24] at H
             have c24b0 : decide ((wrap64 ((l0.length : Int) - a1)) < x6_7) = false := decide_eq_false c24
             clear c24
             obtain ⟨ji25, hji25⟩ : ∃ j_ : Int, (wrap64 (a1 + 1)) = j_ := ⟨_, rfl⟩
             replace H : (if 0 ≤ (ji25) then (if (ji25) < (l0.length : Int) then (if (rd l0 (ji25)) < x7_16 then (platenref01_Size.j5 kj16 l0 a1 x6_7 true) else (platenref01_Size.j5 kj16 l0 a1 x6_7 (decide ((rd l0 (ji25)) > x8_16)))) else (none)) else (none)) = some r := by first | (rw [hji25] at H; exact H) | (simp only [hji25] at H ⊢; exact H)
             have hji25w : (IntKind.i64.wrap (a1 + 1)) = ji25 := (i64_w _).trans hji25
             by_cases c26 : 0 ≤ (ji25)
             ·rw [if_pos c26] at H
              have c26b0 : decide (0 ≤ (ji25)) = true := decide_eq_true c26
              clear c26
              by_cases c27 : (ji25) < (l0.length : Int)
              ·rw [if_pos c27] at H
               have c27b0 : decide ((ji25) < (l0.length : Int)) = true := decide_eq_true c27
               clear c27
               by_cases c28 : (rd l0 (ji25)) < x7_16
               ·rw [if_pos c28] at H
                have c28b0 : decide ((rd l0 (ji25)) < x7_16) = true := decide_eq_true c28
                clear c28
                have H' := Aside0.mk H
                clear H
                have p282 : 0 ≤ ((ji25) : Int) := of_decide_eq_true (by first | (with_reducible assumption) | assumption)
                have q282 : (ji25) < (l0.length : Int) := of_decide_eq_true (by first | (with_reducible assumption) | assumption)
                obtain ⟨ad282, e282, hx282_0⟩ := Kd.at_int HR0.out (ji25) p282 q282
                obtain rfl : ad281 = ad282 := (by injection e282)
                replace p282 := eq_true p282
                replace q282 := eq_true q282
                go_wp2
                go_meet
                case rel => exact ⟨_, (true), (by first | rfl | (simp; done) | (simp [*]; done)), H', ⟨by have := HJ2.out; have := HJ7.out; have := HJ16.out; first | omega | exact Nat.le_refl _⟩, by repeat (first | exact Drawn0.refl _ | apply Drawn0.step)⟩
               ·rw [if_neg c28] at H
                have c28b0 : decide ((rd l0 (ji25)) < x7_16) = false := decide_eq_false c28
                clear c28
                have H' := Aside0.mk H
                clear H
                have p282 : 0 ≤ ((ji25) : Int) := of_decide_eq_true (by first | (with_reducible assumption) | assumption)
                have q282 : (ji25) < (l0.length : Int) := of_decide_eq_true (by first | (with_reducible assumption) | assumption)
                obtain ⟨ad282, e282, hx282_0⟩ := Kd.at_int HR0.out (ji25) p282 q282
                obtain rfl : ad281 = ad282 := (by injection e282)
                replace p282 := eq_true p282
                replace q282 := eq_true q282
                have p283 : 0 ≤ ((ji25) : Int) := of_decide_eq_true (by first | (with_reducible assumption) | assumption)
                have q283 : (ji25) < (l0.length : Int) := of_decide_eq_true (by first | (with_reducible assumption) | assumption)
                obtain ⟨ad283, e283, hx283_0⟩ := Kd.at_int HR0.out (ji25) p283 q283
                obtain rfl : ad281 = ad283 := (by injection e283)
                replace p283 := eq_true p283
                replace q283 := eq_true q283
                go_wp2
                go_meet
                case rel => exact ⟨_, (decide ((rd l0 (ji25)) > x8_16)), (by first | rfl | (simp; done) | (simp only [← hji25] <;> (first | rfl | simp)) | (simp [*]; done)), H', ⟨by have := HJ2.out; have := HJ7.out; have := HJ16.out; first | omega | exact Nat.le_refl _⟩, by repeat (first | exact Drawn0.refl _ | apply Drawn0.step)⟩
              ·rw [if_neg c27] at H
               exact absurd H (by simp)
             ·rw [if_neg c26] at H
              exact absurd H (by simp)
          case rest =>
           clear HC22
           try clear c1
           try clear c2
           try clear p2
           try clear q2
           try clear hx2
           try clear c4
           try clear c4b0
           try clear c5
           try clear c6
           try clear c6b0
           try clear p6
           try clear c7
           try clear c7b0
           try clear c8
           try clear c10
           try clear c10b0
           try clear c11
           try clear c13
           try clear c13b0
           try clear c14
           try clear c15
           try clear c15b0
           try clear c16
           try clear c16b0
           try clear c18
           try clear c18b0
           try clear c18b1
           try clear c19
           try clear c19b0
           try clear c19b1
           try clear c20
           try clear c20b0
           try clear c20b1
           try clear c21
           try clear c21b0
           try clear c21b1
           try clear c23
           try clear c23b0
           try clear c23b1
           try clear c24
           try clear c24b0
           try clear c26
           try clear c26b0
           try clear c27
           try clear c27b0
           try clear c28
           try clear c28b0
           try clear p28
           try clear q28
           try clear hx28
           try clear hx281_0
           try clear hx282_0
           try clear hx283_0
           try clear p2
           try clear p281
           try clear p282
           try clear p283
           try clear q2
           try clear q281
           try clear q282
           try clear q283
           obtain ⟨kq, x79_21, rfl, HA, HJ21, ⟨mc21, rfl⟩⟩ := hcut
           cases kq with
           | zero => exact absurd HA.out (by simp [platenref01_Size.j5])
           | succ kj21 =>
            have H := HA.out
            clear HA
            simp only [platenref01_Size.j5] at H
            by_cases c29 : x79_21 = true
            ·subst c29
             have H1 : (some 1) = some r := by rw [if_pos rfl] at H; exact H
             clear H
             have H := H1
             clear H1
             obtain rfl := Option.some.inj H
             go_wp2
             go_ret
             exact ⟨by first | rfl | (simp; done) | (simp [*]; done), by repeat (first | exact Drawn0.refl _ | apply Drawn0.step)⟩
            ·replace c29 := Bool.eq_false_iff.mpr c29
             subst c29
             have H1 : (platenref01_Size.l0 kj21 l0 a1 x6_7 2) = some r := by rw [if_neg (show ¬ (false = true) by decide)] at H; exact H
             clear H
             have H := H1
             clear H1
             have H' := Aside0.mk H
             clear H
             go_wp2
             go_loopg [9] kj21 (fun kq v9 w' => ∃ (x9_5 : Int), v9 = .int .i64 x9_5 ∧ Aside0 (platenref01_Size.l0 kq l0 a1 x6_7 x9_5 = some r) ∧ Aside0 (kq ≤ kj21) ∧ Drawn0 w w')
             case atStart => exact ⟨(2), (by first | rfl | (simp; done) | (simp [*]; done)), H', ⟨Nat.le_refl _⟩, by repeat (first | exact Drawn0.refl _ | apply Drawn0.step)⟩
             case round =>
              clear H'
              try clear c1
              try clear c2
              try clear p2
              try clear q2
              try clear hx2
              try clear c4
              try clear c4b0
              try clear c5
              try clear c6
              try clear c6b0
              try clear p6
              try clear c7
              try clear c7b0
              try clear c8
              try clear c10
              try clear c10b0
              try clear c11
              try clear c13
              try clear c13b0
              try clear c14
              try clear c15
              try clear c15b0
              try clear c16
              try clear c16b0
              try clear c18
              try clear c18b0
              try clear c18b1
              try clear c19
              try clear c19b0
              try clear c19b1
              try clear c20
              try clear c20b0
              try clear c20b1
              try clear c21
              try clear c21b0
              try clear c21b1
              try clear c23
              try clear c23b0
              try clear c23b1
              try clear c24
              try clear c24b0
              try clear c26
              try clear c26b0
              try clear c27
              try clear c27b0
              try clear c28
              try clear c28b0
              try clear p28
              try clear q28
              try clear hx28
              try clear c29
              try clear hx281_0
              try clear hx282_0
              try clear hx283_0
              try clear p2
              try clear p28
              try clear p281
              try clear p282
              try clear p283
              try clear p6
              try clear q2
              try clear q28
              try clear q281
              try clear q282
              try clear q283
              obtain ⟨x9_5, rfl, HA, HK5, ⟨m5, rfl⟩⟩ := hrel
              cases gk with
              | zero => exact absurd HA.out (by simp [platenref01_Size.l0])
              | succ k5 =>
               have H := HA.out
               clear HA
               simp only [platenref01_Size.l0] at H
               by_cases c30 : x9_5 < x6_7
               ·rw [if_pos c30] at H
                have c30b0 : decide (x9_5 < x6_7) = true := decide_eq_true c30
                clear c30
                obtain ⟨ji31, hji31⟩ : ∃ j_ : Int, (wrap64 (a1 + x9_5)) = j_ := ⟨_, rfl⟩
                replace H : (if 0 ≤ (ji31) then (if (ji31) < (l0.length : Int) then (if (rd l0 (ji31)) < 128 then (some 1) else (if (rd l0 (ji31)) > 191 then (some 1) else (platenref01_Size.l0 k5 l0 a1 x6_7 (wrap64 (x9_5 + 1))))) else (none)) else (none)) = some r := by first | (rw [hji31] at H; exact H) | (simp only [hji31] at H ⊢; exact H)
                have hji31w : (IntKind.i64.wrap (a1 + x9_5)) = ji31 := (i64_w _).trans hji31
                by_cases c32 : 0 ≤ (ji31)
                ·rw [if_pos c32] at H
                 have c32b0 : decide (0 ≤ (ji31)) = true := decide_eq_true c32
                 clear c32
                 by_cases c33 : (ji31) < (l0.length : Int)
                 ·rw [if_pos c33] at H
                  have c33b0 : decide ((ji31) < (l0.length : Int)) = true := decide_eq_true c33
                  clear c33
                  by_cases c34 : (rd l0 (ji31)) < 128
                  ·rw [if_pos c34] at H
                   have c34b0 : decide ((rd l0 (ji31)) < 128) = true := decide_eq_true c34
                   clear c34
                   obtain rfl := Option.some.inj H
                   have p284 : 0 ≤ ((ji31) : Int) := of_decide_eq_true (by first | (with_reducible assumption) | assumption)
                   have q284 : (ji31) < (l0.length : Int) := of_decide_eq_true (by first | (with_reducible assumption) | assumption)
                   obtain ⟨ad284, e284, hx284_0⟩ := Kd.at_int HR0.out (ji31) p284 q284
                   obtain rfl : ad281 = ad284 := (by injection e284)
                   replace p284 := eq_true p284
                   replace q284 := eq_true q284
                   go_wp2
                   go_ret
                   exact ⟨by first | rfl | (simp; done) | (simp only [← hji31] <;> (first | rfl | simp)) | (simp [*]; done), by repeat (first | exact Drawn0.refl _ | apply Drawn0.step)⟩
                  ·rw [if_neg c34] at H
                   have c34b0 : decide ((rd l0 (ji31)) < 128) = false := decide_eq_false c34
                   clear c34
                   by_cases c35 : (rd l0 (ji31)) > 191
                   ·rw [if_pos c35] at H
                    have c35b0 : decide (191 < (rd l0 (ji31))) = true := decide_eq_true c35
                    clear c35
                    obtain rfl := Option.some.inj H
                    have p284 : 0 ≤ ((ji31) : Int) := of_decide_eq_true (by first | (with_reducible assumption) | assumption)
                    have q284 : (ji31) < (l0.length : Int) := of_decide_eq_true (by first | (with_reducible assumption) | assumption)
                    obtain ⟨ad284, e284, hx284_0⟩ := Kd.at_int HR0.out (ji31) p284 q284
                    obtain rfl : ad281 = ad284 := (by injection e284)
                    replace p284 := eq_true p284
                    replace q284 := eq_true q284
                    have p285 : 0 ≤ ((ji31) : Int) := of_decide_eq_true (by first | (with_reducible assumption) | assumption)
                    have q285 : (ji31) < (l0.length : Int) := of_decide_eq_true (by first | (with_reducible assumption) | assumption)
                    obtain ⟨ad285, e285, hx285_0⟩ := Kd.at_int HR0.out (ji31) p285 q285
                    obtain rfl : ad281 = ad285 := (by injection e285)
                    replace p285 := eq_true p285
                    replace q285 := eq_true q285
                    go_wp2
                    go_ret
                    exact ⟨by first | rfl | (simp; done) | (simp only [← hji31] <;> (first | rfl | simp)) | (simp [*]; done), by repeat (first | exact Drawn0.refl _ | apply Drawn0.step)⟩
                   ·rw [if_neg c35] at H
                    have c35b0 : decide (191 < (rd l0 (ji31))) = false := decide_eq_false c35
                    clear c35
                    have H' := Aside0.mk H
                    clear H
                    have p284 : 0 ≤ ((ji31) : Int) := of_decide_eq_true (by first | (with_reducible assumption) | assumption)
                    have q284 : (ji31) < (l0.length : Int) := of_decide_eq_true (by first | (with_reducible assumption) | assumption)
                    obtain ⟨ad284, e284, hx284_0⟩ := Kd.at_int HR0.out (ji31) p284 q284
                    obtain rfl : ad281 = ad284 := (by injection e284)
                    replace p284 := eq_true p284
                    replace q284 := eq_true q284
                    have p285 : 0 ≤ ((ji31) : Int) := of_decide_eq_true (by first | (with_reducible assumption) | assumption)
                    have q285 : (ji31) < (l0.length : Int) := of_decide_eq_true (by first | (with_reducible assumption) | assumption)
                    obtain ⟨ad285, e285, hx285_0⟩ := Kd.at_int HR0.out (ji31) p285 q285
                    obtain rfl : ad281 = ad285 := (by injection e285)
                    replace p285 := eq_true p285
                    replace q285 := eq_true q285
                    go_wp2
                    go_roundg k5
                    case measure => have := HJ2.out; have := HJ7.out; have := HJ16.out; have := HJ21.out; have := HK5.out; omega
                    case rel => exact ⟨(wrap64 (x9_5 + 1)), (by first | rfl | (simp; done) | (simp [*]; done)), H', ⟨by have := HJ2.out; have := HJ7.out; have := HJ16.out; have := HJ21.out; have := HK5.out; omega⟩, by repeat (first | exact Drawn0.refl _ | apply Drawn0.step)⟩
                 ·rw [if_neg c33] at H
                  exact absurd H (by simp)
                ·rw [if_neg c32] at H
                 exact absurd H (by simp)
               ·rw [if_neg c30] at H
                have c30b0 : decide (x9_5 < x6_7) = false := decide_eq_false c30
                clear c30
                obtain rfl := Option.some.inj H
                go_wp2
                go_ret
                exact ⟨by first | rfl | (simp; done) | (simp [*]; done), by repeat (first | exact Drawn0.refl _ | apply Drawn0.step)⟩
     ·rw [if_neg c7] at H
      exact absurd H (by simp)
    ·rw [if_neg c6] at H
     exact absurd H (by simp)

end Go.Proofs.YtloafpnniooliaaDoor.Pa
