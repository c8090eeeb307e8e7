-- Laid by a program of this claim's own (wip/tools/mkprint.py, ext.py): walks of the functions that the statements reach.
import Derived.Test.YtloafpnniooliaaDoorPax0
import Derived.Test.YtloafpnniooliaaDoorPax10
import Derived.Test.YtloafpnniooliaaDoorPax11
import Derived.Test.YtloafpnniooliaaDoorPax13
import Derived.Test.YtloafpnniooliaaDoorPax14
namespace Go.Proofs.YtloafpnniooliaaDoor.Pa
open Go.RowKit Go.Proofs.YtloafpnniooliaaDoor.Ext Go.Proofs.YtloafpnniooliaaDoorW.PrintWords Go.Proofs.YtloafpnniooliaaDoorW.PrintLast Go.Proofs.YtloafpnniooliaaDoorW.PrintMore
attribute [local go_sem] max2_int min2_int max_two min_two max_three min_three max_four min_four   -- for this text's walks alone
set_option linter.unusedVariables false
set_option linter.unusedSimpArgs false

/-! ### platenlaw19_MotionSigns: function 5 -/
mutual
def platenlaw19_MotionSigns.j0 : Nat → List Int → Int → Int → Bool → Bool → Option (Bool)
  | 0, _, _, _, _, _ => none
  | k + 1, x0, x1, x2, x3, x24 => if x24 = true then ((platenlaw19_steps.f k).bind fun t491 => (some t491)) else (if x3 = true then (platenlaw19_MotionSigns.j1 k x0 x1 x2 108) else (platenlaw19_MotionSigns.j1 k x0 x1 x2 104))
def platenlaw19_MotionSigns.j1 : Nat → List Int → Int → Int → Int → Option (Bool)
  | 0, _, _, _, _ => none
  | k + 1, x0, x1, x2, x9 => (platenref01_Floor.f k x0 (wrap64 (x1))).bind fun t492 => ((motion_Go.f k x0 t492 x9 0 (wrap64 ((Int.tmod (wrap64 (x2)) 9) + 1)) 8).bind fun bt493 => (platenlaw19_MotionSigns.l0 k x0 x9 t492 (wrap64 ((Int.tmod (wrap64 (x2)) 9) + 1)) bt493.2.2.2 t492 0 0 bt493.1 bt493.2.1 bt493.2.2.1))
def platenlaw19_MotionSigns.j3 : Nat → List Int → Int → Int → Int → Int → Int → Bool → Bool → Option (Bool)
  | 0, _, _, _, _, _, _, _, _ => none
  | k + 1, x0, x10, x13, x14, x15, x498000, x498001, x498002 => if x13 = x15 then (if x13 = 0 then (if x498000 = x14 then ((platenref03_Of.f k x0 x14).bind fun t503 => ((platenref03_Of.f k x0 x10).bind fun t504 => (some (t503 == t504)))) else (some false)) else (some true)) else (some false)
def platenlaw19_MotionSigns.l0 : Nat → List Int → Int → Int → Int → Int → Int → Int → Int → Int → Bool → Bool → Option (Bool)
  | 0, _, _, _, _, _, _, _, _, _, _, _ => none
  | k + 1, x0, x9, x10, x11, x13, x14, x15, x16, x498000, x498001, x498002 => if x16 < x11 then (if x15 = 0 then ((motion_Go.f k x0 x14 x9 0 0 8).bind fun bt499 => (platenlaw19_MotionSigns.l0 k x0 x9 x10 x11 x13 bt499.1 bt499.2.2.2 (wrap64 (x16 + 1)) x498000 x498001 x498002)) else (platenlaw19_MotionSigns.j3 k x0 x10 x13 x14 x15 x498000 x498001 x498002)) else (platenlaw19_MotionSigns.j3 k x0 x10 x13 x14 x15 x498000 x498001 x498002)
end
def platenlaw19_MotionSigns.f (k : Nat) (l0 : List Int) (a1 : Int) (a2 : Int) (a3 : Bool) : Option (Bool) := (platenlaw19_steps.f k).bind fun t490 => (if t490 = true then (platenlaw19_MotionSigns.j0 k l0 a1 a2 a3 (decide ((l0.length : Int) > 200))) else (platenlaw19_MotionSigns.j0 k l0 a1 a2 a3 true))
theorem platenlaw19_MotionSigns.mono_l : ∀ k, (∀ y0 y1 y2 y3 y4, LeO (platenlaw19_MotionSigns.j0 k y0 y1 y2 y3 y4) (platenlaw19_MotionSigns.j0 (k + 1) y0 y1 y2 y3 y4)) ∧ (∀ y0 y1 y2 y3, LeO (platenlaw19_MotionSigns.j1 k y0 y1 y2 y3) (platenlaw19_MotionSigns.j1 (k + 1) y0 y1 y2 y3)) ∧ (∀ y0 y1 y2 y3 y4 y5 y6 y7, LeO (platenlaw19_MotionSigns.j3 k y0 y1 y2 y3 y4 y5 y6 y7) (platenlaw19_MotionSigns.j3 (k + 1) y0 y1 y2 y3 y4 y5 y6 y7)) ∧ (∀ y0 y1 y2 y3 y4 y5 y6 y7 y8 y9 y10, LeO (platenlaw19_MotionSigns.l0 k y0 y1 y2 y3 y4 y5 y6 y7 y8 y9 y10) (platenlaw19_MotionSigns.l0 (k + 1) y0 y1 y2 y3 y4 y5 y6 y7 y8 y9 y10))
  | 0 => ⟨fun _ _ _ _ _ r h => by simp [platenlaw19_MotionSigns.j0] at h, fun _ _ _ _ r h => by simp [platenlaw19_MotionSigns.j1] at h, fun _ _ _ _ _ _ _ _ r h => by simp [platenlaw19_MotionSigns.j3] at h, fun _ _ _ _ _ _ _ _ _ _ _ r h => by simp [platenlaw19_MotionSigns.l0] at h⟩
  | k + 1 => by
    obtain ⟨ih0, ih1, ih2, ih3⟩ := platenlaw19_MotionSigns.mono_l k
    refine ⟨?_, ?_, ?_, ?_⟩
    · intro y0 y1 y2 y3 y4
      unfold platenlaw19_MotionSigns.j0
      repeat' first
      | (with_reducible exact ih0 _ _ _ _ _)
      | (with_reducible exact ih1 _ _ _ _)
      | (with_reducible exact ih2 _ _ _ _ _ _ _ _)
      | (with_reducible exact ih3 _ _ _ _ _ _ _ _ _ _ _)
      | (with_reducible exact motion_Go.mono _ _ _ _ _ _ _)
      | (with_reducible exact platenlaw19_steps.mono _)
      | (with_reducible exact platenref01_Floor.mono _ _ _)
      | (with_reducible exact platenref03_Of.mono _ _ _)
      | (with_reducible exact LeO.refl _)
      | (with_reducible exact LeO.none _)
      | (with_reducible refine LeO.ite ?_ ?_)
      | (with_reducible refine LeO.bind ?_ (fun _ => ?_))
      | exact ih0 _ _ _ _ _
      | exact ih1 _ _ _ _
      | exact ih2 _ _ _ _ _ _ _ _
      | exact ih3 _ _ _ _ _ _ _ _ _ _ _
      | exact motion_Go.mono _ _ _ _ _ _ _
      | exact platenlaw19_steps.mono _
      | exact platenref01_Floor.mono _ _ _
      | exact platenref03_Of.mono _ _ _
      | exact LeO.none _
      | refine LeO.ite ?_ ?_
      | refine LeO.bind ?_ (fun _ => ?_)
    · intro y0 y1 y2 y3
      unfold platenlaw19_MotionSigns.j1
      repeat' first
      | (with_reducible exact ih0 _ _ _ _ _)
      | (with_reducible exact ih1 _ _ _ _)
      | (with_reducible exact ih2 _ _ _ _ _ _ _ _)
      | (with_reducible exact ih3 _ _ _ _ _ _ _ _ _ _ _)
      | (with_reducible exact motion_Go.mono _ _ _ _ _ _ _)
      | (with_reducible exact platenlaw19_steps.mono _)
      | (with_reducible exact platenref01_Floor.mono _ _ _)
      | (with_reducible exact platenref03_Of.mono _ _ _)
      | (with_reducible exact LeO.refl _)
      | (with_reducible exact LeO.none _)
      | (with_reducible refine LeO.ite ?_ ?_)
      | (with_reducible refine LeO.bind ?_ (fun _ => ?_))
      | exact ih0 _ _ _ _ _
      | exact ih1 _ _ _ _
      | exact ih2 _ _ _ _ _ _ _ _
      | exact ih3 _ _ _ _ _ _ _ _ _ _ _
      | exact motion_Go.mono _ _ _ _ _ _ _
      | exact platenlaw19_steps.mono _
      | exact platenref01_Floor.mono _ _ _
      | exact platenref03_Of.mono _ _ _
      | exact LeO.none _
      | refine LeO.ite ?_ ?_
      | refine LeO.bind ?_ (fun _ => ?_)
    · intro y0 y1 y2 y3 y4 y5 y6 y7
      unfold platenlaw19_MotionSigns.j3
      repeat' first
      | (with_reducible exact ih0 _ _ _ _ _)
      | (with_reducible exact ih1 _ _ _ _)
      | (with_reducible exact ih2 _ _ _ _ _ _ _ _)
      | (with_reducible exact ih3 _ _ _ _ _ _ _ _ _ _ _)
      | (with_reducible exact motion_Go.mono _ _ _ _ _ _ _)
      | (with_reducible exact platenlaw19_steps.mono _)
      | (with_reducible exact platenref01_Floor.mono _ _ _)
      | (with_reducible exact platenref03_Of.mono _ _ _)
      | (with_reducible exact LeO.refl _)
      | (with_reducible exact LeO.none _)
      | (with_reducible refine LeO.ite ?_ ?_)
      | (with_reducible refine LeO.bind ?_ (fun _ => ?_))
      | exact ih0 _ _ _ _ _
      | exact ih1 _ _ _ _
      | exact ih2 _ _ _ _ _ _ _ _
      | exact ih3 _ _ _ _ _ _ _ _ _ _ _
      | exact motion_Go.mono _ _ _ _ _ _ _
      | exact platenlaw19_steps.mono _
      | exact platenref01_Floor.mono _ _ _
      | exact platenref03_Of.mono _ _ _
      | exact LeO.none _
      | refine LeO.ite ?_ ?_
      | refine LeO.bind ?_ (fun _ => ?_)
    · intro y0 y1 y2 y3 y4 y5 y6 y7 y8 y9 y10
      unfold platenlaw19_MotionSigns.l0
      repeat' first
      | (with_reducible exact ih0 _ _ _ _ _)
      | (with_reducible exact ih1 _ _ _ _)
      | (with_reducible exact ih2 _ _ _ _ _ _ _ _)
      | (with_reducible exact ih3 _ _ _ _ _ _ _ _ _ _ _)
      | (with_reducible exact motion_Go.mono _ _ _ _ _ _ _)
      | (with_reducible exact platenlaw19_steps.mono _)
      | (with_reducible exact platenref01_Floor.mono _ _ _)
      | (with_reducible exact platenref03_Of.mono _ _ _)
      | (with_reducible exact LeO.refl _)
      | (with_reducible exact LeO.none _)
      | (with_reducible refine LeO.ite ?_ ?_)
      | (with_reducible refine LeO.bind ?_ (fun _ => ?_))
      | exact ih0 _ _ _ _ _
      | exact ih1 _ _ _ _
      | exact ih2 _ _ _ _ _ _ _ _
      | exact ih3 _ _ _ _ _ _ _ _ _ _ _
      | exact motion_Go.mono _ _ _ _ _ _ _
      | exact platenlaw19_steps.mono _
      | exact platenref01_Floor.mono _ _ _
      | exact platenref03_Of.mono _ _ _
      | exact LeO.none _
      | refine LeO.ite ?_ ?_
      | refine LeO.bind ?_ (fun _ => ?_)
theorem platenlaw19_MotionSigns.mono : ∀ a0 a1 a2 a3 k, LeO (platenlaw19_MotionSigns.f k a0 a1 a2 a3) (platenlaw19_MotionSigns.f (k + 1) a0 a1 a2 a3) := by
  intro a0 a1 a2 a3 k
  obtain ⟨ih0, ih1, ih2, ih3⟩ := platenlaw19_MotionSigns.mono_l k
  unfold platenlaw19_MotionSigns.f
  repeat' first
      | (with_reducible exact ih0 _ _ _ _ _)
      | (with_reducible exact ih1 _ _ _ _)
      | (with_reducible exact ih2 _ _ _ _ _ _ _ _)
      | (with_reducible exact ih3 _ _ _ _ _ _ _ _ _ _ _)
      | (with_reducible exact motion_Go.mono _ _ _ _ _ _ _)
      | (with_reducible exact platenlaw19_steps.mono _)
      | (with_reducible exact platenref01_Floor.mono _ _ _)
      | (with_reducible exact platenref03_Of.mono _ _ _)
      | (with_reducible exact LeO.refl _)
      | (with_reducible exact LeO.none _)
      | (with_reducible refine LeO.ite ?_ ?_)
      | (with_reducible refine LeO.bind ?_ (fun _ => ?_))
      | exact ih0 _ _ _ _ _
      | exact ih1 _ _ _ _
      | exact ih2 _ _ _ _ _ _ _ _
      | exact ih3 _ _ _ _ _ _ _ _ _ _ _
      | exact motion_Go.mono _ _ _ _ _ _ _
      | exact platenlaw19_steps.mono _
      | exact platenref01_Floor.mono _ _ _
      | exact platenref03_Of.mono _ _ _
      | exact LeO.none _
      | refine LeO.ite ?_ ?_
      | refine LeO.bind ?_ (fun _ => ?_)
set_option maxHeartbeats 8000000 in
set_option maxRecDepth 100000 in
theorem platenlaw19_MotionSigns.calls (k : Nat) (A0 : Option Addr) (c0 : Nat) (l0 : List Int) (a1 : Int) (a2 : Int) (a3 : Bool) (r : Bool) (w : World) (hT : Tabs w) (hr0 : Kd.C (Kd.int .u8) w A0 l0.length l0) (hc0 : l0.length ≤ c0) (h : platenlaw19_MotionSigns.f k l0 a1 a2 a3 = some r) :
  Calls Tryd.prog 5 #[.slice A0 l0.length c0, .int .u8 a1, .int .u8 a2, .bool a3] w fun e w' => e = .returned (.bool r) ∧ Below w.heap.size w w' := by
 have hu30 := Tryd.underlying30
 have hu25 := Tryd.underlying25
 have HR0 := Aside0.mk hr0
 have HC0 := Aside0.mk hc0
 clear hr0 hc0
 have HB := Aside0.mk (Below.refl w.heap.size w)
 have HT := Aside0.mk hT
 clear hT
 have H : ((platenlaw19_steps.f k).bind fun t490 => (if t490 = true then (platenlaw19_MotionSigns.j0 k l0 a1 a2 a3 (decide ((l0.length : Int) > 200))) else (platenlaw19_MotionSigns.j0 k l0 a1 a2 a3 true))) = some r := h
 clear h
 have HC5 := Aside0.mk H
 clear H
 go_enter Tryd.func5, Tryd.ntmps5
 go_upto_region 1 with (fail)
 go_cut [24] (fun v24 wc => ∃ (kq : Nat) (x24_4 : Bool), v24 = .bool x24_4 ∧ Aside0 (platenlaw19_MotionSigns.j0 kq l0 a1 a2 a3 x24_4 = some r) ∧ Aside0 (kq ≤ k) ∧ Aside0 (Below w.heap.size w wc))
 case first =>
  have H := HC5.out
  clear HC5
  replace H := Option.bind_eq_some_iff.mp H
  obtain ⟨t490, A60, H⟩ := H
  replace H : (if t490 = true then (platenlaw19_MotionSigns.j0 k l0 a1 a2 a3 (decide ((l0.length : Int) > 200))) else (platenlaw19_MotionSigns.j0 k l0 a1 a2 a3 true)) = some r := H
  have A6 := Aside0.mk A60
  clear A60
  by_cases c7 : t490 = true
  ·subst c7
   have H1 : (platenlaw19_MotionSigns.j0 k l0 a1 a2 a3 (decide ((l0.length : Int) > 200))) = some r := by rw [if_pos rfl] at H; exact H
   clear H
   have H := H1
   clear H1
   have H' := Aside0.mk H
   clear H
   go_wp2_with (first | ((with_reducible refine gate_callee (f := 9) rfl ?_); refine goesL_ (some 18) rfl rfl Tryd.func9 (by kernel_rfl) rfl #[] rfl (by (try simp only [List.map_toArray, List.map_cons, List.map_nil]); first | done | rfl | (simp only [List.length_drop, List.length_take]; rfl)) ?_; (with_reducible refine (platenlaw19_steps.calls k  true _ ?side1 A6.out).mono ?_); (case side1 => exact Tabs.below HT.out (by repeat (first | exact HB.out | apply bA | apply bN | apply bD))); rintro e w8 ⟨rfl, hb⟩; refine ⟨_, rfl, ?_⟩; have n0_ := Aside0.mk (below_step (by repeat (first | exact HB.out | apply bA | apply bN | apply bD)) hb); clear HB; have HB := n0_; clear n0_; (try clear hb); (try clear hb2); (try clear hk); (try clear hi)))
   go_meet
   case rel => exact ⟨_, (decide ((l0.length : Int) > 200)), (by first | rfl | (simp; done) | (simp [*]; done)), H', ⟨by first | omega | exact Nat.le_refl _⟩, ⟨by repeat (first | exact HB.out | apply bA | apply bN | apply bD)⟩⟩
  ·replace c7 := Bool.eq_false_iff.mpr c7
   subst c7
   have H1 : (platenlaw19_MotionSigns.j0 k l0 a1 a2 a3 true) = some r := by rw [if_neg (show ¬ (false = true) by decide)] at H; exact H
   clear H
   have H := H1
   clear H1
   have H' := Aside0.mk H
   clear H
   go_wp2_with (first | ((with_reducible refine gate_callee (f := 9) rfl ?_); refine goesL_ (some 18) rfl rfl Tryd.func9 (by kernel_rfl) rfl #[] rfl (by (try simp only [List.map_toArray, List.map_cons, List.map_nil]); first | done | rfl | (simp only [List.length_drop, List.length_take]; rfl)) ?_; (with_reducible refine (platenlaw19_steps.calls k  false _ ?side1 A6.out).mono ?_); (case side1 => exact Tabs.below HT.out (by repeat (first | exact HB.out | apply bA | apply bN | apply bD))); rintro e w9 ⟨rfl, hb⟩; refine ⟨_, rfl, ?_⟩; have n0_ := Aside0.mk (below_step (by repeat (first | exact HB.out | apply bA | apply bN | apply bD)) hb); clear HB; have HB := n0_; clear n0_; (try clear hb); (try clear hb2); (try clear hk); (try clear hi)))
   go_meet
   case rel => exact ⟨_, (true), (by first | rfl | (simp; done) | (simp [*]; done)), H', ⟨by first | omega | exact Nat.le_refl _⟩, ⟨by repeat (first | exact HB.out | apply bA | apply bN | apply bD)⟩⟩
 case rest =>
  clear HC5
  try clear p2
  try clear c5
  try clear c7
  try clear c9
  obtain ⟨kq, x24_4, rfl, HA, HJ4, HB⟩ := hcut
  cases kq with
  | zero => exact absurd HA.out (by simp [platenlaw19_MotionSigns.j0])
  | succ kj4 =>
   have H := HA.out
   clear HA
   simp only [platenlaw19_MotionSigns.j0] at H
   by_cases c10 : x24_4 = true
   ·subst c10
    have H1 : ((platenlaw19_steps.f kj4).bind fun t491 => (some t491)) = some r := by rw [if_pos rfl] at H; exact H
    clear H
    have H := H1
    clear H1
    replace H := Option.bind_eq_some_iff.mp H
    obtain ⟨t491, A110, H⟩ := H
    replace H : (some t491) = some r := H
    have A11 := Aside0.mk A110
    clear A110
    obtain rfl := Option.some.inj H
    go_wp2_with (first | ((with_reducible refine gate_callee (f := 9) rfl ?_); refine goesL_ (some 25) rfl rfl Tryd.func9 (by kernel_rfl) rfl #[] rfl (by (try simp only [List.map_toArray, List.map_cons, List.map_nil]); first | done | rfl | (simp only [List.length_drop, List.length_take]; rfl)) ?_; (with_reducible refine (platenlaw19_steps.calls kj4  t491 _ ?side1 A11.out).mono ?_); (case side1 => exact Tabs.below HT.out (by repeat (first | exact HB.out | apply bA | apply bN | apply bD))); rintro e w12 ⟨rfl, hb⟩; refine ⟨_, rfl, ?_⟩; have n0_ := Aside0.mk (below_step (by repeat (first | exact HB.out | apply bA | apply bN | apply bD)) hb); clear HB; have HB := n0_; clear n0_; (try clear hb); (try clear hb2); (try clear hk); (try clear hi)))
    go_ret
    exact ⟨by first | rfl | (simp [errW_none, errW_some] <;> rfl) | (simp [*, errW_none, errW_some] <;> rfl), by repeat (first | exact HB.out | apply bA | apply bN | apply bD)⟩
   ·replace c10 := Bool.eq_false_iff.mpr c10
    subst c10
    have H1 : (if a3 = true then (platenlaw19_MotionSigns.j1 kj4 l0 a1 a2 108) else (platenlaw19_MotionSigns.j1 kj4 l0 a1 a2 104)) = some r := by rw [if_neg (show ¬ (false = true) by decide)] at H; exact H
    clear H
    have H := H1
    clear H1
    have HC13 := Aside0.mk H
    clear H
    go_upto_if 26 with (fail)
    go_cut [9] (fun v9 wc => ∃ (kq : Nat) (x9_12 : Int), v9 = .int .u8 x9_12 ∧ Aside0 (platenlaw19_MotionSigns.j1 kq l0 a1 a2 x9_12 = some r) ∧ Aside0 (kq ≤ kj4) ∧ Aside0 (Below w.heap.size w wc))
    case first =>
     have H := HC13.out
     clear HC13
     by_cases c14 : a3 = true
     ·subst c14
      have H1 : (platenlaw19_MotionSigns.j1 kj4 l0 a1 a2 108) = some r := by rw [if_pos rfl] at H; exact H
      clear H
      have H := H1
      clear H1
      have H' := Aside0.mk H
      clear H
      go_wp2
      go_meet
      case rel => exact ⟨_, (108), (by first | rfl | (simp; done) | (simp [*]; done)), H', ⟨by have := HJ4.out; first | omega | exact Nat.le_refl _⟩, ⟨by repeat (first | exact HB.out | apply bA | apply bN | apply bD)⟩⟩
     ·replace c14 := Bool.eq_false_iff.mpr c14
      subst c14
      have H1 : (platenlaw19_MotionSigns.j1 kj4 l0 a1 a2 104) = some r := by rw [if_neg (show ¬ (false = true) by decide)] at H; exact H
      clear H
      have H := H1
      clear H1
      have H' := Aside0.mk H
      clear H
      go_wp2
      go_meet
      case rel => exact ⟨_, (104), (by first | rfl | (simp; done) | (simp [*]; done)), H', ⟨by have := HJ4.out; first | omega | exact Nat.le_refl _⟩, ⟨by repeat (first | exact HB.out | apply bA | apply bN | apply bD)⟩⟩
    case rest =>
     clear HC13
     try clear c1
     try clear p2
     try clear c5
     try clear c7
     try clear c9
     try clear c10
     try clear c14
     try clear p2
     obtain ⟨kq, x9_12, rfl, HA, HJ12, HB⟩ := hcut
     cases kq with
     | zero => exact absurd HA.out (by simp [platenlaw19_MotionSigns.j1])
     | succ kj12 =>
      have H := HA.out
      clear HA
      simp only [platenlaw19_MotionSigns.j1] at H
      replace H := Option.bind_eq_some_iff.mp H
      obtain ⟨t492, A150, H⟩ := H
      replace H : ((motion_Go.f kj12 l0 t492 x9_12 0 (wrap64 ((Int.tmod (wrap64 (a2)) 9) + 1)) 8).bind fun bt493 => (platenlaw19_MotionSigns.l0 kj12 l0 x9_12 t492 (wrap64 ((Int.tmod (wrap64 (a2)) 9) + 1)) bt493.2.2.2 t492 0 0 bt493.1 bt493.2.1 bt493.2.2.1)) = some r := H
      have A15 := Aside0.mk A150
      clear A150
      replace H := Option.bind_eq_some_iff.mp H
      obtain ⟨⟨t493, t494, t495, t496⟩, A160, H⟩ := H
      replace H : (platenlaw19_MotionSigns.l0 kj12 l0 x9_12 t492 (wrap64 ((Int.tmod (wrap64 (a2)) 9) + 1)) t496 t492 0 0 t493 t494 t495) = some r := H
      have A16 := Aside0.mk A160
      clear A160
      have HC17 := Aside0.mk H
      clear H
      go_upto_block 0 with (first | ((with_reducible refine gate_callee (f := 12) rfl ?_); refine goesL_ (some 30) rfl rfl Tryd.func12 (by kernel_rfl) rfl #[.slice A0 l0.length c0, .int .i64 (wrap64 (a1))] rfl (by (try simp only [List.map_toArray, List.map_cons, List.map_nil]); first | done | rfl | (simp only [List.length_drop, List.length_take]; rfl)) ?_; (with_reducible refine (platenref01_Floor.calls kj12 _ _ l0 (wrap64 (a1)) t492 _ ?side1 ?side2 A15.out).mono ?_); (case side1 => repeat (first | exact (Kd.C_below HR0.out HB.out) | (with_reducible refine Kd.C_alloc ?_ _) | (with_reducible refine Kd.C_drewN ?_ _) | (with_reducible refine Kd.C_drew ?_))); (case side2 => exact HC0.out); rintro e w18 ⟨rfl, hb⟩; refine ⟨_, rfl, ?_⟩; have n0_ := Aside0.mk (below_step (by repeat (first | exact HB.out | apply bA | apply bN | apply bD)) hb); clear HB; have HB := n0_; clear n0_; (try clear hb); (try clear hb2); (try clear hk); (try clear hi)) | ((with_reducible refine gate_callee (f := 10) rfl ?_); refine goesL_ (some 41) rfl rfl Tryd.func10 (by kernel_rfl) rfl #[.slice A0 l0.length c0, .int .i64 t492, .agg #[.int .u8 x9_12, .int .u8 0, .int .i64 (wrap64 ((Int.tmod (wrap64 (a2)) 9) + 1))], .int .i64 8] rfl (by (try simp only [List.map_toArray, List.map_cons, List.map_nil]); first | done | rfl | (simp only [List.length_drop, List.length_take]; rfl)) ?_; (with_reducible refine (motion_Go.calls kj12 _ _ l0 t492 x9_12 0 (wrap64 ((Int.tmod (wrap64 (a2)) 9) + 1)) 8 t493 t494 t495 t496 _ ?side3 ?side1 ?side2 A16.out).mono ?_); (case side1 => repeat (first | exact (Kd.C_below HR0.out HB.out) | (with_reducible refine Kd.C_alloc ?_ _) | (with_reducible refine Kd.C_drewN ?_ _) | (with_reducible refine Kd.C_drew ?_))); (case side2 => exact HC0.out); (case side3 => exact Tabs.below HT.out (by repeat (first | exact HB.out | apply bA | apply bN | apply bD))); rintro e w19 ⟨rfl, hb⟩; refine ⟨_, rfl, ?_⟩; have n0_ := Aside0.mk (below_step (by repeat (first | exact HB.out | apply bA | apply bN | apply bD)) hb); clear HB; have HB := n0_; clear n0_; (try clear hb); (try clear hb2); (try clear hk); (try clear hi)) | ((with_reducible refine gate_dst (N := 12) rfl ?_); (try (refine gate_guard (by rfl) ?_; dsimp only)); refine box_event ?hg (N := 12) ?hd (cs := #[.int .i64 0, .bool false, .bool false]) (t := 25) ?hr ?_; (case hd => rfl); (case hg => rfl); (case hr => first | (go_simp; done) | (go_simp; rfl)); intro gb497 hg w20 hbox hb; have n0_ := Aside0.mk (below_step (by repeat (first | exact HB.out | apply bA | apply bN | apply bD)) hb); have n1_ := Aside0.mk (hbox); have n2_ := Aside0.mk ((by rw [hg]; exact (below_size (by repeat (first | exact HB.out | apply bA | apply bN | apply bD))) : w.heap.size ≤ gb497)); have n3_ := Aside0.mk ((by rw [hg]; exact (below_size (by repeat (first | exact HB.out | apply bA | apply bN | apply bD))) : w.heap.size ≤ gb497)); clear HB; have HB := n0_; have BK497 := n1_; have GW497 := n2_; have GE497 := n3_; clear n0_ n1_ n2_ n3_; clear hb hbox hg; have hcz21_0 : w20.cell? ⟨gb497, 0, none⟩ = some (.int .i64 0) := (blk_cell BK497.out 0).trans rfl; have hcz21_1 : w20.cell? ⟨gb497, 1, none⟩ = some (.bool false) := (blk_cell BK497.out 1).trans rfl; have hcz21_2 : w20.cell? ⟨gb497, 2, none⟩ = some (.bool false) := (blk_cell BK497.out 2).trans rfl; have hfz21_0 := blk_frozen BK497.out 0; have hfz21_1 := blk_frozen BK497.out 1; have hfz21_2 := blk_frozen BK497.out 2))
      (try simp only [Act.put, zT, z0, zS])
      go_cut [14, 15] (fun v14 v15 wc => ∃ (kq : Nat) (x14_16 : Int) (x15_16 : Int), v14 = .int .i64 x14_16 ∧ v15 = .int .i64 x15_16 ∧ Aside0 (platenlaw19_MotionSigns.j3 kq l0 t492 t496 x14_16 x15_16 t493 t494 t495 = some r) ∧ Aside0 (kq ≤ kj12) ∧ Aside0 (wc.heap[gb497]? = some (.cells #[.int .i64 t493, .bool t494, .bool t495] 25 (0, 0))) ∧ Aside0 (Below w.heap.size w wc))
      case first =>
       have H := HC17.out
       clear HC17
       have H' := Aside0.mk H
       clear H
       go_wp2
       go_loopg [14, 15, 16] kj12 (fun kq v14 v15 v16 w' => ∃ (x14_3 : Int) (x15_3 : Int) (x16_3 : Int), v14 = .int .i64 x14_3 ∧ v15 = .int .i64 x15_3 ∧ v16 = .int .i64 x16_3 ∧ Aside0 (platenlaw19_MotionSigns.l0 kq l0 x9_12 t492 (wrap64 ((Int.tmod (wrap64 (a2)) 9) + 1)) t496 x14_3 x15_3 x16_3 t493 t494 t495 = some r) ∧ Aside0 (kq ≤ kj12) ∧ Aside0 (w'.heap[gb497]? = some (.cells #[.int .i64 t493, .bool t494, .bool t495] 25 (0, 0))) ∧ Aside0 (Below w.heap.size w w'))
       case atStart => exact ⟨(t492), (0), (0), (by first | rfl | (simp; done) | (simp [*]; done)), (by first | rfl | (simp; done) | (simp [*]; done)), (by first | rfl | (simp; done) | (simp [*]; done)), H', ⟨Nat.le_refl _⟩, ⟨by (with_reducible repeat (first | refine kN ?_ _ | refine kD ?_ | refine kA ?_ _)); refine blk_put (cs := #[.int .i64 t493, .bool t494, .bool false]) ?_ 2 _ rfl; (with_reducible repeat (first | refine kN ?_ _ | refine kD ?_ | refine kA ?_ _)); refine blk_put (cs := #[.int .i64 t493, .bool false, .bool false]) ?_ 1 _ rfl; (with_reducible repeat (first | refine kN ?_ _ | refine kD ?_ | refine kA ?_ _)); refine blk_put (cs := #[.int .i64 0, .bool false, .bool false]) ?_ 0 _ rfl; (with_reducible repeat (first | refine kN ?_ _ | refine kD ?_ | refine kA ?_ _)); exact BK497.out⟩, ⟨by repeat (first | exact HB.out | apply bA | apply bN | apply bD | refine bS ?_ GE497.out)⟩⟩
       case round =>
        clear H'
        try clear c1
        try clear p2
        try clear c5
        try clear p6
        try clear c7
        try clear c9
        try clear c10
        try clear c12
        try clear c14
        try clear hcz21_0
        try clear hcz21_1
        try clear hcz21_2
        try clear hfz21_0
        try clear hfz21_1
        try clear hfz21_2
        try clear p2
        obtain ⟨x14_3, x15_3, x16_3, rfl, rfl, rfl, HA, HK3, BK497, HB⟩ := hrel
        cases gk with
        | zero => exact absurd HA.out (by simp [platenlaw19_MotionSigns.l0])
        | succ k3 =>
         have H := HA.out
         clear HA
         simp only [platenlaw19_MotionSigns.l0] at H
         by_cases c22 : x16_3 < (wrap64 ((Int.tmod (wrap64 (a2)) 9) + 1))
         ·rw [if_pos c22] at H
          have c22b0 : decide (x16_3 < (wrap64 ((Int.tmod (wrap64 (a2)) 9) + 1))) = true := decide_eq_true c22
          clear c22
          (first | rw [c22b0] | (simp only [i64_w, i32_w]; rw [c22b0]) | skip)
          by_cases c23 : x15_3 = 0
          ·rw [if_pos c23] at H
           have c23b0 : (x15_3 == 0) = true := beq_iff_eq.mpr c23
           have c23b1 : (x15_3 != 0) = false := bne_eq_false_iff_eq.mpr c23
           clear c23
           replace H := Option.bind_eq_some_iff.mp H
           obtain ⟨⟨t499, t500, t501, t502⟩, A240, H⟩ := H
           replace H : (platenlaw19_MotionSigns.l0 k3 l0 x9_12 t492 (wrap64 ((Int.tmod (wrap64 (a2)) 9) + 1)) t496 t499 t502 (wrap64 (x16_3 + 1)) t493 t494 t495) = some r := H
           have A24 := Aside0.mk A240
           clear A240
           have H' := Aside0.mk H
           clear H
           go_wp2_with (first | ((with_reducible refine gate_dst (N := 17) rfl ?_); (try (refine gate_guard (by rfl) ?_; dsimp only)); refine box_event ?hg (N := 17) ?hd (cs := #[.int .i64 0, .bool false, .bool false]) (t := 25) ?hr ?_; (case hd => rfl); (case hg => rfl); (case hr => first | (go_simp; done) | (go_simp; rfl)); intro gb498 hg w25 hbox hb; have n0_ := Aside0.mk (blk_below (g := gb497) (o := .cells #[.int .i64 t493, .bool t494, .bool t495] 25 (0, 0)) (by (with_reducible repeat (first | refine kN ?_ _ | refine kD ?_ | refine kA ?_ _)); exact BK497.out) hb); have n1_ := Aside0.mk (below_step (by repeat (first | exact HB.out | apply bA | apply bN | apply bD | refine bS ?_ GE497.out)) hb); have n2_ := Aside0.mk (hbox); have n3_ := Aside0.mk ((by rw [hg]; exact (below_size (by repeat (first | exact HB.out | apply bA | apply bN | apply bD | refine bS ?_ GE497.out))) : w.heap.size ≤ gb498)); have n4_ := Aside0.mk ((by rw [hg]; exact (below_size (by repeat (first | exact HB.out | apply bA | apply bN | apply bD | refine bS ?_ GE497.out))) : w.heap.size ≤ gb498)); have n5_ := Aside0.mk ((by rw [hg]; exact Nat.ne_of_lt (blk_lt (g := gb497) (o := .cells #[.int .i64 t493, .bool t494, .bool t495] 25 (0, 0)) (by (with_reducible repeat (first | refine kN ?_ _ | refine kD ?_ | refine kA ?_ _)); exact BK497.out)) : gb497 ≠ gb498)); have n6_ := Aside0.mk ((by rw [hg]; exact Nat.ne_of_gt (blk_lt (g := gb497) (o := .cells #[.int .i64 t493, .bool t494, .bool t495] 25 (0, 0)) (by (with_reducible repeat (first | refine kN ?_ _ | refine kD ?_ | refine kA ?_ _)); exact BK497.out)) : gb498 ≠ gb497)); clear BK497; clear HB; have BK497 := n0_; have HB := n1_; have BK498 := n2_; have GW498 := n3_; have GE498 := n4_; have NB497_498 := n5_; have NB498_497 := n6_; clear n0_ n1_ n2_ n3_ n4_ n5_ n6_; clear hb hbox hg) | ((with_reducible refine gate_callee (f := 10) rfl ?_); refine goesL_ (some 59) rfl rfl Tryd.func10 (by kernel_rfl) rfl #[.slice A0 l0.length c0, .int .i64 x14_3, .agg #[.int .u8 x9_12, .int .u8 0, .int .i64 0], .int .i64 8] rfl (by (try simp only [List.map_toArray, List.map_cons, List.map_nil]); first | done | rfl | (simp only [List.length_drop, List.length_take]; rfl)) ?_; (with_reducible refine (motion_Go.calls k3 _ _ l0 x14_3 x9_12 0 0 8 t499 t500 t501 t502 _ ?side3 ?side1 ?side2 A24.out).mono ?_); (case side1 => repeat (first | exact (Kd.C_below HR0.out HB.out) | (with_reducible refine Kd.C_alloc ?_ _) | (with_reducible refine Kd.C_drewN ?_ _) | (with_reducible refine Kd.C_drew ?_))); (case side2 => exact HC0.out); (case side3 => exact Tabs.below HT.out (by repeat (first | (with_reducible first | exact HB.out | apply below_alloc | apply pw_below_drewN | apply below_drew1 | refine below_set ?_ GE497.out | refine below_set ?_ GE498.out) | exact HB.out))); rintro e w26 ⟨rfl, hb⟩; refine ⟨_, rfl, ?_⟩; have n0_ := Aside0.mk (blk_below (g := gb497) (o := .cells #[.int .i64 t493, .bool t494, .bool t495] 25 (0, 0)) (by (with_reducible repeat (first | refine kN ?_ _ | refine kD ?_ | refine kA ?_ _)); exact BK497.out) hb); have n1_ := Aside0.mk (blk_below (g := gb498) (o := .cells #[.int .i64 0, .bool false, .bool false] 25 (0, 0)) (by (with_reducible repeat (first | refine kN ?_ _ | refine kD ?_ | refine kA ?_ _)); exact BK498.out) hb); have n2_ := Aside0.mk (below_step (by repeat (first | (with_reducible first | exact HB.out | apply below_alloc | apply pw_below_drewN | apply below_drew1 | refine below_set ?_ GE497.out | refine below_set ?_ GE498.out) | exact HB.out)) hb); clear BK497; clear BK498; clear HB; have BK497 := n0_; have BK498 := n1_; have HB := n2_; clear n0_ n1_ n2_; (try clear hb); (try clear hb2); (try clear hk); (try clear hi); have hnb27 := NB498_497.out; have hnc27 := NB497_498.out; have hcz28_0 : w26.cell? ⟨gb498, 0, none⟩ = some (.int .i64 0) := (blk_cell BK498.out 0).trans rfl; have hcz28_1 : w26.cell? ⟨gb498, 1, none⟩ = some (.bool false) := (blk_cell BK498.out 1).trans rfl; have hcz28_2 : w26.cell? ⟨gb498, 2, none⟩ = some (.bool false) := (blk_cell BK498.out 2).trans rfl; have hfz28_0 := blk_frozen BK498.out 0; have hfz28_1 := blk_frozen BK498.out 1; have hfz28_2 := blk_frozen BK498.out 2))
           go_roundg k3
           case measure => have := HJ4.out; have := HJ12.out; have := HK3.out; omega
           case rel => exact ⟨(t499), (t502), (wrap64 (x16_3 + 1)), (by first | rfl | (simp; done) | (simp [*]; done)), (by first | rfl | (simp; done) | (simp [*]; done)), (by first | rfl | (simp; done) | (simp [*]; done)), H', ⟨by have := HJ4.out; have := HJ12.out; have := HK3.out; omega⟩, ⟨by (with_reducible repeat (first | refine kN ?_ _ | refine kD ?_ | refine kA ?_ _)); refine blk_far ?_ NB497_498.out _; (with_reducible repeat (first | refine kN ?_ _ | refine kD ?_ | refine kA ?_ _)); refine blk_far ?_ NB497_498.out _; (with_reducible repeat (first | refine kN ?_ _ | refine kD ?_ | refine kA ?_ _)); refine blk_far ?_ NB497_498.out _; (with_reducible repeat (first | refine kN ?_ _ | refine kD ?_ | refine kA ?_ _)); exact BK497.out⟩, ⟨by repeat (first | (with_reducible first | exact HB.out | apply below_alloc | apply pw_below_drewN | apply below_drew1 | refine below_set ?_ GE497.out | refine below_set ?_ GE498.out) | exact HB.out)⟩⟩
          ·rw [if_neg c23] at H
           have c23b0 : (x15_3 == 0) = false := beq_eq_false_iff_ne.mpr c23
           have c23b1 : (x15_3 != 0) = true := bne_iff_ne.mpr c23
           have H' := Aside0.mk H
           clear H
           go_wp2
           go_meet
           case rel => exact ⟨_, (x14_3), (x15_3), (by first | rfl | (simp; done) | (simp [*]; done)), (by first | rfl | (simp; done) | (simp [*]; done)), H', ⟨by have := HJ4.out; have := HJ12.out; have := HK3.out; first | omega | exact Nat.le_refl _⟩, ⟨by (with_reducible repeat (first | refine kN ?_ _ | refine kD ?_ | refine kA ?_ _)); exact BK497.out⟩, ⟨by repeat (first | exact HB.out | apply bA | apply bN | apply bD | refine bS ?_ GE497.out)⟩⟩
         ·rw [if_neg c22] at H
          have c22b0 : decide (x16_3 < (wrap64 ((Int.tmod (wrap64 (a2)) 9) + 1))) = false := decide_eq_false c22
          clear c22
          (first | rw [c22b0] | (simp only [i64_w, i32_w]; rw [c22b0]) | skip)
          have H' := Aside0.mk H
          clear H
          go_wp2
          go_meet
          case rel => exact ⟨_, (x14_3), (x15_3), (by first | rfl | (simp; done) | (simp [*]; done)), (by first | rfl | (simp; done) | (simp [*]; done)), H', ⟨by have := HJ4.out; have := HJ12.out; have := HK3.out; first | omega | exact Nat.le_refl _⟩, ⟨by (with_reducible repeat (first | refine kN ?_ _ | refine kD ?_ | refine kA ?_ _)); exact BK497.out⟩, ⟨by repeat (first | exact HB.out | apply bA | apply bN | apply bD | refine bS ?_ GE497.out)⟩⟩
      case rest =>
       clear HC17
       try clear c1
       try clear c2
       try clear p2
       try clear c5
       try clear p6
       try clear c7
       try clear c9
       try clear c10
       try clear c12
       try clear c14
       try clear c22
       try clear c22b0
       try clear c23
       try clear c23b0
       try clear c23b1
       try clear c27
       try clear hcz21_0
       try clear hcz21_1
       try clear hcz21_2
       try clear hcz28_0
       try clear hcz28_1
       try clear hcz28_2
       try clear hfz21_0
       try clear hfz21_1
       try clear hfz21_2
       try clear hfz28_0
       try clear hfz28_1
       try clear hfz28_2
       try clear p2
       try clear p6
       obtain ⟨kq, x14_16, x15_16, rfl, rfl, HA, HJ16, BK497, HB⟩ := hcut
       cases kq with
       | zero => exact absurd HA.out (by simp [platenlaw19_MotionSigns.j3])
       | succ kj16 =>
        have H := HA.out
        clear HA
        simp only [platenlaw19_MotionSigns.j3] at H
        by_cases c29 : t496 = x15_16
        ·rw [if_pos c29] at H
         have c29b0 : (t496 == x15_16) = true := beq_iff_eq.mpr c29
         have c29b1 : (t496 != x15_16) = false := bne_eq_false_iff_eq.mpr c29
         clear c29
         by_cases c30 : t496 = 0
         ·rw [if_pos c30] at H
          have c30b0 : (t496 == 0) = true := beq_iff_eq.mpr c30
          have c30b1 : (t496 != 0) = false := bne_eq_false_iff_eq.mpr c30
          clear c30
          by_cases c31 : t493 = x14_16
          ·rw [if_pos c31] at H
           have c31b0 : (t493 == x14_16) = true := beq_iff_eq.mpr c31
           have c31b1 : (t493 != x14_16) = false := bne_eq_false_iff_eq.mpr c31
           clear c31
           replace H := Option.bind_eq_some_iff.mp H
           obtain ⟨t503, A320, H⟩ := H
           replace H : ((platenref03_Of.f kj16 l0 t492).bind fun t504 => (some (t503 == t504))) = some r := H
           have A32 := Aside0.mk A320
           clear A320
           replace H := Option.bind_eq_some_iff.mp H
           obtain ⟨t504, A330, H⟩ := H
           replace H : (some (t503 == t504)) = some r := H
           have A33 := Aside0.mk A330
           clear A330
           obtain rfl := Option.some.inj H
           have hcz34_0 : wc.cell? ⟨gb497, 0, none⟩ = some (.int .i64 t493) := (blk_cell BK497.out 0).trans rfl
           have hcz34_1 : wc.cell? ⟨gb497, 1, none⟩ = some (.bool t494) := (blk_cell BK497.out 1).trans rfl
           have hcz34_2 : wc.cell? ⟨gb497, 2, none⟩ = some (.bool t495) := (blk_cell BK497.out 2).trans rfl
           have hfz34_0 := blk_frozen BK497.out 0
           have hfz34_1 := blk_frozen BK497.out 1
           have hfz34_2 := blk_frozen BK497.out 2
           go_wp2_with (first | (go_at_call 13; (with_reducible refine (platenref03_Of.calls kj16 _ _ l0 x14_16 t503 _ ?side1 ?side2 A32.out).mono ?_); (case side1 => repeat (first | exact (Kd.C_below HR0.out HB.out) | (with_reducible refine Kd.C_alloc ?_ _) | (with_reducible refine Kd.C_drewN ?_ _) | (with_reducible refine Kd.C_drew ?_))); (case side2 => exact HC0.out); rintro e w35 ⟨rfl, hb⟩; have n0_ := Aside0.mk (blk_below (g := gb497) (o := .cells #[.int .i64 t493, .bool t494, .bool t495] 25 (0, 0)) (by (with_reducible repeat (first | refine kN ?_ _ | refine kD ?_ | refine kA ?_ _)); exact BK497.out) hb); have n1_ := Aside0.mk (below_step (by repeat (first | exact HB.out | apply bA | apply bN | apply bD | refine bS ?_ GE497.out)) hb); clear BK497; clear HB; have BK497 := n0_; have HB := n1_; clear n0_ n1_; (try clear hb); (try clear hb2); (try clear hk); (try clear hi)) | (go_at_call 13; (with_reducible refine (platenref03_Of.calls kj16 _ _ l0 t492 t504 _ ?side1 ?side2 A33.out).mono ?_); (case side1 => repeat (first | exact (Kd.C_below HR0.out HB.out) | (with_reducible refine Kd.C_alloc ?_ _) | (with_reducible refine Kd.C_drewN ?_ _) | (with_reducible refine Kd.C_drew ?_))); (case side2 => exact HC0.out); rintro e w36 ⟨rfl, hb⟩; have n0_ := Aside0.mk (blk_below (g := gb497) (o := .cells #[.int .i64 t493, .bool t494, .bool t495] 25 (0, 0)) (by (with_reducible repeat (first | refine kN ?_ _ | refine kD ?_ | refine kA ?_ _)); exact BK497.out) hb); have n1_ := Aside0.mk (below_step (by repeat (first | exact HB.out | apply bA | apply bN | apply bD | refine bS ?_ GE497.out)) hb); clear BK497; clear HB; have BK497 := n0_; have HB := n1_; clear n0_ n1_; (try clear hb); (try clear hb2); (try clear hk); (try clear hi)))
           go_ret
           exact ⟨by first | rfl | (simp [errW_none, errW_some] <;> rfl) | (simp [*, errW_none, errW_some] <;> rfl), by repeat (first | exact HB.out | apply bA | apply bN | apply bD | refine bS ?_ GE497.out)⟩
          ·rw [if_neg c31] at H
           have c31b0 : (t493 == x14_16) = false := beq_eq_false_iff_ne.mpr c31
           have c31b1 : (t493 != x14_16) = true := bne_iff_ne.mpr c31
           obtain rfl := Option.some.inj H
           have hcz37_0 : wc.cell? ⟨gb497, 0, none⟩ = some (.int .i64 t493) := (blk_cell BK497.out 0).trans rfl
           have hcz37_1 : wc.cell? ⟨gb497, 1, none⟩ = some (.bool t494) := (blk_cell BK497.out 1).trans rfl
           have hcz37_2 : wc.cell? ⟨gb497, 2, none⟩ = some (.bool t495) := (blk_cell BK497.out 2).trans rfl
           have hfz37_0 := blk_frozen BK497.out 0
           have hfz37_1 := blk_frozen BK497.out 1
           have hfz37_2 := blk_frozen BK497.out 2
           go_wp2
           go_ret
           exact ⟨by first | rfl | (simp [errW_none, errW_some] <;> rfl) | (simp [*, errW_none, errW_some] <;> rfl), by repeat (first | exact HB.out | apply bA | apply bN | apply bD | refine bS ?_ GE497.out)⟩
         ·rw [if_neg c30] at H
          have c30b0 : (t496 == 0) = false := beq_eq_false_iff_ne.mpr c30
          have c30b1 : (t496 != 0) = true := bne_iff_ne.mpr c30
          obtain rfl := Option.some.inj H
          go_wp2
          go_ret
          exact ⟨by first | rfl | (simp [errW_none, errW_some] <;> rfl) | (simp [*, errW_none, errW_some] <;> rfl), by repeat (first | exact HB.out | apply bA | apply bN | apply bD | refine bS ?_ GE497.out)⟩
        ·rw [if_neg c29] at H
         have c29b0 : (t496 == x15_16) = false := beq_eq_false_iff_ne.mpr c29
         have c29b1 : (t496 != x15_16) = true := bne_iff_ne.mpr c29
         obtain rfl := Option.some.inj H
         go_wp2
         go_ret
         exact ⟨by first | rfl | (simp [errW_none, errW_some] <;> rfl) | (simp [*, errW_none, errW_some] <;> rfl), by repeat (first | exact HB.out | apply bA | apply bN | apply bD | refine bS ?_ GE497.out)⟩

/-- THE ONE PURE STATEMENT of platenlaw19_MotionSigns: yours. -/
def platenlaw19_MotionSigns.Pure : Prop := ∀ (l0 : List Int) (a1 : Int) (a2 : Int) (a3 : Bool), l0.length ≤ maxLen → l0.length * 1 ≤ 140737488351232 → (∀ x ∈ l0, (Lit.int .u8 x).wf = true) → (Lit.int .u8 a1).wf = true → (Lit.int .u8 a2).wf = true → ∃ k, platenlaw19_MotionSigns.f k l0 a1 a2 a3 = some true
theorem platenlaw19_MotionSigns.walk (P : platenlaw19_MotionSigns.Pure) (a0 : Option Addr) (len0 cap0 : Nat) (z0 : List Int) (a1 : Int) (a2 : Int) (a3 : Bool) (w : World) (hT : Tabs w) (w0 : (a0 = none ∧ len0 = 0 ∧ cap0 = 0 ∧ z0 = []) ∨ ∃ x, a0 = some x ∧ len0 ≤ cap0 ∧ cap0 ≤ maxLen ∧ z0.length = cap0 ∧ (∀ i, i < z0.length → w.cell? (x.add i) = some (.int .u8 (z0.getD i 0))) ∧ ∀ n ∈ z0, (Lit.int .u8 n).wf = true) (y0 : len0 * 1 ≤ 140737488351232) (w1 : (Lit.int .u8 a1).wf = true) (w2 : (Lit.int .u8 a2).wf = true) :
  Calls Tryd.prog 5 #[.slice a0 len0 cap0, .int .u8 a1, .int .u8 a2, .bool a3] w fun e w' => e = .returned (.bool true) ∧ Below w.heap.size w w' := by
 obtain ⟨l0, rfl, hr0, hm0, hw0, hc0⟩ := ReadsInt.ofRowC w0
 obtain ⟨k, h⟩ := P l0 a1 a2 a3 hm0 y0 hw0 w1 w2
 refine (platenlaw19_MotionSigns.calls k _ _ l0 a1 a2 a3 true w hT (Kd.C_of_reads (d := (0 : Int)) (h1 := fun _ => rfl) hr0) hc0 h).mono ?_
 rintro e w' ⟨rfl, hd⟩
 exact ⟨rfl, hd⟩

end Go.Proofs.YtloafpnniooliaaDoor.Pa
