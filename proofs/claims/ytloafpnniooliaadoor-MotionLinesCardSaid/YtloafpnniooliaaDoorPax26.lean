-- Laid by a program of this claim's own (wip/tools/mkprint.py, ext.py): walks of the functions that the statements reach.
import Derived.Test.YtloafpnniooliaaDoorPax0
import Derived.Test.YtloafpnniooliaaDoorPax10
import Derived.Test.YtloafpnniooliaaDoorPax11
import Derived.Test.YtloafpnniooliaaDoorPax12
import Derived.Test.YtloafpnniooliaaDoorPax13
import Derived.Test.YtloafpnniooliaaDoorPax14
import Derived.Test.YtloafpnniooliaaDoorPax15
namespace Go.Proofs.YtloafpnniooliaaDoor.Pa
open Go.RowKit Go.Proofs.YtloafpnniooliaaDoor.Ext Go.Proofs.YtloafpnniooliaaDoorW.PrintWords Go.Proofs.YtloafpnniooliaaDoorW.PrintLast Go.Proofs.YtloafpnniooliaaDoorW.PrintMore
attribute [local go_sem] max2_int min2_int max_two min_two max_three min_three max_four min_four   -- for this text's walks alone
set_option linter.unusedVariables false
set_option linter.unusedSimpArgs false

/-! ### platenlaw19_MotionLines: function 6 -/
mutual
def platenlaw19_MotionLines.j0 : Nat → List Int → Int → Int → Int → Bool → Option (Bool)
  | 0, _, _, _, _, _ => none
  | k + 1, x0, x1, x2, x3, x24 => if x24 = true then ((platenlaw19_steps.f k).bind fun t506 => (some t506)) else ((platenref01_Floor.f k x0 (wrap64 (x1))).bind fun t507 => ((platenref03_Of.f k x0 t507).bind fun t508 => ((motion_Go.f k x0 t507 106 0 (wrap64 ((Int.tmod (wrap64 (x2)) 4) + 1)) (wrap64 ((Int.tmod (wrap64 (x3)) 16) + 1))).bind fun bt509 => ((platenref03_Spans.f k x0).bind fun t514 => (if (wrap64 (t508 + (wrap64 ((Int.tmod (wrap64 (x2)) 4) + 1)))) ≥ (t514.length : Int) then (some (bt509.2.2.2 == 2)) else (if bt509.2.2.2 = 0 then ((platenref03_Of.f k x0 bt509.1).bind fun t517 => (if t517 = (wrap64 (t508 + (wrap64 ((Int.tmod (wrap64 (x2)) 4) + 1)))) then (platenlaw19_MotionLines.j1 k x0 t507 (wrap64 ((Int.tmod (wrap64 (x3)) 16) + 1)) (wrap64 ((Int.tmod (wrap64 (x2)) 4) + 1)) t508 t514 (!bt509.2.1) bt509.1 bt509.2.1 bt509.2.2.1) else (platenlaw19_MotionLines.j1 k x0 t507 (wrap64 ((Int.tmod (wrap64 (x3)) 16) + 1)) (wrap64 ((Int.tmod (wrap64 (x2)) 4) + 1)) t508 t514 true bt509.1 bt509.2.1 bt509.2.2.1))) else (platenlaw19_MotionLines.j1 k x0 t507 (wrap64 ((Int.tmod (wrap64 (x3)) 16) + 1)) (wrap64 ((Int.tmod (wrap64 (x2)) 4) + 1)) t508 t514 true bt509.1 bt509.2.1 bt509.2.2.1)))))))
def platenlaw19_MotionLines.j1 : Nat → List Int → Int → Int → Int → Int → List (S39) → Bool → Int → Bool → Bool → Option (Bool)
  | 0, _, _, _, _, _, _, _, _, _, _ => none
  | k + 1, x0, x9, x10, x11, x12, x15, x76, x514000, x514001, x514002 => if x76 = true then (some false) else (if 0 ≤ (wrap64 (x12 + x11)) then (if (wrap64 (x12 + x11)) < (x15.length : Int) then ((platenref03_Column.f k x0 x9 x10).bind fun t520 => ((platenref03_Column.f k x0 x514000 x10).bind fun t521 => (if t521 ≤ t520 then (if x514000 = (wrap64 (((rd_T39 x15 (wrap64 (x12 + x11))).f0) + ((rd_T39 x15 (wrap64 (x12 + x11))).f1))) then (some true) else ((platenref01_Size.f k x0 x514000).bind fun t522 => ((platenref03_Column.f k x0 (wrap64 (x514000 + t522)) x10).bind fun t523 => (some (decide (t523 > t520)))))) else (some false)))) else (none)) else (none))
end
def platenlaw19_MotionLines.f (k : Nat) (l0 : List Int) (a1 : Int) (a2 : Int) (a3 : Int) : Option (Bool) := (platenlaw19_steps.f k).bind fun t505 => (if t505 = true then (platenlaw19_MotionLines.j0 k l0 a1 a2 a3 (decide ((l0.length : Int) > 200))) else (platenlaw19_MotionLines.j0 k l0 a1 a2 a3 true))
theorem platenlaw19_MotionLines.mono_l : ∀ k, (∀ y0 y1 y2 y3 y4, LeO (platenlaw19_MotionLines.j0 k y0 y1 y2 y3 y4) (platenlaw19_MotionLines.j0 (k + 1) y0 y1 y2 y3 y4)) ∧ (∀ y0 y1 y2 y3 y4 y5 y6 y7 y8 y9, LeO (platenlaw19_MotionLines.j1 k y0 y1 y2 y3 y4 y5 y6 y7 y8 y9) (platenlaw19_MotionLines.j1 (k + 1) y0 y1 y2 y3 y4 y5 y6 y7 y8 y9))
  | 0 => ⟨fun _ _ _ _ _ r h => by simp [platenlaw19_MotionLines.j0] at h, fun _ _ _ _ _ _ _ _ _ _ r h => by simp [platenlaw19_MotionLines.j1] at h⟩
  | k + 1 => by
    obtain ⟨ih0, ih1⟩ := platenlaw19_MotionLines.mono_l k
    refine ⟨?_, ?_⟩
    · intro y0 y1 y2 y3 y4
      unfold platenlaw19_MotionLines.j0
      repeat' first
      | (with_reducible exact ih0 _ _ _ _ _)
      | (with_reducible exact ih1 _ _ _ _ _ _ _ _ _ _)
      | (with_reducible exact motion_Go.mono _ _ _ _ _ _ _)
      | (with_reducible exact platenlaw19_steps.mono _)
      | (with_reducible exact platenref01_Floor.mono _ _ _)
      | (with_reducible exact platenref01_Size.mono _ _ _)
      | (with_reducible exact platenref03_Column.mono _ _ _ _)
      | (with_reducible exact platenref03_Of.mono _ _ _)
      | (with_reducible exact platenref03_Spans.mono _ _)
      | (with_reducible exact LeO.refl _)
      | (with_reducible exact LeO.none _)
      | (with_reducible refine LeO.ite ?_ ?_)
      | (with_reducible refine LeO.bind ?_ (fun _ => ?_))
      | exact ih0 _ _ _ _ _
      | exact ih1 _ _ _ _ _ _ _ _ _ _
      | exact motion_Go.mono _ _ _ _ _ _ _
      | exact platenlaw19_steps.mono _
      | exact platenref01_Floor.mono _ _ _
      | exact platenref01_Size.mono _ _ _
      | exact platenref03_Column.mono _ _ _ _
      | exact platenref03_Of.mono _ _ _
      | exact platenref03_Spans.mono _ _
      | exact LeO.none _
      | refine LeO.ite ?_ ?_
      | refine LeO.bind ?_ (fun _ => ?_)
    · intro y0 y1 y2 y3 y4 y5 y6 y7 y8 y9
      unfold platenlaw19_MotionLines.j1
      repeat' first
      | (with_reducible exact ih0 _ _ _ _ _)
      | (with_reducible exact ih1 _ _ _ _ _ _ _ _ _ _)
      | (with_reducible exact motion_Go.mono _ _ _ _ _ _ _)
      | (with_reducible exact platenlaw19_steps.mono _)
      | (with_reducible exact platenref01_Floor.mono _ _ _)
      | (with_reducible exact platenref01_Size.mono _ _ _)
      | (with_reducible exact platenref03_Column.mono _ _ _ _)
      | (with_reducible exact platenref03_Of.mono _ _ _)
      | (with_reducible exact platenref03_Spans.mono _ _)
      | (with_reducible exact LeO.refl _)
      | (with_reducible exact LeO.none _)
      | (with_reducible refine LeO.ite ?_ ?_)
      | (with_reducible refine LeO.bind ?_ (fun _ => ?_))
      | exact ih0 _ _ _ _ _
      | exact ih1 _ _ _ _ _ _ _ _ _ _
      | exact motion_Go.mono _ _ _ _ _ _ _
      | exact platenlaw19_steps.mono _
      | exact platenref01_Floor.mono _ _ _
      | exact platenref01_Size.mono _ _ _
      | exact platenref03_Column.mono _ _ _ _
      | exact platenref03_Of.mono _ _ _
      | exact platenref03_Spans.mono _ _
      | exact LeO.none _
      | refine LeO.ite ?_ ?_
      | refine LeO.bind ?_ (fun _ => ?_)
theorem platenlaw19_MotionLines.mono : ∀ a0 a1 a2 a3 k, LeO (platenlaw19_MotionLines.f k a0 a1 a2 a3) (platenlaw19_MotionLines.f (k + 1) a0 a1 a2 a3) := by
  intro a0 a1 a2 a3 k
  obtain ⟨ih0, ih1⟩ := platenlaw19_MotionLines.mono_l k
  unfold platenlaw19_MotionLines.f
  repeat' first
      | (with_reducible exact ih0 _ _ _ _ _)
      | (with_reducible exact ih1 _ _ _ _ _ _ _ _ _ _)
      | (with_reducible exact motion_Go.mono _ _ _ _ _ _ _)
      | (with_reducible exact platenlaw19_steps.mono _)
      | (with_reducible exact platenref01_Floor.mono _ _ _)
      | (with_reducible exact platenref01_Size.mono _ _ _)
      | (with_reducible exact platenref03_Column.mono _ _ _ _)
      | (with_reducible exact platenref03_Of.mono _ _ _)
      | (with_reducible exact platenref03_Spans.mono _ _)
      | (with_reducible exact LeO.refl _)
      | (with_reducible exact LeO.none _)
      | (with_reducible refine LeO.ite ?_ ?_)
      | (with_reducible refine LeO.bind ?_ (fun _ => ?_))
      | exact ih0 _ _ _ _ _
      | exact ih1 _ _ _ _ _ _ _ _ _ _
      | exact motion_Go.mono _ _ _ _ _ _ _
      | exact platenlaw19_steps.mono _
      | exact platenref01_Floor.mono _ _ _
      | exact platenref01_Size.mono _ _ _
      | exact platenref03_Column.mono _ _ _ _
      | exact platenref03_Of.mono _ _ _
      | exact platenref03_Spans.mono _ _
      | exact LeO.none _
      | refine LeO.ite ?_ ?_
      | refine LeO.bind ?_ (fun _ => ?_)
def platenlaw19_MotionLines.T13 : Bool × List (List Nat × List Nat) := (true, [([], []), ([0], [0]), ([], []), ([], []), ([], []), ([3, 4], [3, 4]), ([2, 5], [2, 5]), ([6], [6]), ([7], [7]), ([], []), ([], []), ([], []), ([10, 11], [10, 11]), ([9, 12], [9, 12]), ([13], [13]), ([14], [14]), ([8, 15], [8, 15]), ([1, 16], [1, 16]), ([17, 0, 1, 2, 3, 4, 5, 6, 7, 8, 9, 10, 11, 12, 13, 14, 15, 16, 17], [17])])
def platenlaw19_MotionLines.B13 : List Nat := [0, 1, 0, 0, 0, 24, 60, 124, 252, 0, 0, 0, 3072, 7680, 15872, 32256, 65532, 131071, 262143]
theorem platenlaw19_MotionLines.tab13 : rtab .any (opsOf Tryd.f6 13) = platenlaw19_MotionLines.T13 := by kernel_rfl
theorem platenlaw19_MotionLines.bits13 : waitsOk platenlaw19_MotionLines.T13.2 platenlaw19_MotionLines.B13 = true := by kernel_rfl
def platenlaw19_MotionLines.T15 : Bool × List (List Nat × List Nat) := (true, [([], []), ([], []), ([1], [1]), ([], []), ([0, 2, 3], [0, 2, 3]), ([], []), ([4, 5], [4, 5]), ([6, 4], [6]), ([7], [7]), ([8, 7, 7], [7, 8]), ([9], [9]), ([9], [9]), ([11, 9], [9, 11]), ([9], [9]), ([9], [9]), ([14, 9], [9, 14]), ([13, 15, 9, 9], [9, 13, 15]), ([12, 16, 9], [9, 12, 16]), ([9], [9]), ([10, 17, 18, 16, 9], [9, 10, 17, 18]), ([9], [9]), ([19, 20, 9], [9, 19, 20]), ([9, 21, 7], [7, 9, 21]), ([7, 22], [7, 22]), ([23, 19, 0, 1, 2, 3, 4, 5, 6, 7, 8, 9, 10, 11, 12, 13, 14, 15, 16, 17, 18, 19, 20, 21, 22, 23], [23])])
def platenlaw19_MotionLines.B15 : List Nat := [0, 0, 2, 0, 15, 0, 63, 127, 255, 511, 1023, 1023, 3071, 1023, 1023, 17407, 58367, 130047, 1023, 524287, 1023, 2097151, 4194303, 8388607, 16777215]
theorem platenlaw19_MotionLines.tab15 : rtab .any (opsOf Tryd.f6 15) = platenlaw19_MotionLines.T15 := by kernel_rfl
theorem platenlaw19_MotionLines.bits15 : waitsOk platenlaw19_MotionLines.T15.2 platenlaw19_MotionLines.B15 = true := by kernel_rfl
set_option maxHeartbeats 8000000 in
set_option maxRecDepth 100000 in
theorem platenlaw19_MotionLines.calls (k : Nat) (A0 : Option Addr) (c0 : Nat) (l0 : List Int) (a1 : Int) (a2 : Int) (a3 : Int) (r : Bool) (w : World) (hT : Tabs w) (hr0 : Kd.C (Kd.int .u8) w A0 l0.length l0) (hc0 : l0.length ≤ c0) (h : platenlaw19_MotionLines.f k l0 a1 a2 a3 = some r) :
  Calls Tryd.prog 6 #[.slice A0 l0.length c0, .int .u8 a1, .int .u8 a2, .int .u8 a3] w fun e w' => e = .returned (.bool r) ∧ Below w.heap.size w w' := by
 have hu30 := Tryd.underlying30
 have hu25 := Tryd.underlying25
 have HR0 := Aside0.mk hr0
 have HC0 := Aside0.mk hc0
 clear hr0 hc0
 have HB := Aside0.mk (Below.refl w.heap.size w)
 have HT := Aside0.mk hT
 clear hT
 have H : ((platenlaw19_steps.f k).bind fun t505 => (if t505 = true then (platenlaw19_MotionLines.j0 k l0 a1 a2 a3 (decide ((l0.length : Int) > 200))) else (platenlaw19_MotionLines.j0 k l0 a1 a2 a3 true))) = some r := h
 clear h
 have HC5 := Aside0.mk H
 clear H
 go_enter Tryd.func6, Tryd.ntmps6
 go_upto_region 1 with (fail)
 go_cut [24] (fun v24 wc => ∃ (kq : Nat) (x24_4 : Bool), v24 = .bool x24_4 ∧ Aside0 (platenlaw19_MotionLines.j0 kq l0 a1 a2 a3 x24_4 = some r) ∧ Aside0 (kq ≤ k) ∧ Aside0 (Below w.heap.size w wc))
 case first =>
  have H := HC5.out
  clear HC5
  replace H := Option.bind_eq_some_iff.mp H
  obtain ⟨t505, A60, H⟩ := H
  replace H : (if t505 = true then (platenlaw19_MotionLines.j0 k l0 a1 a2 a3 (decide ((l0.length : Int) > 200))) else (platenlaw19_MotionLines.j0 k l0 a1 a2 a3 true)) = some r := H
  have A6 := Aside0.mk A60
  clear A60
  by_cases c7 : t505 = true
  ·subst c7
   have H1 : (platenlaw19_MotionLines.j0 k l0 a1 a2 a3 (decide ((l0.length : Int) > 200))) = some r := by rw [if_pos rfl] at H; exact H
   clear H
   have H := H1
   clear H1
   have H' := Aside0.mk H
   clear H
   go_wp2_with (first | ((with_reducible refine gate_callee (f := 9) rfl ?_); refine goesL_ (some 18) rfl rfl Tryd.func9 (by kernel_rfl) rfl #[] rfl (by (try simp only [List.map_toArray, List.map_cons, List.map_nil]); first | done | rfl | (simp only [List.length_drop, List.length_take]; rfl)) ?_; (with_reducible refine (platenlaw19_steps.calls k  true _ ?side1 A6.out).mono ?_); (case side1 => exact Tabs.below HT.out (by repeat (first | exact HB.out | apply bA | apply bN | apply bD))); rintro e w8 ⟨rfl, hb⟩; refine ⟨_, rfl, ?_⟩; have n0_ := Aside0.mk (below_step (by repeat (first | exact HB.out | apply bA | apply bN | apply bD)) hb); clear HB; have HB := n0_; clear n0_; (try clear hb); (try clear hb2); (try clear hk); (try clear hi)))
   go_meet
   case rel => exact ⟨_, (decide ((l0.length : Int) > 200)), (by first | rfl | (simp; done) | (simp [*]; done)), H', ⟨by first | omega | exact Nat.le_refl _⟩, ⟨by repeat (first | exact HB.out | apply bA | apply bN | apply bD)⟩⟩
  ·replace c7 := Bool.eq_false_iff.mpr c7
   subst c7
   have H1 : (platenlaw19_MotionLines.j0 k l0 a1 a2 a3 true) = some r := by rw [if_neg (show ¬ (false = true) by decide)] at H; exact H
   clear H
   have H := H1
   clear H1
   have H' := Aside0.mk H
   clear H
   go_wp2_with (first | ((with_reducible refine gate_callee (f := 9) rfl ?_); refine goesL_ (some 18) rfl rfl Tryd.func9 (by kernel_rfl) rfl #[] rfl (by (try simp only [List.map_toArray, List.map_cons, List.map_nil]); first | done | rfl | (simp only [List.length_drop, List.length_take]; rfl)) ?_; (with_reducible refine (platenlaw19_steps.calls k  false _ ?side1 A6.out).mono ?_); (case side1 => exact Tabs.below HT.out (by repeat (first | exact HB.out | apply bA | apply bN | apply bD))); rintro e w9 ⟨rfl, hb⟩; refine ⟨_, rfl, ?_⟩; have n0_ := Aside0.mk (below_step (by repeat (first | exact HB.out | apply bA | apply bN | apply bD)) hb); clear HB; have HB := n0_; clear n0_; (try clear hb); (try clear hb2); (try clear hk); (try clear hi)))
   go_meet
   case rel => exact ⟨_, (true), (by first | rfl | (simp; done) | (simp [*]; done)), H', ⟨by first | omega | exact Nat.le_refl _⟩, ⟨by repeat (first | exact HB.out | apply bA | apply bN | apply bD)⟩⟩
 case rest =>
  clear HC5
  try clear p2
  try clear c6
  try clear c7
  try clear c9
  obtain ⟨kq, x24_4, rfl, HA, HJ4, HB⟩ := hcut
  cases kq with
  | zero => exact absurd HA.out (by simp [platenlaw19_MotionLines.j0])
  | succ kj4 =>
   have H := HA.out
   clear HA
   simp only [platenlaw19_MotionLines.j0] at H
   by_cases c10 : x24_4 = true
   ·subst c10
    have H1 : ((platenlaw19_steps.f kj4).bind fun t506 => (some t506)) = some r := by rw [if_pos rfl] at H; exact H
    clear H
    have H := H1
    clear H1
    replace H := Option.bind_eq_some_iff.mp H
    obtain ⟨t506, A110, H⟩ := H
    replace H : (some t506) = some r := H
    have A11 := Aside0.mk A110
    clear A110
    obtain rfl := Option.some.inj H
    go_wp2_with (first | ((with_reducible refine gate_callee (f := 9) rfl ?_); refine goesL_ (some 25) rfl rfl Tryd.func9 (by kernel_rfl) rfl #[] rfl (by (try simp only [List.map_toArray, List.map_cons, List.map_nil]); first | done | rfl | (simp only [List.length_drop, List.length_take]; rfl)) ?_; (with_reducible refine (platenlaw19_steps.calls kj4  t506 _ ?side1 A11.out).mono ?_); (case side1 => exact Tabs.below HT.out (by repeat (first | exact HB.out | apply bA | apply bN | apply bD))); rintro e w12 ⟨rfl, hb⟩; refine ⟨_, rfl, ?_⟩; have n0_ := Aside0.mk (below_step (by repeat (first | exact HB.out | apply bA | apply bN | apply bD)) hb); clear HB; have HB := n0_; clear n0_; (try clear hb); (try clear hb2); (try clear hk); (try clear hi)))
    go_ret
    exact ⟨by first | rfl | (simp [errW_none, errW_some] <;> rfl) | (simp [*, errW_none, errW_some] <;> rfl), by repeat (first | exact HB.out | apply bA | apply bN | apply bD)⟩
   ·replace c10 := Bool.eq_false_iff.mpr c10
    subst c10
    have H1 : ((platenref01_Floor.f kj4 l0 (wrap64 (a1))).bind fun t507 => ((platenref03_Of.f kj4 l0 t507).bind fun t508 => ((motion_Go.f kj4 l0 t507 106 0 (wrap64 ((Int.tmod (wrap64 (a2)) 4) + 1)) (wrap64 ((Int.tmod (wrap64 (a3)) 16) + 1))).bind fun bt509 => ((platenref03_Spans.f kj4 l0).bind fun t514 => (if (wrap64 (t508 + (wrap64 ((Int.tmod (wrap64 (a2)) 4) + 1)))) ≥ (t514.length : Int) then (some (bt509.2.2.2 == 2)) else (if bt509.2.2.2 = 0 then ((platenref03_Of.f kj4 l0 bt509.1).bind fun t517 => (if t517 = (wrap64 (t508 + (wrap64 ((Int.tmod (wrap64 (a2)) 4) + 1)))) then (platenlaw19_MotionLines.j1 kj4 l0 t507 (wrap64 ((Int.tmod (wrap64 (a3)) 16) + 1)) (wrap64 ((Int.tmod (wrap64 (a2)) 4) + 1)) t508 t514 (!bt509.2.1) bt509.1 bt509.2.1 bt509.2.2.1) else (platenlaw19_MotionLines.j1 kj4 l0 t507 (wrap64 ((Int.tmod (wrap64 (a3)) 16) + 1)) (wrap64 ((Int.tmod (wrap64 (a2)) 4) + 1)) t508 t514 true bt509.1 bt509.2.1 bt509.2.2.1))) else (platenlaw19_MotionLines.j1 kj4 l0 t507 (wrap64 ((Int.tmod (wrap64 (a3)) 16) + 1)) (wrap64 ((Int.tmod (wrap64 (a2)) 4) + 1)) t508 t514 true bt509.1 bt509.2.1 bt509.2.2.1))))))) = some r := by rw [if_neg (show ¬ (false = true) by decide)] at H; exact H
    clear H
    have H := H1
    clear H1
    replace H := Option.bind_eq_some_iff.mp H
    obtain ⟨t507, A130, H⟩ := H
    replace H : ((platenref03_Of.f kj4 l0 t507).bind fun t508 => ((motion_Go.f kj4 l0 t507 106 0 (wrap64 ((Int.tmod (wrap64 (a2)) 4) + 1)) (wrap64 ((Int.tmod (wrap64 (a3)) 16) + 1))).bind fun bt509 => ((platenref03_Spans.f kj4 l0).bind fun t514 => (if (wrap64 (t508 + (wrap64 ((Int.tmod (wrap64 (a2)) 4) + 1)))) ≥ (t514.length : Int) then (some (bt509.2.2.2 == 2)) else (if bt509.2.2.2 = 0 then ((platenref03_Of.f kj4 l0 bt509.1).bind fun t517 => (if t517 = (wrap64 (t508 + (wrap64 ((Int.tmod (wrap64 (a2)) 4) + 1)))) then (platenlaw19_MotionLines.j1 kj4 l0 t507 (wrap64 ((Int.tmod (wrap64 (a3)) 16) + 1)) (wrap64 ((Int.tmod (wrap64 (a2)) 4) + 1)) t508 t514 (!bt509.2.1) bt509.1 bt509.2.1 bt509.2.2.1) else (platenlaw19_MotionLines.j1 kj4 l0 t507 (wrap64 ((Int.tmod (wrap64 (a3)) 16) + 1)) (wrap64 ((Int.tmod (wrap64 (a2)) 4) + 1)) t508 t514 true bt509.1 bt509.2.1 bt509.2.2.1))) else (platenlaw19_MotionLines.j1 kj4 l0 t507 (wrap64 ((Int.tmod (wrap64 (a3)) 16) + 1)) (wrap64 ((Int.tmod (wrap64 (a2)) 4) + 1)) t508 t514 true bt509.1 bt509.2.1 bt509.2.2.1)))))) = some r := H
    have A13 := Aside0.mk A130
    clear A130
    replace H := Option.bind_eq_some_iff.mp H
    obtain ⟨t508, A140, H⟩ := H
    replace H : ((motion_Go.f kj4 l0 t507 106 0 (wrap64 ((Int.tmod (wrap64 (a2)) 4) + 1)) (wrap64 ((Int.tmod (wrap64 (a3)) 16) + 1))).bind fun bt509 => ((platenref03_Spans.f kj4 l0).bind fun t514 => (if (wrap64 (t508 + (wrap64 ((Int.tmod (wrap64 (a2)) 4) + 1)))) ≥ (t514.length : Int) then (some (bt509.2.2.2 == 2)) else (if bt509.2.2.2 = 0 then ((platenref03_Of.f kj4 l0 bt509.1).bind fun t517 => (if t517 = (wrap64 (t508 + (wrap64 ((Int.tmod (wrap64 (a2)) 4) + 1)))) then (platenlaw19_MotionLines.j1 kj4 l0 t507 (wrap64 ((Int.tmod (wrap64 (a3)) 16) + 1)) (wrap64 ((Int.tmod (wrap64 (a2)) 4) + 1)) t508 t514 (!bt509.2.1) bt509.1 bt509.2.1 bt509.2.2.1) else (platenlaw19_MotionLines.j1 kj4 l0 t507 (wrap64 ((Int.tmod (wrap64 (a3)) 16) + 1)) (wrap64 ((Int.tmod (wrap64 (a2)) 4) + 1)) t508 t514 true bt509.1 bt509.2.1 bt509.2.2.1))) else (platenlaw19_MotionLines.j1 kj4 l0 t507 (wrap64 ((Int.tmod (wrap64 (a3)) 16) + 1)) (wrap64 ((Int.tmod (wrap64 (a2)) 4) + 1)) t508 t514 true bt509.1 bt509.2.1 bt509.2.2.1))))) = some r := H
    have A14 := Aside0.mk A140
    clear A140
    replace H := Option.bind_eq_some_iff.mp H
    obtain ⟨⟨t509, t510, t511, t512⟩, A150, H⟩ := H
    replace H : ((platenref03_Spans.f kj4 l0).bind fun t514 => (if (wrap64 (t508 + (wrap64 ((Int.tmod (wrap64 (a2)) 4) + 1)))) ≥ (t514.length : Int) then (some (t512 == 2)) else (if t512 = 0 then ((platenref03_Of.f kj4 l0 t509).bind fun t517 => (if t517 = (wrap64 (t508 + (wrap64 ((Int.tmod (wrap64 (a2)) 4) + 1)))) then (platenlaw19_MotionLines.j1 kj4 l0 t507 (wrap64 ((Int.tmod (wrap64 (a3)) 16) + 1)) (wrap64 ((Int.tmod (wrap64 (a2)) 4) + 1)) t508 t514 (!t510) t509 t510 t511) else (platenlaw19_MotionLines.j1 kj4 l0 t507 (wrap64 ((Int.tmod (wrap64 (a3)) 16) + 1)) (wrap64 ((Int.tmod (wrap64 (a2)) 4) + 1)) t508 t514 true t509 t510 t511))) else (platenlaw19_MotionLines.j1 kj4 l0 t507 (wrap64 ((Int.tmod (wrap64 (a3)) 16) + 1)) (wrap64 ((Int.tmod (wrap64 (a2)) 4) + 1)) t508 t514 true t509 t510 t511)))) = some r := H
    have A15 := Aside0.mk A150
    clear A150
    replace H := Option.bind_eq_some_iff.mp H
    obtain ⟨t514, A160, H⟩ := H
    replace H : (if (wrap64 (t508 + (wrap64 ((Int.tmod (wrap64 (a2)) 4) + 1)))) ≥ (t514.length : Int) then (some (t512 == 2)) else (if t512 = 0 then ((platenref03_Of.f kj4 l0 t509).bind fun t517 => (if t517 = (wrap64 (t508 + (wrap64 ((Int.tmod (wrap64 (a2)) 4) + 1)))) then (platenlaw19_MotionLines.j1 kj4 l0 t507 (wrap64 ((Int.tmod (wrap64 (a3)) 16) + 1)) (wrap64 ((Int.tmod (wrap64 (a2)) 4) + 1)) t508 t514 (!t510) t509 t510 t511) else (platenlaw19_MotionLines.j1 kj4 l0 t507 (wrap64 ((Int.tmod (wrap64 (a3)) 16) + 1)) (wrap64 ((Int.tmod (wrap64 (a2)) 4) + 1)) t508 t514 true t509 t510 t511))) else (platenlaw19_MotionLines.j1 kj4 l0 t507 (wrap64 ((Int.tmod (wrap64 (a3)) 16) + 1)) (wrap64 ((Int.tmod (wrap64 (a2)) 4) + 1)) t508 t514 true t509 t510 t511))) = some r := H
    have A16 := Aside0.mk A160
    clear A160
    by_cases c17 : (wrap64 (t508 + (wrap64 ((Int.tmod (wrap64 (a2)) 4) + 1)))) ≥ (t514.length : Int)
    ·rw [if_pos c17] at H
     have c17b0 : decide ((t514.length : Int) ≤ (wrap64 (t508 + (wrap64 ((Int.tmod (wrap64 (a2)) 4) + 1))))) = true := decide_eq_true c17
     clear c17
     obtain rfl := Option.some.inj H
     go_wp2_with (first | ((with_reducible refine gate_callee (f := 12) rfl ?_); refine goesL_ (some 29) rfl rfl Tryd.func12 (by kernel_rfl) rfl #[.slice A0 l0.length c0, .int .i64 (wrap64 (a1))] rfl (by (try simp only [List.map_toArray, List.map_cons, List.map_nil]); first | done | rfl | (simp only [List.length_drop, List.length_take]; rfl)) ?_; (with_reducible refine (platenref01_Floor.calls kj4 _ _ l0 (wrap64 (a1)) t507 _ ?side1 ?side2 A13.out).mono ?_); (case side1 => repeat (first | exact (Kd.C_below HR0.out HB.out) | (with_reducible refine Kd.C_alloc ?_ _) | (with_reducible refine Kd.C_drewN ?_ _) | (with_reducible refine Kd.C_drew ?_))); (case side2 => exact HC0.out); rintro e w18 ⟨rfl, hb⟩; refine ⟨_, rfl, ?_⟩; have n0_ := Aside0.mk (below_step (by repeat (first | exact HB.out | apply bA | apply bN | apply bD)) hb); clear HB; have HB := n0_; clear n0_; (try clear hb); (try clear hb2); (try clear hk); (try clear hi)) | ((with_reducible refine gate_callee (f := 13) rfl ?_); refine goesL_ (some 40) rfl rfl Tryd.func13 (by kernel_rfl) rfl #[.slice A0 l0.length c0, .int .i64 t507] rfl (by (try simp only [List.map_toArray, List.map_cons, List.map_nil]); first | done | rfl | (simp only [List.length_drop, List.length_take]; rfl)) ?_; (with_reducible refine (platenref03_Of.calls kj4 _ _ l0 t507 t508 _ ?side1 ?side2 A14.out).mono ?_); (case side1 => repeat (first | exact (Kd.C_below HR0.out HB.out) | (with_reducible refine Kd.C_alloc ?_ _) | (with_reducible refine Kd.C_drewN ?_ _) | (with_reducible refine Kd.C_drew ?_))); (case side2 => exact HC0.out); rintro e w19 ⟨rfl, hb⟩; refine ⟨_, rfl, ?_⟩; have n0_ := Aside0.mk (below_step (by repeat (first | exact HB.out | apply bA | apply bN | apply bD)) hb); clear HB; have HB := n0_; clear n0_; (try clear hb); (try clear hb2); (try clear hk); (try clear hi)) | ((with_reducible refine gate_callee (f := 10) rfl ?_); refine goesL_ (some 47) rfl rfl Tryd.func10 (by kernel_rfl) rfl #[.slice A0 l0.length c0, .int .i64 t507, .agg #[.int .u8 106, .int .u8 0, .int .i64 (wrap64 ((Int.tmod (wrap64 (a2)) 4) + 1))], .int .i64 (wrap64 ((Int.tmod (wrap64 (a3)) 16) + 1))] rfl (by (try simp only [List.map_toArray, List.map_cons, List.map_nil]); first | done | rfl | (simp only [List.length_drop, List.length_take]; rfl)) ?_; (with_reducible refine (motion_Go.calls kj4 _ _ l0 t507 106 0 (wrap64 ((Int.tmod (wrap64 (a2)) 4) + 1)) (wrap64 ((Int.tmod (wrap64 (a3)) 16) + 1)) t509 t510 t511 t512 _ ?side3 ?side1 ?side2 A15.out).mono ?_); (case side1 => repeat (first | exact (Kd.C_below HR0.out HB.out) | (with_reducible refine Kd.C_alloc ?_ _) | (with_reducible refine Kd.C_drewN ?_ _) | (with_reducible refine Kd.C_drew ?_))); (case side2 => exact HC0.out); (case side3 => exact Tabs.below HT.out (by repeat (first | exact HB.out | apply bA | apply bN | apply bD))); rintro e w20 ⟨rfl, hb⟩; refine ⟨_, rfl, ?_⟩; have n0_ := Aside0.mk (below_step (by repeat (first | exact HB.out | apply bA | apply bN | apply bD)) hb); clear HB; have HB := n0_; clear n0_; (try clear hb); (try clear hb2); (try clear hk); (try clear hi)) | ((with_reducible refine gate_dst (N := 13) rfl ?_); (try (refine gate_guard (by rfl) ?_; dsimp only)); refine box_event ?hg (N := 13) ?hd (cs := #[.int .i64 0, .bool false, .bool false]) (t := 25) ?hr ?_; (case hd => rfl); (case hg => rfl); (case hr => first | (go_simp; done) | (go_simp; rfl)); intro gb513 hg w21 hbox hb; have n0_ := Aside0.mk (below_step (by repeat (first | exact HB.out | apply bA | apply bN | apply bD)) hb); have n1_ := Aside0.mk (hbox); have n2_ := Aside0.mk ((by rw [hg]; exact (below_size (by repeat (first | exact HB.out | apply bA | apply bN | apply bD))) : w.heap.size ≤ gb513)); have n3_ := Aside0.mk ((by rw [hg]; exact (below_size (by repeat (first | exact HB.out | apply bA | apply bN | apply bD))) : w.heap.size ≤ gb513)); clear HB; have HB := n0_; have BK513 := n1_; have GW513 := n2_; have GE513 := n3_; clear n0_ n1_ n2_ n3_; clear hb hbox hg; have hcz22_0 : w21.cell? ⟨gb513, 0, none⟩ = some (.int .i64 0) := (blk_cell BK513.out 0).trans rfl; have hcz22_1 : w21.cell? ⟨gb513, 1, none⟩ = some (.bool false) := (blk_cell BK513.out 1).trans rfl; have hcz22_2 : w21.cell? ⟨gb513, 2, none⟩ = some (.bool false) := (blk_cell BK513.out 2).trans rfl; have hfz22_0 := blk_frozen BK513.out 0; have hfz22_1 := blk_frozen BK513.out 1; have hfz22_2 := blk_frozen BK513.out 2) | ((with_reducible refine gate_callee (f := 14) rfl ?_); refine goesL_ (some 51) rfl rfl Tryd.func14 (by kernel_rfl) rfl #[.slice A0 l0.length c0] rfl (by (try simp only [List.map_toArray, List.map_cons, List.map_nil]); first | done | rfl | (simp only [List.length_drop, List.length_take]; rfl)) ?_; (with_reducible refine (platenref03_Spans.calls kj4 _ _ l0 t514 _ ?side1 ?side2 A16.out).mono ?_); (case side1 => exact Kd.C_below HR0.out (by repeat (first | exact HB.out | apply bA | apply bN | apply bD | refine bS ?_ GE513.out))); (case side2 => exact HC0.out); rintro e w23 ⟨v515, rfl, ho0, hb⟩; refine ⟨_, rfl, ?_⟩; have n0_ := Aside0.mk (Kd.R_lower ho0 (below_size (by repeat (first | exact HB.out | apply bA | apply bN | apply bD | refine bS ?_ GE513.out)))); have n1_ := Aside0.mk (blk_below (g := gb513) (o := .cells #[.int .i64 t509, .bool t510, .bool t511] 25 (0, 0)) (by (with_reducible repeat (first | refine kN ?_ _ | refine kD ?_ | refine kA ?_ _)); refine blk_put (cs := #[.int .i64 t509, .bool t510, .bool false]) ?_ 2 _ rfl; (with_reducible repeat (first | refine kN ?_ _ | refine kD ?_ | refine kA ?_ _)); refine blk_put (cs := #[.int .i64 t509, .bool false, .bool false]) ?_ 1 _ rfl; (with_reducible repeat (first | refine kN ?_ _ | refine kD ?_ | refine kA ?_ _)); refine blk_put (cs := #[.int .i64 0, .bool false, .bool false]) ?_ 0 _ rfl; (with_reducible repeat (first | refine kN ?_ _ | refine kD ?_ | refine kA ?_ _)); exact BK513.out) hb); have n2_ := Aside0.mk (below_step (by repeat (first | exact HB.out | apply bA | apply bN | apply bD | refine bS ?_ GE513.out)) hb); clear BK513; clear HB; have HO516 := n0_; have BK513 := n1_; have HB := n2_; clear n0_ n1_ n2_; (try clear hb); (try clear hb2); (try clear hk); (try clear hi); (try clear ho0); obtain ⟨Ao24, co24, eo24⟩ := Kd.R_slice HO516.out; subst eo24))
     go_ret
     exact ⟨by first | rfl | (simp [errW_none, errW_some] <;> rfl) | (simp [*, errW_none, errW_some] <;> rfl), by repeat (first | exact HB.out | apply bA | apply bN | apply bD | refine bS ?_ GE513.out)⟩
    ·rw [if_neg c17] at H
     have c17b0 : decide ((t514.length : Int) ≤ (wrap64 (t508 + (wrap64 ((Int.tmod (wrap64 (a2)) 4) + 1))))) = false := decide_eq_false c17
     clear c17
     have HC25 := Aside0.mk H
     clear H
     go_upto_region 11 with (first | ((with_reducible refine gate_callee (f := 12) rfl ?_); refine goesL_ (some 29) rfl rfl Tryd.func12 (by kernel_rfl) rfl #[.slice A0 l0.length c0, .int .i64 (wrap64 (a1))] rfl (by (try simp only [List.map_toArray, List.map_cons, List.map_nil]); first | done | rfl | (simp only [List.length_drop, List.length_take]; rfl)) ?_; (with_reducible refine (platenref01_Floor.calls kj4 _ _ l0 (wrap64 (a1)) t507 _ ?side1 ?side2 A13.out).mono ?_); (case side1 => repeat (first | exact (Kd.C_below HR0.out HB.out) | (with_reducible refine Kd.C_alloc ?_ _) | (with_reducible refine Kd.C_drewN ?_ _) | (with_reducible refine Kd.C_drew ?_))); (case side2 => exact HC0.out); rintro e w26 ⟨rfl, hb⟩; refine ⟨_, rfl, ?_⟩; have n0_ := Aside0.mk (below_step (by repeat (first | exact HB.out | apply bA | apply bN | apply bD)) hb); clear HB; have HB := n0_; clear n0_; (try clear hb); (try clear hb2); (try clear hk); (try clear hi)) | ((with_reducible refine gate_callee (f := 13) rfl ?_); refine goesL_ (some 40) rfl rfl Tryd.func13 (by kernel_rfl) rfl #[.slice A0 l0.length c0, .int .i64 t507] rfl (by (try simp only [List.map_toArray, List.map_cons, List.map_nil]); first | done | rfl | (simp only [List.length_drop, List.length_take]; rfl)) ?_; (with_reducible refine (platenref03_Of.calls kj4 _ _ l0 t507 t508 _ ?side1 ?side2 A14.out).mono ?_); (case side1 => repeat (first | exact (Kd.C_below HR0.out HB.out) | (with_reducible refine Kd.C_alloc ?_ _) | (with_reducible refine Kd.C_drewN ?_ _) | (with_reducible refine Kd.C_drew ?_))); (case side2 => exact HC0.out); rintro e w27 ⟨rfl, hb⟩; refine ⟨_, rfl, ?_⟩; have n0_ := Aside0.mk (below_step (by repeat (first | exact HB.out | apply bA | apply bN | apply bD)) hb); clear HB; have HB := n0_; clear n0_; (try clear hb); (try clear hb2); (try clear hk); (try clear hi)) | ((with_reducible refine gate_callee (f := 10) rfl ?_); refine goesL_ (some 47) rfl rfl Tryd.func10 (by kernel_rfl) rfl #[.slice A0 l0.length c0, .int .i64 t507, .agg #[.int .u8 106, .int .u8 0, .int .i64 (wrap64 ((Int.tmod (wrap64 (a2)) 4) + 1))], .int .i64 (wrap64 ((Int.tmod (wrap64 (a3)) 16) + 1))] rfl (by (try simp only [List.map_toArray, List.map_cons, List.map_nil]); first | done | rfl | (simp only [List.length_drop, List.length_take]; rfl)) ?_; (with_reducible refine (motion_Go.calls kj4 _ _ l0 t507 106 0 (wrap64 ((Int.tmod (wrap64 (a2)) 4) + 1)) (wrap64 ((Int.tmod (wrap64 (a3)) 16) + 1)) t509 t510 t511 t512 _ ?side3 ?side1 ?side2 A15.out).mono ?_); (case side1 => repeat (first | exact (Kd.C_below HR0.out HB.out) | (with_reducible refine Kd.C_alloc ?_ _) | (with_reducible refine Kd.C_drewN ?_ _) | (with_reducible refine Kd.C_drew ?_))); (case side2 => exact HC0.out); (case side3 => exact Tabs.below HT.out (by repeat (first | exact HB.out | apply bA | apply bN | apply bD))); rintro e w28 ⟨rfl, hb⟩; refine ⟨_, rfl, ?_⟩; have n0_ := Aside0.mk (below_step (by repeat (first | exact HB.out | apply bA | apply bN | apply bD)) hb); clear HB; have HB := n0_; clear n0_; (try clear hb); (try clear hb2); (try clear hk); (try clear hi)) | ((with_reducible refine gate_dst (N := 13) rfl ?_); (try (refine gate_guard (by rfl) ?_; dsimp only)); refine box_event ?hg (N := 13) ?hd (cs := #[.int .i64 0, .bool false, .bool false]) (t := 25) ?hr ?_; (case hd => rfl); (case hg => rfl); (case hr => first | (go_simp; done) | (go_simp; rfl)); intro gb513 hg w29 hbox hb; have n0_ := Aside0.mk (below_step (by repeat (first | exact HB.out | apply bA | apply bN | apply bD)) hb); have n1_ := Aside0.mk (hbox); have n2_ := Aside0.mk ((by rw [hg]; exact (below_size (by repeat (first | exact HB.out | apply bA | apply bN | apply bD))) : w.heap.size ≤ gb513)); have n3_ := Aside0.mk ((by rw [hg]; exact (below_size (by repeat (first | exact HB.out | apply bA | apply bN | apply bD))) : w.heap.size ≤ gb513)); clear HB; have HB := n0_; have BK513 := n1_; have GW513 := n2_; have GE513 := n3_; clear n0_ n1_ n2_ n3_; clear hb hbox hg; have hcz30_0 : w29.cell? ⟨gb513, 0, none⟩ = some (.int .i64 0) := (blk_cell BK513.out 0).trans rfl; have hcz30_1 : w29.cell? ⟨gb513, 1, none⟩ = some (.bool false) := (blk_cell BK513.out 1).trans rfl; have hcz30_2 : w29.cell? ⟨gb513, 2, none⟩ = some (.bool false) := (blk_cell BK513.out 2).trans rfl; have hfz30_0 := blk_frozen BK513.out 0; have hfz30_1 := blk_frozen BK513.out 1; have hfz30_2 := blk_frozen BK513.out 2) | ((with_reducible refine gate_callee (f := 14) rfl ?_); refine goesL_ (some 51) rfl rfl Tryd.func14 (by kernel_rfl) rfl #[.slice A0 l0.length c0] rfl (by (try simp only [List.map_toArray, List.map_cons, List.map_nil]); first | done | rfl | (simp only [List.length_drop, List.length_take]; rfl)) ?_; (with_reducible refine (platenref03_Spans.calls kj4 _ _ l0 t514 _ ?side1 ?side2 A16.out).mono ?_); (case side1 => exact Kd.C_below HR0.out (by repeat (first | exact HB.out | apply bA | apply bN | apply bD | refine bS ?_ GE513.out))); (case side2 => exact HC0.out); rintro e w31 ⟨v515, rfl, ho0, hb⟩; refine ⟨_, rfl, ?_⟩; have n0_ := Aside0.mk (Kd.R_lower ho0 (below_size (by repeat (first | exact HB.out | apply bA | apply bN | apply bD | refine bS ?_ GE513.out)))); have n1_ := Aside0.mk (blk_below (g := gb513) (o := .cells #[.int .i64 t509, .bool t510, .bool t511] 25 (0, 0)) (by (with_reducible repeat (first | refine kN ?_ _ | refine kD ?_ | refine kA ?_ _)); refine blk_put (cs := #[.int .i64 t509, .bool t510, .bool false]) ?_ 2 _ rfl; (with_reducible repeat (first | refine kN ?_ _ | refine kD ?_ | refine kA ?_ _)); refine blk_put (cs := #[.int .i64 t509, .bool false, .bool false]) ?_ 1 _ rfl; (with_reducible repeat (first | refine kN ?_ _ | refine kD ?_ | refine kA ?_ _)); refine blk_put (cs := #[.int .i64 0, .bool false, .bool false]) ?_ 0 _ rfl; (with_reducible repeat (first | refine kN ?_ _ | refine kD ?_ | refine kA ?_ _)); exact BK513.out) hb); have n2_ := Aside0.mk (below_step (by repeat (first | exact HB.out | apply bA | apply bN | apply bD | refine bS ?_ GE513.out)) hb); clear BK513; clear HB; have HO516 := n0_; have BK513 := n1_; have HB := n2_; clear n0_ n1_ n2_; (try clear hb); (try clear hb2); (try clear hk); (try clear hi); (try clear ho0); obtain ⟨Ao32, co32, eo32⟩ := Kd.R_slice HO516.out; subst eo32))
     (try simp only [Act.put, zT, z0, zS])
     go_cut [76] (fun v76 wc => ∃ (kq : Nat) (x76_24 : Bool), v76 = .bool x76_24 ∧ Aside0 (platenlaw19_MotionLines.j1 kq l0 t507 (wrap64 ((Int.tmod (wrap64 (a3)) 16) + 1)) (wrap64 ((Int.tmod (wrap64 (a2)) 4) + 1)) t508 t514 x76_24 t509 t510 t511 = some r) ∧ Aside0 (kq ≤ kj4) ∧ Aside0 (Kd.R k39 39 wc w.heap.size (fun _ => True) (.slice Ao32 t514.length co32) t514) ∧ Aside0 (wc.heap[gb513]? = some (.cells #[.int .i64 t509, .bool t510, .bool t511] 25 (0, 0))) ∧ Aside0 (Below w.heap.size w wc))
     case first =>
      have H := HC25.out
      clear HC25
      by_cases c33 : t512 = 0
      ·rw [if_pos c33] at H
       have c33b0 : (t512 == 0) = true := beq_iff_eq.mpr c33
       have c33b1 : (t512 != 0) = false := bne_eq_false_iff_eq.mpr c33
       clear c33
       (first | rw [c33b0] | (simp only [i64_w, i32_w]; rw [c33b0]) | skip)
       replace H := Option.bind_eq_some_iff.mp H
       obtain ⟨t517, A340, H⟩ := H
       replace H : (if t517 = (wrap64 (t508 + (wrap64 ((Int.tmod (wrap64 (a2)) 4) + 1)))) then (platenlaw19_MotionLines.j1 kj4 l0 t507 (wrap64 ((Int.tmod (wrap64 (a3)) 16) + 1)) (wrap64 ((Int.tmod (wrap64 (a2)) 4) + 1)) t508 t514 (!t510) t509 t510 t511) else (platenlaw19_MotionLines.j1 kj4 l0 t507 (wrap64 ((Int.tmod (wrap64 (a3)) 16) + 1)) (wrap64 ((Int.tmod (wrap64 (a2)) 4) + 1)) t508 t514 true t509 t510 t511)) = some r := H
       have A34 := Aside0.mk A340
       clear A340
       by_cases c35 : t517 = (wrap64 (t508 + (wrap64 ((Int.tmod (wrap64 (a2)) 4) + 1))))
       ·rw [if_pos c35] at H
        have c35b0 : (t517 == (wrap64 (t508 + (wrap64 ((Int.tmod (wrap64 (a2)) 4) + 1))))) = true := beq_iff_eq.mpr c35
        have c35b1 : (t517 != (wrap64 (t508 + (wrap64 ((Int.tmod (wrap64 (a2)) 4) + 1))))) = false := bne_eq_false_iff_eq.mpr c35
        clear c35
        have H' := Aside0.mk H
        clear H
        have hcz36_0 : w31.cell? ⟨gb513, 0, none⟩ = some (.int .i64 t509) := (blk_cell BK513.out 0).trans rfl
        have hcz36_1 : w31.cell? ⟨gb513, 1, none⟩ = some (.bool t510) := (blk_cell BK513.out 1).trans rfl
        have hcz36_2 : w31.cell? ⟨gb513, 2, none⟩ = some (.bool t511) := (blk_cell BK513.out 2).trans rfl
        have hfz36_0 := blk_frozen BK513.out 0
        have hfz36_1 := blk_frozen BK513.out 1
        have hfz36_2 := blk_frozen BK513.out 2
        go_wp2_with (first | (go_at_call 13; (with_reducible refine (platenref03_Of.calls kj4 _ _ l0 t509 t517 _ ?side1 ?side2 A34.out).mono ?_); (case side1 => repeat (first | exact (Kd.C_below HR0.out HB.out) | (with_reducible refine Kd.C_alloc ?_ _) | (with_reducible refine Kd.C_drewN ?_ _) | (with_reducible refine Kd.C_drew ?_))); (case side2 => exact HC0.out); rintro e w37 ⟨rfl, hb⟩; have n0_ := Aside0.mk (Kd.R_below (by (with_reducible repeat (first | apply Kd.R_alloc | apply Kd.R_drewN | apply Kd.R_drew)); exact HO516.out) hb); have n1_ := Aside0.mk (blk_below (g := gb513) (o := .cells #[.int .i64 t509, .bool t510, .bool t511] 25 (0, 0)) (by (with_reducible repeat (first | refine kN ?_ _ | refine kD ?_ | refine kA ?_ _)); exact BK513.out) hb); have n2_ := Aside0.mk (below_step (by repeat (first | exact HB.out | apply bA | apply bN | apply bD | refine bS ?_ GE513.out)) hb); clear HO516; clear BK513; clear HB; have HO516 := n0_; have BK513 := n1_; have HB := n2_; clear n0_ n1_ n2_; (try clear hb); (try clear hb2); (try clear hk); (try clear hi); have hcz38_0 : w37.cell? ⟨gb513, 0, none⟩ = some (.int .i64 t509) := (blk_cell BK513.out 0).trans rfl; have hcz38_1 : w37.cell? ⟨gb513, 1, none⟩ = some (.bool t510) := (blk_cell BK513.out 1).trans rfl; have hcz38_2 : w37.cell? ⟨gb513, 2, none⟩ = some (.bool t511) := (blk_cell BK513.out 2).trans rfl; have hfz38_0 := blk_frozen BK513.out 0; have hfz38_1 := blk_frozen BK513.out 1; have hfz38_2 := blk_frozen BK513.out 2))
        go_meet
        case rel => exact ⟨_, (!t510), (by first | rfl | (simp; done) | (simp [*]; done)), H', ⟨by have := HJ4.out; first | omega | exact Nat.le_refl _⟩, ⟨by (with_reducible repeat (first | apply Kd.R_alloc | apply Kd.R_drewN | apply Kd.R_drew)); exact HO516.out⟩, ⟨by (with_reducible repeat (first | refine kN ?_ _ | refine kD ?_ | refine kA ?_ _)); exact BK513.out⟩, ⟨by repeat (first | exact HB.out | apply bA | apply bN | apply bD | refine bS ?_ GE513.out)⟩⟩
       ·rw [if_neg c35] at H
        have c35b0 : (t517 == (wrap64 (t508 + (wrap64 ((Int.tmod (wrap64 (a2)) 4) + 1))))) = false := beq_eq_false_iff_ne.mpr c35
        have c35b1 : (t517 != (wrap64 (t508 + (wrap64 ((Int.tmod (wrap64 (a2)) 4) + 1))))) = true := bne_iff_ne.mpr c35
        have H' := Aside0.mk H
        clear H
        have hcz39_0 : w31.cell? ⟨gb513, 0, none⟩ = some (.int .i64 t509) := (blk_cell BK513.out 0).trans rfl
        have hcz39_1 : w31.cell? ⟨gb513, 1, none⟩ = some (.bool t510) := (blk_cell BK513.out 1).trans rfl
        have hcz39_2 : w31.cell? ⟨gb513, 2, none⟩ = some (.bool t511) := (blk_cell BK513.out 2).trans rfl
        have hfz39_0 := blk_frozen BK513.out 0
        have hfz39_1 := blk_frozen BK513.out 1
        have hfz39_2 := blk_frozen BK513.out 2
        go_wp2_with (first | (go_at_call 13; (with_reducible refine (platenref03_Of.calls kj4 _ _ l0 t509 t517 _ ?side1 ?side2 A34.out).mono ?_); (case side1 => repeat (first | exact (Kd.C_below HR0.out HB.out) | (with_reducible refine Kd.C_alloc ?_ _) | (with_reducible refine Kd.C_drewN ?_ _) | (with_reducible refine Kd.C_drew ?_))); (case side2 => exact HC0.out); rintro e w40 ⟨rfl, hb⟩; have n0_ := Aside0.mk (Kd.R_below (by (with_reducible repeat (first | apply Kd.R_alloc | apply Kd.R_drewN | apply Kd.R_drew)); exact HO516.out) hb); have n1_ := Aside0.mk (blk_below (g := gb513) (o := .cells #[.int .i64 t509, .bool t510, .bool t511] 25 (0, 0)) (by (with_reducible repeat (first | refine kN ?_ _ | refine kD ?_ | refine kA ?_ _)); exact BK513.out) hb); have n2_ := Aside0.mk (below_step (by repeat (first | exact HB.out | apply bA | apply bN | apply bD | refine bS ?_ GE513.out)) hb); clear HO516; clear BK513; clear HB; have HO516 := n0_; have BK513 := n1_; have HB := n2_; clear n0_ n1_ n2_; (try clear hb); (try clear hb2); (try clear hk); (try clear hi)))
        go_meet
        case rel => exact ⟨_, (true), (by first | rfl | (simp; done) | (simp [*]; done)), H', ⟨by have := HJ4.out; first | omega | exact Nat.le_refl _⟩, ⟨by (with_reducible repeat (first | apply Kd.R_alloc | apply Kd.R_drewN | apply Kd.R_drew)); exact HO516.out⟩, ⟨by (with_reducible repeat (first | refine kN ?_ _ | refine kD ?_ | refine kA ?_ _)); exact BK513.out⟩, ⟨by repeat (first | exact HB.out | apply bA | apply bN | apply bD | refine bS ?_ GE513.out)⟩⟩
      ·rw [if_neg c33] at H
       have c33b0 : (t512 == 0) = false := beq_eq_false_iff_ne.mpr c33
       have c33b1 : (t512 != 0) = true := bne_iff_ne.mpr c33
       (first | rw [c33b0] | (simp only [i64_w, i32_w]; rw [c33b0]) | skip)
       have H' := Aside0.mk H
       clear H
       go_wp2
       go_meet
       case rel => exact ⟨_, (true), (by first | rfl | (simp; done) | (simp [*]; done)), H', ⟨by have := HJ4.out; first | omega | exact Nat.le_refl _⟩, ⟨by (with_reducible repeat (first | apply Kd.R_alloc | apply Kd.R_drewN | apply Kd.R_drew)); exact HO516.out⟩, ⟨by (with_reducible repeat (first | refine kN ?_ _ | refine kD ?_ | refine kA ?_ _)); exact BK513.out⟩, ⟨by repeat (first | exact HB.out | apply bA | apply bN | apply bD | refine bS ?_ GE513.out)⟩⟩
     case rest =>
      clear HC25
      try clear c1
      try clear p2
      try clear c3
      try clear c6
      try clear p6
      try clear c7
      try clear c9
      try clear c10
      try clear c12
      try clear c13
      try clear c14
      try clear c17
      try clear c17b0
      try clear c33
      try clear c33b0
      try clear c33b1
      try clear c35
      try clear c35b0
      try clear c35b1
      try clear hcz22_0
      try clear hcz22_1
      try clear hcz22_2
      try clear hcz30_0
      try clear hcz30_1
      try clear hcz30_2
      try clear hcz36_0
      try clear hcz36_1
      try clear hcz36_2
      try clear hcz38_0
      try clear hcz38_1
      try clear hcz38_2
      try clear hcz39_0
      try clear hcz39_1
      try clear hcz39_2
      try clear hfz22_0
      try clear hfz22_1
      try clear hfz22_2
      try clear hfz30_0
      try clear hfz30_1
      try clear hfz30_2
      try clear hfz36_0
      try clear hfz36_1
      try clear hfz36_2
      try clear hfz38_0
      try clear hfz38_1
      try clear hfz38_2
      try clear hfz39_0
      try clear hfz39_1
      try clear hfz39_2
      try clear p2
      obtain ⟨kq, x76_24, rfl, HA, HJ24, HO_15, BK513, HB⟩ := hcut
      cases kq with
      | zero => exact absurd HA.out (by simp [platenlaw19_MotionLines.j1])
      | succ kj24 =>
       have H := HA.out
       clear HA
       simp only [platenlaw19_MotionLines.j1] at H
       by_cases c41 : x76_24 = true
       ·subst c41
        have H1 : (some false) = some r := by rw [if_pos rfl] at H; exact H
        clear H
        have H := H1
        clear H1
        obtain rfl := Option.some.inj H
        go_wp2
        go_ret
        exact ⟨by first | rfl | (simp [errW_none, errW_some] <;> rfl) | (simp [*, errW_none, errW_some] <;> rfl), by repeat (first | exact HB.out | apply bA | apply bN | apply bD | refine bS ?_ GE513.out)⟩
       ·replace c41 := Bool.eq_false_iff.mpr c41
        subst c41
        have H1 : (if 0 ≤ (wrap64 (t508 + (wrap64 ((Int.tmod (wrap64 (a2)) 4) + 1)))) then (if (wrap64 (t508 + (wrap64 ((Int.tmod (wrap64 (a2)) 4) + 1)))) < (t514.length : Int) then ((platenref03_Column.f kj24 l0 t507 (wrap64 ((Int.tmod (wrap64 (a3)) 16) + 1))).bind fun t520 => ((platenref03_Column.f kj24 l0 t509 (wrap64 ((Int.tmod (wrap64 (a3)) 16) + 1))).bind fun t521 => (if t521 ≤ t520 then (if t509 = (wrap64 (((rd_T39 t514 (wrap64 (t508 + (wrap64 ((Int.tmod (wrap64 (a2)) 4) + 1))))).f0) + ((rd_T39 t514 (wrap64 (t508 + (wrap64 ((Int.tmod (wrap64 (a2)) 4) + 1))))).f1))) then (some true) else ((platenref01_Size.f kj24 l0 t509).bind fun t522 => ((platenref03_Column.f kj24 l0 (wrap64 (t509 + t522)) (wrap64 ((Int.tmod (wrap64 (a3)) 16) + 1))).bind fun t523 => (some (decide (t523 > t520)))))) else (some false)))) else (none)) else (none)) = some r := by rw [if_neg (show ¬ (false = true) by decide)] at H; exact H
        clear H
        have H := H1
        clear H1
        obtain ⟨ji42, hji42⟩ : ∃ j_ : Int, (wrap64 (t508 + (wrap64 ((Int.tmod (wrap64 (a2)) 4) + 1)))) = j_ := ⟨_, rfl⟩
        replace H : (if 0 ≤ (ji42) then (if (ji42) < (t514.length : Int) then ((platenref03_Column.f kj24 l0 t507 (wrap64 ((Int.tmod (wrap64 (a3)) 16) + 1))).bind fun t520 => ((platenref03_Column.f kj24 l0 t509 (wrap64 ((Int.tmod (wrap64 (a3)) 16) + 1))).bind fun t521 => (if t521 ≤ t520 then (if t509 = (wrap64 (((rd_T39 t514 (ji42)).f0) + ((rd_T39 t514 (ji42)).f1))) then (some true) else ((platenref01_Size.f kj24 l0 t509).bind fun t522 => ((platenref03_Column.f kj24 l0 (wrap64 (t509 + t522)) (wrap64 ((Int.tmod (wrap64 (a3)) 16) + 1))).bind fun t523 => (some (decide (t523 > t520)))))) else (some false)))) else (none)) else (none)) = some r := by first | (rw [hji42] at H; exact H) | (simp only [hji42] at H ⊢; exact H)
        (try rw [hji42] at c17b0)
        have hji42w : (IntKind.i64.wrap (t508 + (wrap64 ((Int.tmod (wrap64 (a2)) 4) + 1)))) = ji42 := (i64_w _).trans hji42
        by_cases c43 : 0 ≤ (ji42)
        ·rw [if_pos c43] at H
         have c43b0 : decide (0 ≤ (ji42)) = true := decide_eq_true c43
         clear c43
         by_cases c44 : (ji42) < (t514.length : Int)
         ·rw [if_pos c44] at H
          have c44b0 : decide ((ji42) < (t514.length : Int)) = true := decide_eq_true c44
          clear c44
          replace H := Option.bind_eq_some_iff.mp H
          obtain ⟨t520, A450, H⟩ := H
          replace H : ((platenref03_Column.f kj24 l0 t509 (wrap64 ((Int.tmod (wrap64 (a3)) 16) + 1))).bind fun t521 => (if t521 ≤ t520 then (if t509 = (wrap64 (((rd_T39 t514 (ji42)).f0) + ((rd_T39 t514 (ji42)).f1))) then (some true) else ((platenref01_Size.f kj24 l0 t509).bind fun t522 => ((platenref03_Column.f kj24 l0 (wrap64 (t509 + t522)) (wrap64 ((Int.tmod (wrap64 (a3)) 16) + 1))).bind fun t523 => (some (decide (t523 > t520)))))) else (some false))) = some r := H
          have A45 := Aside0.mk A450
          clear A450
          replace H := Option.bind_eq_some_iff.mp H
          obtain ⟨t521, A460, H⟩ := H
          replace H : (if t521 ≤ t520 then (if t509 = (wrap64 (((rd_T39 t514 (ji42)).f0) + ((rd_T39 t514 (ji42)).f1))) then (some true) else ((platenref01_Size.f kj24 l0 t509).bind fun t522 => ((platenref03_Column.f kj24 l0 (wrap64 (t509 + t522)) (wrap64 ((Int.tmod (wrap64 (a3)) 16) + 1))).bind fun t523 => (some (decide (t523 > t520)))))) else (some false)) = some r := H
          have A46 := Aside0.mk A460
          clear A460
          by_cases c47 : t521 ≤ t520
          ·rw [if_pos c47] at H
           have c47b0 : decide (t521 ≤ t520) = true := decide_eq_true c47
           clear c47
           by_cases c48 : t509 = (wrap64 (((rd_T39 t514 (ji42)).f0) + ((rd_T39 t514 (ji42)).f1)))
           ·rw [if_pos c48] at H
            have c48b0 : (t509 == (wrap64 (((rd_T39 t514 (ji42)).f0) + ((rd_T39 t514 (ji42)).f1)))) = true := beq_iff_eq.mpr c48
            have c48b1 : (t509 != (wrap64 (((rd_T39 t514 (ji42)).f0) + ((rd_T39 t514 (ji42)).f1)))) = false := bne_eq_false_iff_eq.mpr c48
            clear c48
            obtain rfl := Option.some.inj H
            try go_wp2
            have n0_ := Aside0.mk (Kd.R_drew HO_15.out)
            have n1_ := Aside0.mk (blk_drew BK513.out)
            have n2_ := Aside0.mk (below_drew1 HB.out)
            clear HO_15
            clear BK513
            clear HB
            have HO_15 := n0_
            have BK513 := n1_
            have HB := n2_
            clear n0_ n1_ n2_
            have p518 : 0 ≤ ((ji42) : Int) := of_decide_eq_true (by first | (with_reducible assumption) | assumption)
            have q518 : (ji42) < (t514.length : Int) := of_decide_eq_true (by first | (with_reducible assumption) | assumption)
            obtain ⟨ad518, e518, hx518_0, hx518_1⟩ := at_T39 (Kd.R_reads' HO_15.out).2.2 (ji42) p518 q518
            cases e518
            replace p518 := eq_true p518
            replace q518 := eq_true q518
            have p519 : 0 ≤ ((ji42) : Int) := of_decide_eq_true (by first | (with_reducible assumption) | assumption)
            have q519 : (ji42) < (t514.length : Int) := of_decide_eq_true (by first | (with_reducible assumption) | assumption)
            obtain ⟨ad519, e519, hx519_0, hx519_1⟩ := at_T39 (Kd.R_reads' HO_15.out).2.2 (ji42) p519 q519
            obtain rfl : ad518 = ad519 := (by injection e519)
            replace p519 := eq_true p519
            replace q519 := eq_true q519
            refine start_ (n := 19) (S := fun w' => w'.cell? ⟨gb513, 0, none⟩ = some (.int .i64 t509) ∧ w'.cell? ⟨gb513, 1, none⟩ = some (.bool t510) ∧ w'.cell? ⟨gb513, 2, none⟩ = some (.bool t511) ∧ w'.cell? (ad518.add (((ji42)).toNat * 2)) = some (.int .i64 ((rd_T39 t514 (ji42)).f0)) ∧ w'.cell? ⟨(ad518.add (((ji42)).toNat * 2)).block, (ad518.add (((ji42)).toNat * 2)).off + 1, none⟩ = some (.int .i64 ((rd_T39 t514 (ji42)).f1)) ∧ w'.cell? (ad518.add (((ji42)).toNat * 2)) = some (.int .i64 ((rd_T39 t514 (ji42)).f0)) ∧ w'.cell? ⟨(ad518.add (((ji42)).toNat * 2)).block, (ad518.add (((ji42)).toNat * 2)).off + 1, none⟩ = some (.int .i64 ((rd_T39 t514 (ji42)).f1))) (ds := []) #[nn,nn,nn,nn,nn,nn,nn,nn,nn,nn,nn,nn,nn,nn,nn,nn,nn,nn,nn] (by kernel_rfl) rfl rfl ⟨(blk_cell BK513.out 0).trans rfl, (blk_cell BK513.out 1).trans rfl, (blk_cell BK513.out 2).trans rfl, hx518_0, hx518_1, hx519_0, hx519_1⟩ (fun hHeld => ?_); refine with_tabW platenlaw19_MotionLines.tab13 platenlaw19_MotionLines.bits13 (fun HT_ HW_ => ?_)
            generalize wc.drew = w49 at HO_15 BK513 HB hx518_0 hx518_1 hx519_0 hx519_1 hHeld ⊢
            refine pure_ (i := 0) (N := some 77) (v := ?_) (a' := ?_) #[yy,nn,nn,nn,nn,nn,nn,nn,nn,nn,nn,nn,nn,nn,nn,nn,nn,nn,nn] rfl rfl (any_of HT_.out (by kernel_rfl)) (fun _ _ _ h => h) (Or.inl ⟨by rfl, ?_⟩) ?_ ?_
            rotate_left
            ·intro w'
             go_simp
             with_reducible rfl
            rotate_left
            ·simp only [Act.put, zT, z0, zS, i64_w, i32_w]
             rfl
            refine pure_ (i := 2) (N := some 79) (v := ?_) (a' := ?_) #[yy,nn,yy,nn,nn,nn,nn,nn,nn,nn,nn,nn,nn,nn,nn,nn,nn,nn,nn] rfl rfl (any_of HT_.out (by kernel_rfl)) (fun _ _ _ h => h) (Or.inl ⟨by rfl, ?_⟩) ?_ ?_
            rotate_left
            ·intro w'
             go_simp
             with_reducible rfl
            rotate_left
            ·simp only [Act.put, zT, z0, zS, i64_w, i32_w]
             rfl
            refine pure_ (i := 3) (N := some 80) (v := ?_) (a' := ?_) #[yy,nn,yy,yy,nn,nn,nn,nn,nn,nn,nn,nn,nn,nn,nn,nn,nn,nn,nn] rfl rfl (any_of HT_.out (by kernel_rfl)) (fun _ _ _ h => h) (Or.inl ⟨by rfl, ?_⟩) ?_ ?_
            rotate_left
            ·intro w'
             go_simp
             with_reducible rfl
            rotate_left
            ·simp only [Act.put, zT, z0, zS, i64_w, i32_w]
             rfl
            refine pure_ (i := 4) (N := some 81) (v := ?_) (a' := ?_) #[yy,nn,yy,yy,yy,nn,nn,nn,nn,nn,nn,nn,nn,nn,nn,nn,nn,nn,nn] rfl rfl (any_of HT_.out (by kernel_rfl)) (fun _ _ _ h => h) (Or.inl ⟨by rfl, ?_⟩) ?_ ?_
            rotate_left
            ·intro w'
             go_simp
             with_reducible rfl
            rotate_left
            ·simp only [Act.put, zT, z0, zS, i64_w, i32_w]
             rfl
            refine pure_ (i := 5) (N := some 82) (v := ?_) (a' := ?_) #[yy,nn,yy,yy,yy,yy,nn,nn,nn,nn,nn,nn,nn,nn,nn,nn,nn,nn,nn] rfl rfl (any_of HT_.out (by kernel_rfl)) (fun _ _ _ h => h) (Or.inl ⟨by rfl, ?_⟩) ?_ ?_
            rotate_left
            ·intro w'
             go_simp
             with_reducible rfl
            rotate_left
            ·simp only [Act.put, zT, z0, zS, i64_w, i32_w]
             rfl
            refine pure_ (i := 6) (N := some 83) (v := ?_) (a' := ?_) #[yy,nn,yy,yy,yy,yy,yy,nn,nn,nn,nn,nn,nn,nn,nn,nn,nn,nn,nn] rfl rfl (any_of HT_.out (by kernel_rfl)) (fun _ _ _ h => h) (Or.inl ⟨by rfl, ?_⟩) ?_ ?_
            rotate_left
            ·intro w'
             go_simp
             with_reducible rfl
            rotate_left
            ·simp only [Act.put, zT, z0, zS, i64_w, i32_w]
             rfl
            refine pure_ (i := 7) (N := some 84) (v := ?_) (a' := ?_) #[yy,nn,yy,yy,yy,yy,yy,yy,nn,nn,nn,nn,nn,nn,nn,nn,nn,nn,nn] rfl rfl (any_of HT_.out (by kernel_rfl)) (fun _ _ _ h => h) (Or.inl ⟨by rfl, ?_⟩) ?_ ?_
            rotate_left
            ·intro w'
             go_simp
             with_reducible rfl
            rotate_left
            ·simp only [Act.put, zT, z0, zS, i64_w, i32_w]
             rfl
            refine pure_ (i := 9) (N := some 86) (v := ?_) (a' := ?_) #[yy,nn,yy,yy,yy,yy,yy,yy,nn,yy,nn,nn,nn,nn,nn,nn,nn,nn,nn] rfl rfl (any_of HT_.out (by kernel_rfl)) (fun _ _ _ h => h) (Or.inl ⟨by rfl, ?_⟩) ?_ ?_
            rotate_left
            ·intro w'
             go_simp
             with_reducible rfl
            rotate_left
            ·simp only [Act.put, zT, z0, zS, i64_w, i32_w]
             rfl
            refine pure_ (i := 10) (N := some 87) (v := ?_) (a' := ?_) #[yy,nn,yy,yy,yy,yy,yy,yy,nn,yy,yy,nn,nn,nn,nn,nn,nn,nn,nn] rfl rfl (any_of HT_.out (by kernel_rfl)) (fun _ _ _ h => h) (Or.inl ⟨by rfl, ?_⟩) ?_ ?_
            rotate_left
            ·intro w'
             go_simp
             with_reducible rfl
            rotate_left
            ·simp only [Act.put, zT, z0, zS, i64_w, i32_w]
             rfl
            refine pure_ (i := 11) (N := some 88) (v := ?_) (a' := ?_) #[yy,nn,yy,yy,yy,yy,yy,yy,nn,yy,yy,yy,nn,nn,nn,nn,nn,nn,nn] rfl rfl (any_of HT_.out (by kernel_rfl)) (fun _ _ _ h => h) (Or.inl ⟨by rfl, ?_⟩) ?_ ?_
            rotate_left
            ·intro w'
             go_simp
             with_reducible rfl
            rotate_left
            ·simp only [Act.put, zT, z0, zS, i64_w, i32_w]
             rfl
            refine pure_ (i := 12) (N := some 89) (v := ?_) (a' := ?_) #[yy,nn,yy,yy,yy,yy,yy,yy,nn,yy,yy,yy,yy,nn,nn,nn,nn,nn,nn] rfl rfl (any_of HT_.out (by kernel_rfl)) (fun _ _ _ h => h) (Or.inl ⟨by rfl, ?_⟩) ?_ ?_
            rotate_left
            ·intro w'
             go_simp
             with_reducible rfl
            rotate_left
            ·simp only [Act.put, zT, z0, zS, i64_w, i32_w]
             rfl
            refine pure_ (i := 13) (N := some 90) (v := ?_) (a' := ?_) #[yy,nn,yy,yy,yy,yy,yy,yy,nn,yy,yy,yy,yy,yy,nn,nn,nn,nn,nn] rfl rfl (any_of HT_.out (by kernel_rfl)) (fun _ _ _ h => h) (Or.inl ⟨by rfl, ?_⟩) ?_ ?_
            rotate_left
            ·intro w'
             go_simp
             with_reducible rfl
            rotate_left
            ·simp only [Act.put, zT, z0, zS, i64_w, i32_w]
             rfl
            refine pure_ (i := 14) (N := some 91) (v := ?_) (a' := ?_) #[yy,nn,yy,yy,yy,yy,yy,yy,nn,yy,yy,yy,yy,yy,yy,nn,nn,nn,nn] rfl rfl (any_of HT_.out (by kernel_rfl)) (fun _ _ _ h => h) (Or.inl ⟨by rfl, ?_⟩) ?_ ?_
            rotate_left
            ·intro w'
             go_simp
             with_reducible rfl
            rotate_left
            ·simp only [Act.put, zT, z0, zS, i64_w, i32_w]
             rfl
            refine take_ (i := 1) (N := some 78) (v := ?_) (a' := ?_) #[yy,yy,yy,yy,yy,yy,yy,yy,nn,yy,yy,yy,yy,yy,yy,nn,nn,nn,nn] rfl rfl (take_ofW HT_.out HW_.out (by kernel_rfl)) (fun _ _ _ h => h) (Or.inl ⟨by rfl, ?_⟩) hHeld ?_ ?_
            rotate_left
            ·rintro w' ⟨s0, s1, s2, s3, s4, s5, s6⟩
             go_simp
             with_reducible rfl
            rotate_left
            ·simp only [Act.put, zT, z0, zS, i64_w, i32_w]
             rfl
            refine take_ (i := 8) (N := some 85) (v := ?_) (a' := ?_) #[yy,yy,yy,yy,yy,yy,yy,yy,yy,yy,yy,yy,yy,yy,yy,nn,nn,nn,nn] rfl rfl (take_ofW HT_.out HW_.out (by kernel_rfl)) (fun _ _ _ h => h) (Or.inl ⟨by rfl, ?_⟩) hHeld ?_ ?_
            rotate_left
            ·rintro w' ⟨s0, s1, s2, s3, s4, s5, s6⟩
             go_simp
             with_reducible rfl
            rotate_left
            ·simp only [Act.put, zT, z0, zS, i64_w, i32_w]
             rfl
            refine take_ (i := 15) (N := some 92) (v := ?_) (a' := ?_) #[yy,yy,yy,yy,yy,yy,yy,yy,yy,yy,yy,yy,yy,yy,yy,yy,nn,nn,nn] rfl rfl (take_ofW HT_.out HW_.out (by kernel_rfl)) (fun _ _ _ h => h) (Or.inl ⟨by rfl, ?_⟩) hHeld ?_ ?_
            rotate_left
            ·rintro w' ⟨s0, s1, s2, s3, s4, s5, s6⟩
             go_simp
             with_reducible rfl
            rotate_left
            ·simp only [Act.put, zT, z0, zS, i64_w, i32_w]
             rfl
            refine pure_ (i := 16) (N := some 93) (v := ?_) (a' := ?_) #[yy,yy,yy,yy,yy,yy,yy,yy,yy,yy,yy,yy,yy,yy,yy,yy,yy,nn,nn] rfl rfl (any_of HT_.out (by kernel_rfl)) (fun _ _ _ h => h) (Or.inl ⟨by rfl, ?_⟩) ?_ ?_
            rotate_left
            ·intro w'
             go_simp
             with_reducible rfl
            rotate_left
            ·simp only [Act.put, zT, z0, zS, i64_w, i32_w]
             rfl
            refine pure_ (i := 17) (N := some 94) (v := ?_) (a' := ?_) #[yy,yy,yy,yy,yy,yy,yy,yy,yy,yy,yy,yy,yy,yy,yy,yy,yy,yy,nn] rfl rfl (any_of HT_.out (by kernel_rfl)) (fun _ _ _ h => h) (Or.inl ⟨by rfl, ?_⟩) ?_ ?_
            rotate_left
            ·intro w'
             go_simp
             with_reducible rfl
            rotate_left
            ·simp only [Act.put, zT, z0, zS, i64_w, i32_w]
             rfl
            refine pure_ (i := 18) (N := some 16) (v := ?_) (a' := ?_) #[yy,yy,yy,yy,yy,yy,yy,yy,yy,yy,yy,yy,yy,yy,yy,yy,yy,yy,yy] rfl rfl (any_of HT_.out (by kernel_rfl)) (fun _ _ _ h => h) (Or.inl ⟨by rfl, ?_⟩) ?_ ?_
            rotate_left
            ·intro w'
             go_simp
             with_reducible rfl
            rotate_left
            ·simp only [Act.put, zT, z0, zS, i64_w, i32_w]
             rfl
            refine done_ (done_of HT_.out (by kernel_rfl)) ?_
            try go_wp2_with (first | ((with_reducible refine gate_callee (f := 15) rfl ?_); refine goesL_ (some 98) rfl rfl Tryd.func15 (by kernel_rfl) rfl #[.slice A0 l0.length c0, .int .i64 t507, .int .i64 (wrap64 ((Int.tmod (wrap64 (a3)) 16) + 1))] rfl (by (try simp only [List.map_toArray, List.map_cons, List.map_nil]); first | done | rfl | (simp only [List.length_drop, List.length_take]; rfl)) ?_; (with_reducible refine (platenref03_Column.calls kj24 _ _ l0 t507 (wrap64 ((Int.tmod (wrap64 (a3)) 16) + 1)) t520 _ ?side1 ?side2 A45.out).mono ?_); (case side1 => repeat (first | exact (Kd.C_below HR0.out HB.out) | (with_reducible refine Kd.C_alloc ?_ _) | (with_reducible refine Kd.C_drewN ?_ _) | (with_reducible refine Kd.C_drew ?_))); (case side2 => exact HC0.out); rintro e w50 ⟨rfl, hb⟩; refine ⟨_, rfl, ?_⟩; have n0_ := Aside0.mk (Kd.R_below (by (with_reducible repeat (first | apply Kd.R_alloc | apply Kd.R_drewN | apply Kd.R_drew)); exact HO_15.out) hb); have n1_ := Aside0.mk (blk_below (g := gb513) (o := .cells #[.int .i64 t509, .bool t510, .bool t511] 25 (0, 0)) (by (with_reducible repeat (first | refine kN ?_ _ | refine kD ?_ | refine kA ?_ _)); exact BK513.out) hb); have n2_ := Aside0.mk (below_step (by repeat (first | exact HB.out | apply bA | apply bN | apply bD | refine bS ?_ GE513.out)) hb); clear HO_15; clear BK513; clear HB; have HO_15 := n0_; have BK513 := n1_; have HB := n2_; clear n0_ n1_ n2_; (try clear hb); (try clear hb2); (try clear hk); (try clear hi)))
            have n0_ := Aside0.mk (Kd.R_drew HO_15.out)
            have n1_ := Aside0.mk (blk_drew BK513.out)
            have n2_ := Aside0.mk (below_drew1 HB.out)
            clear HO_15
            clear BK513
            clear HB
            have HO_15 := n0_
            have BK513 := n1_
            have HB := n2_
            clear n0_ n1_ n2_
            refine start_ (n := 25) (S := fun w' => w'.cell? ⟨gb513, 0, none⟩ = some (.int .i64 t509) ∧ w'.cell? ⟨gb513, 1, none⟩ = some (.bool t510) ∧ w'.cell? ⟨gb513, 2, none⟩ = some (.bool t511)) (ds := []) #[nn,nn,nn,nn,nn,nn,nn,nn,nn,nn,nn,nn,nn,nn,nn,nn,nn,nn,nn,nn,nn,nn,nn,nn,nn] (by kernel_rfl) rfl rfl ⟨(blk_cell BK513.out 0).trans rfl, (blk_cell BK513.out 1).trans rfl, (blk_cell BK513.out 2).trans rfl⟩ (fun hHeld => ?_); refine with_tabW platenlaw19_MotionLines.tab15 platenlaw19_MotionLines.bits15 (fun HT_ HW_ => ?_)
            generalize w50.drew = w51 at HO_15 BK513 HB hHeld ⊢
            refine pure_ (i := 0) (N := some 99) (v := ?_) (a' := ?_) #[yy,nn,nn,nn,nn,nn,nn,nn,nn,nn,nn,nn,nn,nn,nn,nn,nn,nn,nn,nn,nn,nn,nn,nn,nn] rfl rfl (any_of HT_.out (by kernel_rfl)) (fun _ _ _ h => h) (Or.inl ⟨by rfl, ?_⟩) ?_ ?_
            rotate_left
            ·intro w'
             go_simp
             with_reducible rfl
            rotate_left
            ·simp only [Act.put, zT, z0, zS, i64_w, i32_w]
             rfl
            refine pure_ (i := 1) (N := some 100) (v := ?_) (a' := ?_) #[yy,yy,nn,nn,nn,nn,nn,nn,nn,nn,nn,nn,nn,nn,nn,nn,nn,nn,nn,nn,nn,nn,nn,nn,nn] rfl rfl (any_of HT_.out (by kernel_rfl)) (fun _ _ _ h => h) (Or.inl ⟨by rfl, ?_⟩) ?_ ?_
            rotate_left
            ·intro w'
             go_simp
             with_reducible rfl
            rotate_left
            ·simp only [Act.put, zT, z0, zS, i64_w, i32_w]
             rfl
            refine pure_ (i := 3) (N := some 102) (v := ?_) (a' := ?_) #[yy,yy,nn,yy,nn,nn,nn,nn,nn,nn,nn,nn,nn,nn,nn,nn,nn,nn,nn,nn,nn,nn,nn,nn,nn] rfl rfl (any_of HT_.out (by kernel_rfl)) (fun _ _ _ h => h) (Or.inl ⟨by rfl, ?_⟩) ?_ ?_
            rotate_left
            ·intro w'
             go_simp
             with_reducible rfl
            rotate_left
            ·simp only [Act.put, zT, z0, zS, i64_w, i32_w]
             rfl
            refine pure_ (i := 5) (N := some 104) (v := ?_) (a' := ?_) #[yy,yy,nn,yy,nn,yy,nn,nn,nn,nn,nn,nn,nn,nn,nn,nn,nn,nn,nn,nn,nn,nn,nn,nn,nn] rfl rfl (any_of HT_.out (by kernel_rfl)) (fun _ _ _ h => h) (Or.inl ⟨by rfl, ?_⟩) ?_ ?_
            rotate_left
            ·intro w'
             go_simp
             with_reducible rfl
            rotate_left
            ·simp only [Act.put, zT, z0, zS, i64_w, i32_w]
             rfl
            refine take_ (i := 2) (N := some 101) (v := ?_) (a' := ?_) #[yy,yy,yy,yy,nn,yy,nn,nn,nn,nn,nn,nn,nn,nn,nn,nn,nn,nn,nn,nn,nn,nn,nn,nn,nn] rfl rfl (take_ofW HT_.out HW_.out (by kernel_rfl)) (fun _ _ _ h => h) (Or.inl ⟨by rfl, ?_⟩) hHeld ?_ ?_
            rotate_left
            ·rintro w' ⟨s0, s1, s2⟩
             go_simp
             with_reducible rfl
            rotate_left
            ·simp only [Act.put, zT, z0, zS, i64_w, i32_w]
             rfl
            refine one_ (i := 4) (N := some 103) #[yy,yy,yy,yy,yy,yy,nn,nn,nn,nn,nn,nn,nn,nn,nn,nn,nn,nn,nn,nn,nn,nn,nn,nn,nn] rfl rfl (one_of HT_.out (by kernel_rfl)) (by decide) (fun K hK => ?_)
            refine goes_ Tryd.func15 (by kernel_rfl) rfl #[.slice A0 l0.length c0, .int .i64 t509, .int .i64 (wrap64 ((Int.tmod (wrap64 (a3)) 16) + 1))] (by rfl) rfl rfl (by (try simp only [List.map_toArray, List.map_cons, List.map_nil]); first | done | rfl | (simp only [List.length_drop, List.length_take]; rfl)) ?_
            with_reducible refine (platenref03_Column.calls kj24 _ _ l0 t509 (wrap64 ((Int.tmod (wrap64 (a3)) 16) + 1)) t521 _ ?side1 ?side2 A46.out).mono ?_
            (case side1 => repeat (first | exact (Kd.C_below HR0.out HB.out) | (with_reducible refine Kd.C_alloc ?_ _) | (with_reducible refine Kd.C_drewN ?_ _) | (with_reducible refine Kd.C_drew ?_)))
            (case side2 => exact HC0.out)
            rintro e w52 ⟨rfl, hb⟩
            refine ⟨_, rfl, ?_⟩
            have n0_ := Aside0.mk (Kd.R_below (by (with_reducible repeat (first | apply Kd.R_alloc | apply Kd.R_drewN | apply Kd.R_drew)); exact HO_15.out) hb)
            have n1_ := Aside0.mk (blk_below (g := gb513) (o := .cells #[.int .i64 t509, .bool t510, .bool t511] 25 (0, 0)) (by (with_reducible repeat (first | refine kN ?_ _ | refine kD ?_ | refine kA ?_ _)); exact BK513.out) hb)
            have n2_ := Aside0.mk (below_step (by repeat (first | exact HB.out | apply bA | apply bN | apply bD | refine bS ?_ GE513.out)) hb)
            clear HO_15
            clear BK513
            clear HB
            have HO_15 := n0_
            have BK513 := n1_
            have HB := n2_
            clear n0_ n1_ n2_
            (try clear hb)
            (try clear hb2)
            (try clear hk)
            (try clear hi)
            refine hK.out _ _ ⟨(blk_cell BK513.out 0).trans rfl, (blk_cell BK513.out 1).trans rfl, (blk_cell BK513.out 2).trans rfl⟩ (fun hHeld => ?_)
            clear hK K
            refine norm_ (a' := ?_) ?_ ?_
            rotate_left
            ·show Act.put _ (some 103) _ = _
             simp only [Act.put, zT, z0, zS, i64_w, i32_w]
             rfl
            refine pure_ (i := 6) (N := some 105) (v := ?_) (a' := ?_) #[yy,yy,yy,yy,yy,yy,yy,nn,nn,nn,nn,nn,nn,nn,nn,nn,nn,nn,nn,nn,nn,nn,nn,nn,nn] rfl rfl (any_of HT_.out (by kernel_rfl)) (fun _ _ _ h => h) (Or.inl ⟨by rfl, ?_⟩) ?_ ?_
            rotate_left
            ·intro w'
             go_simp
             with_reducible rfl
            rotate_left
            ·simp only [Act.put, zT, z0, zS, i64_w, i32_w]
             rfl
            refine pure_ (i := 7) (N := some 106) (v := ?_) (a' := ?_) #[yy,yy,yy,yy,yy,yy,yy,yy,nn,nn,nn,nn,nn,nn,nn,nn,nn,nn,nn,nn,nn,nn,nn,nn,nn] rfl rfl (any_of HT_.out (by kernel_rfl)) (fun _ _ _ h => h) (Or.inl ⟨by rfl, ?_⟩) ?_ ?_
            rotate_left
            ·intro w'
             go_simp
             with_reducible rfl
            rotate_left
            ·simp only [Act.put, zT, z0, zS, i64_w, i32_w]
             rfl
            refine pure_ (i := 8) (N := some 107) (v := ?_) (a' := ?_) #[yy,yy,yy,yy,yy,yy,yy,yy,yy,nn,nn,nn,nn,nn,nn,nn,nn,nn,nn,nn,nn,nn,nn,nn,nn] rfl rfl (any_of HT_.out (by kernel_rfl)) (fun _ _ _ h => h) (Or.inl ⟨by rfl, ?_⟩) ?_ ?_
            rotate_left
            ·intro w'
             go_simp
             with_reducible rfl
            rotate_left
            ·simp only [Act.put, zT, z0, zS, i64_w, i32_w]
             rfl
            refine pure_ (i := 9) (N := some 108) (v := ?_) (a' := ?_) #[yy,yy,yy,yy,yy,yy,yy,yy,yy,yy,nn,nn,nn,nn,nn,nn,nn,nn,nn,nn,nn,nn,nn,nn,nn] rfl rfl (any_of HT_.out (by kernel_rfl)) (fun _ _ _ h => h) (Or.inl ⟨by rfl, ?_⟩) ?_ ?_
            rotate_left
            ·intro w'
             go_simp
             with_reducible rfl
            rotate_left
            ·simp only [Act.put, zT, z0, zS, i64_w, i32_w]
             rfl
            refine pure_ (i := 10) (N := some 109) (v := undef) (a' := ?_) #[yy,yy,yy,yy,yy,yy,yy,yy,yy,yy,yy,nn,nn,nn,nn,nn,nn,nn,nn,nn,nn,nn,nn,nn,nn] rfl rfl (any_of HT_.out (by kernel_rfl)) (fun _ _ _ h => h) (Or.inr ⟨by rfl, rfl⟩) ?_ ?_
            rotate_left
            ·simp only [Act.put, zT, z0, zS, i64_w, i32_w]
             rfl
            refine pure_ (i := 11) (N := some 110) (v := undef) (a' := ?_) #[yy,yy,yy,yy,yy,yy,yy,yy,yy,yy,yy,yy,nn,nn,nn,nn,nn,nn,nn,nn,nn,nn,nn,nn,nn] rfl rfl (any_of HT_.out (by kernel_rfl)) (fun _ _ _ h => h) (Or.inr ⟨by rfl, rfl⟩) ?_ ?_
            rotate_left
            ·simp only [Act.put, zT, z0, zS, i64_w, i32_w]
             rfl
            refine pure_ (i := 12) (N := some 111) (v := undef) (a' := ?_) #[yy,yy,yy,yy,yy,yy,yy,yy,yy,yy,yy,yy,yy,nn,nn,nn,nn,nn,nn,nn,nn,nn,nn,nn,nn] rfl rfl (any_of HT_.out (by kernel_rfl)) (fun _ _ _ h => h) (Or.inr ⟨by rfl, rfl⟩) ?_ ?_
            rotate_left
            ·simp only [Act.put, zT, z0, zS, i64_w, i32_w]
             rfl
            refine pure_ (i := 13) (N := some 112) (v := undef) (a' := ?_) #[yy,yy,yy,yy,yy,yy,yy,yy,yy,yy,yy,yy,yy,yy,nn,nn,nn,nn,nn,nn,nn,nn,nn,nn,nn] rfl rfl (any_of HT_.out (by kernel_rfl)) (fun _ _ _ h => h) (Or.inr ⟨by rfl, rfl⟩) ?_ ?_
            rotate_left
            ·simp only [Act.put, zT, z0, zS, i64_w, i32_w]
             rfl
            refine pure_ (i := 14) (N := some 113) (v := undef) (a' := ?_) #[yy,yy,yy,yy,yy,yy,yy,yy,yy,yy,yy,yy,yy,yy,yy,nn,nn,nn,nn,nn,nn,nn,nn,nn,nn] rfl rfl (any_of HT_.out (by kernel_rfl)) (fun _ _ _ h => h) (Or.inr ⟨by rfl, rfl⟩) ?_ ?_
            rotate_left
            ·simp only [Act.put, zT, z0, zS, i64_w, i32_w]
             rfl
            refine pure_ (i := 15) (N := some 114) (v := undef) (a' := ?_) #[yy,yy,yy,yy,yy,yy,yy,yy,yy,yy,yy,yy,yy,yy,yy,yy,nn,nn,nn,nn,nn,nn,nn,nn,nn] rfl rfl (any_of HT_.out (by kernel_rfl)) (fun _ _ _ h => h) (Or.inr ⟨by rfl, rfl⟩) ?_ ?_
            rotate_left
            ·simp only [Act.put, zT, z0, zS, i64_w, i32_w]
             rfl
            refine pure_ (i := 16) (N := some 115) (v := undef) (a' := ?_) #[yy,yy,yy,yy,yy,yy,yy,yy,yy,yy,yy,yy,yy,yy,yy,yy,yy,nn,nn,nn,nn,nn,nn,nn,nn] rfl rfl (any_of HT_.out (by kernel_rfl)) (fun _ _ _ h => h) (Or.inr ⟨by rfl, rfl⟩) ?_ ?_
            rotate_left
            ·simp only [Act.put, zT, z0, zS, i64_w, i32_w]
             rfl
            refine pure_ (i := 17) (N := some 116) (v := undef) (a' := ?_) #[yy,yy,yy,yy,yy,yy,yy,yy,yy,yy,yy,yy,yy,yy,yy,yy,yy,yy,nn,nn,nn,nn,nn,nn,nn] rfl rfl (any_of HT_.out (by kernel_rfl)) (fun _ _ _ h => h) (Or.inr ⟨by rfl, rfl⟩) ?_ ?_
            rotate_left
            ·simp only [Act.put, zT, z0, zS, i64_w, i32_w]
             rfl
            refine pure_ (i := 18) (N := some 117) (v := undef) (a' := ?_) #[yy,yy,yy,yy,yy,yy,yy,yy,yy,yy,yy,yy,yy,yy,yy,yy,yy,yy,yy,nn,nn,nn,nn,nn,nn] rfl rfl (any_of HT_.out (by kernel_rfl)) (fun _ _ _ h => h) (Or.inr ⟨by rfl, rfl⟩) ?_ ?_
            rotate_left
            ·simp only [Act.put, zT, z0, zS, i64_w, i32_w]
             rfl
            refine pure_ (i := 19) (N := some 118) (v := undef) (a' := ?_) #[yy,yy,yy,yy,yy,yy,yy,yy,yy,yy,yy,yy,yy,yy,yy,yy,yy,yy,yy,yy,nn,nn,nn,nn,nn] rfl rfl (any_of HT_.out (by kernel_rfl)) (fun _ _ _ h => h) (Or.inr ⟨by rfl, rfl⟩) ?_ ?_
            rotate_left
            ·simp only [Act.put, zT, z0, zS, i64_w, i32_w]
             rfl
            refine pure_ (i := 20) (N := some 119) (v := undef) (a' := ?_) #[yy,yy,yy,yy,yy,yy,yy,yy,yy,yy,yy,yy,yy,yy,yy,yy,yy,yy,yy,yy,yy,nn,nn,nn,nn] rfl rfl (any_of HT_.out (by kernel_rfl)) (fun _ _ _ h => h) (Or.inr ⟨by rfl, rfl⟩) ?_ ?_
            rotate_left
            ·simp only [Act.put, zT, z0, zS, i64_w, i32_w]
             rfl
            refine pure_ (i := 21) (N := some 120) (v := undef) (a' := ?_) #[yy,yy,yy,yy,yy,yy,yy,yy,yy,yy,yy,yy,yy,yy,yy,yy,yy,yy,yy,yy,yy,yy,nn,nn,nn] rfl rfl (any_of HT_.out (by kernel_rfl)) (fun _ _ _ h => h) (Or.inr ⟨by rfl, rfl⟩) ?_ ?_
            rotate_left
            ·simp only [Act.put, zT, z0, zS, i64_w, i32_w]
             rfl
            refine pure_ (i := 22) (N := some 121) (v := ?_) (a' := ?_) #[yy,yy,yy,yy,yy,yy,yy,yy,yy,yy,yy,yy,yy,yy,yy,yy,yy,yy,yy,yy,yy,yy,yy,nn,nn] rfl rfl (any_of HT_.out (by kernel_rfl)) (fun _ _ _ h => h) (Or.inl ⟨by rfl, ?_⟩) ?_ ?_
            rotate_left
            ·intro w'
             go_simp
             with_reducible rfl
            rotate_left
            ·simp only [Act.put, zT, z0, zS, i64_w, i32_w]
             rfl
            refine pure_ (i := 23) (N := some 122) (v := ?_) (a' := ?_) #[yy,yy,yy,yy,yy,yy,yy,yy,yy,yy,yy,yy,yy,yy,yy,yy,yy,yy,yy,yy,yy,yy,yy,yy,nn] rfl rfl (any_of HT_.out (by kernel_rfl)) (fun _ _ _ h => h) (Or.inl ⟨by rfl, ?_⟩) ?_ ?_
            rotate_left
            ·intro w'
             go_simp
             with_reducible rfl
            rotate_left
            ·simp only [Act.put, zT, z0, zS, i64_w, i32_w]
             rfl
            refine pure_ (i := 24) (N := some 8) (v := ?_) (a' := ?_) #[yy,yy,yy,yy,yy,yy,yy,yy,yy,yy,yy,yy,yy,yy,yy,yy,yy,yy,yy,yy,yy,yy,yy,yy,yy] rfl rfl (any_of HT_.out (by kernel_rfl)) (fun _ _ _ h => h) (Or.inl ⟨by rfl, ?_⟩) ?_ ?_
            rotate_left
            ·intro w'
             go_simp
             with_reducible rfl
            rotate_left
            ·simp only [Act.put, zT, z0, zS, i64_w, i32_w]
             rfl
            refine done_ (done_of HT_.out (by kernel_rfl)) ?_
            try go_wp2
            go_ret
            exact ⟨by first | rfl | (simp [errW_none, errW_some] <;> rfl) | (simp only [← hji42]; first | rfl | (simp [errW_none, errW_some] <;> rfl)) | (simp [*, errW_none, errW_some] <;> rfl), by repeat (first | exact HB.out | apply bA | apply bN | apply bD | refine bS ?_ GE513.out)⟩
           ·rw [if_neg c48] at H
            have c48b0 : (t509 == (wrap64 (((rd_T39 t514 (ji42)).f0) + ((rd_T39 t514 (ji42)).f1)))) = false := beq_eq_false_iff_ne.mpr c48
            have c48b1 : (t509 != (wrap64 (((rd_T39 t514 (ji42)).f0) + ((rd_T39 t514 (ji42)).f1)))) = true := bne_iff_ne.mpr c48
            replace H := Option.bind_eq_some_iff.mp H
            obtain ⟨t522, A530, H⟩ := H
            replace H : ((platenref03_Column.f kj24 l0 (wrap64 (t509 + t522)) (wrap64 ((Int.tmod (wrap64 (a3)) 16) + 1))).bind fun t523 => (some (decide (t523 > t520)))) = some r := H
            have A53 := Aside0.mk A530
            clear A530
            replace H := Option.bind_eq_some_iff.mp H
            obtain ⟨t523, A540, H⟩ := H
            replace H : (some (decide (t523 > t520))) = some r := H
            have A54 := Aside0.mk A540
            clear A540
            obtain rfl := Option.some.inj H
            try go_wp2
            have n0_ := Aside0.mk (Kd.R_drew HO_15.out)
            have n1_ := Aside0.mk (blk_drew BK513.out)
            have n2_ := Aside0.mk (below_drew1 HB.out)
            clear HO_15
            clear BK513
            clear HB
            have HO_15 := n0_
            have BK513 := n1_
            have HB := n2_
            clear n0_ n1_ n2_
            have p518 : 0 ≤ ((ji42) : Int) := of_decide_eq_true (by first | (with_reducible assumption) | assumption)
            have q518 : (ji42) < (t514.length : Int) := of_decide_eq_true (by first | (with_reducible assumption) | assumption)
            obtain ⟨ad518, e518, hx518_0, hx518_1⟩ := at_T39 (Kd.R_reads' HO_15.out).2.2 (ji42) p518 q518
            cases e518
            replace p518 := eq_true p518
            replace q518 := eq_true q518
            have p519 : 0 ≤ ((ji42) : Int) := of_decide_eq_true (by first | (with_reducible assumption) | assumption)
            have q519 : (ji42) < (t514.length : Int) := of_decide_eq_true (by first | (with_reducible assumption) | assumption)
            obtain ⟨ad519, e519, hx519_0, hx519_1⟩ := at_T39 (Kd.R_reads' HO_15.out).2.2 (ji42) p519 q519
            obtain rfl : ad518 = ad519 := (by injection e519)
            replace p519 := eq_true p519
            replace q519 := eq_true q519
            refine start_ (n := 19) (S := fun w' => w'.cell? ⟨gb513, 0, none⟩ = some (.int .i64 t509) ∧ w'.cell? ⟨gb513, 1, none⟩ = some (.bool t510) ∧ w'.cell? ⟨gb513, 2, none⟩ = some (.bool t511) ∧ w'.cell? (ad518.add (((ji42)).toNat * 2)) = some (.int .i64 ((rd_T39 t514 (ji42)).f0)) ∧ w'.cell? ⟨(ad518.add (((ji42)).toNat * 2)).block, (ad518.add (((ji42)).toNat * 2)).off + 1, none⟩ = some (.int .i64 ((rd_T39 t514 (ji42)).f1)) ∧ w'.cell? (ad518.add (((ji42)).toNat * 2)) = some (.int .i64 ((rd_T39 t514 (ji42)).f0)) ∧ w'.cell? ⟨(ad518.add (((ji42)).toNat * 2)).block, (ad518.add (((ji42)).toNat * 2)).off + 1, none⟩ = some (.int .i64 ((rd_T39 t514 (ji42)).f1))) (ds := []) #[nn,nn,nn,nn,nn,nn,nn,nn,nn,nn,nn,nn,nn,nn,nn,nn,nn,nn,nn] (by kernel_rfl) rfl rfl ⟨(blk_cell BK513.out 0).trans rfl, (blk_cell BK513.out 1).trans rfl, (blk_cell BK513.out 2).trans rfl, hx518_0, hx518_1, hx519_0, hx519_1⟩ (fun hHeld => ?_); refine with_tabW platenlaw19_MotionLines.tab13 platenlaw19_MotionLines.bits13 (fun HT_ HW_ => ?_)
            generalize wc.drew = w55 at HO_15 BK513 HB hx518_0 hx518_1 hx519_0 hx519_1 hHeld ⊢
            refine pure_ (i := 0) (N := some 77) (v := ?_) (a' := ?_) #[yy,nn,nn,nn,nn,nn,nn,nn,nn,nn,nn,nn,nn,nn,nn,nn,nn,nn,nn] rfl rfl (any_of HT_.out (by kernel_rfl)) (fun _ _ _ h => h) (Or.inl ⟨by rfl, ?_⟩) ?_ ?_
            rotate_left
            ·intro w'
             go_simp
             with_reducible rfl
            rotate_left
            ·simp only [Act.put, zT, z0, zS, i64_w, i32_w]
             rfl
            refine pure_ (i := 2) (N := some 79) (v := ?_) (a' := ?_) #[yy,nn,yy,nn,nn,nn,nn,nn,nn,nn,nn,nn,nn,nn,nn,nn,nn,nn,nn] rfl rfl (any_of HT_.out (by kernel_rfl)) (fun _ _ _ h => h) (Or.inl ⟨by rfl, ?_⟩) ?_ ?_
            rotate_left
            ·intro w'
             go_simp
             with_reducible rfl
            rotate_left
            ·simp only [Act.put, zT, z0, zS, i64_w, i32_w]
             rfl
            refine pure_ (i := 3) (N := some 80) (v := ?_) (a' := ?_) #[yy,nn,yy,yy,nn,nn,nn,nn,nn,nn,nn,nn,nn,nn,nn,nn,nn,nn,nn] rfl rfl (any_of HT_.out (by kernel_rfl)) (fun _ _ _ h => h) (Or.inl ⟨by rfl, ?_⟩) ?_ ?_
            rotate_left
            ·intro w'
             go_simp
             with_reducible rfl
            rotate_left
            ·simp only [Act.put, zT, z0, zS, i64_w, i32_w]
             rfl
            refine pure_ (i := 4) (N := some 81) (v := ?_) (a' := ?_) #[yy,nn,yy,yy,yy,nn,nn,nn,nn,nn,nn,nn,nn,nn,nn,nn,nn,nn,nn] rfl rfl (any_of HT_.out (by kernel_rfl)) (fun _ _ _ h => h) (Or.inl ⟨by rfl, ?_⟩) ?_ ?_
            rotate_left
            ·intro w'
             go_simp
             with_reducible rfl
            rotate_left
            ·simp only [Act.put, zT, z0, zS, i64_w, i32_w]
             rfl
            refine pure_ (i := 5) (N := some 82) (v := ?_) (a' := ?_) #[yy,nn,yy,yy,yy,yy,nn,nn,nn,nn,nn,nn,nn,nn,nn,nn,nn,nn,nn] rfl rfl (any_of HT_.out (by kernel_rfl)) (fun _ _ _ h => h) (Or.inl ⟨by rfl, ?_⟩) ?_ ?_
            rotate_left
            ·intro w'
             go_simp
             with_reducible rfl
            rotate_left
            ·simp only [Act.put, zT, z0, zS, i64_w, i32_w]
             rfl
            refine pure_ (i := 6) (N := some 83) (v := ?_) (a' := ?_) #[yy,nn,yy,yy,yy,yy,yy,nn,nn,nn,nn,nn,nn,nn,nn,nn,nn,nn,nn] rfl rfl (any_of HT_.out (by kernel_rfl)) (fun _ _ _ h => h) (Or.inl ⟨by rfl, ?_⟩) ?_ ?_
            rotate_left
            ·intro w'
             go_simp
             with_reducible rfl
            rotate_left
            ·simp only [Act.put, zT, z0, zS, i64_w, i32_w]
             rfl
            refine pure_ (i := 7) (N := some 84) (v := ?_) (a' := ?_) #[yy,nn,yy,yy,yy,yy,yy,yy,nn,nn,nn,nn,nn,nn,nn,nn,nn,nn,nn] rfl rfl (any_of HT_.out (by kernel_rfl)) (fun _ _ _ h => h) (Or.inl ⟨by rfl, ?_⟩) ?_ ?_
            rotate_left
            ·intro w'
             go_simp
             with_reducible rfl
            rotate_left
            ·simp only [Act.put, zT, z0, zS, i64_w, i32_w]
             rfl
            refine pure_ (i := 9) (N := some 86) (v := ?_) (a' := ?_) #[yy,nn,yy,yy,yy,yy,yy,yy,nn,yy,nn,nn,nn,nn,nn,nn,nn,nn,nn] rfl rfl (any_of HT_.out (by kernel_rfl)) (fun _ _ _ h => h) (Or.inl ⟨by rfl, ?_⟩) ?_ ?_
            rotate_left
            ·intro w'
             go_simp
             with_reducible rfl
            rotate_left
            ·simp only [Act.put, zT, z0, zS, i64_w, i32_w]
             rfl
            refine pure_ (i := 10) (N := some 87) (v := ?_) (a' := ?_) #[yy,nn,yy,yy,yy,yy,yy,yy,nn,yy,yy,nn,nn,nn,nn,nn,nn,nn,nn] rfl rfl (any_of HT_.out (by kernel_rfl)) (fun _ _ _ h => h) (Or.inl ⟨by rfl, ?_⟩) ?_ ?_
            rotate_left
            ·intro w'
             go_simp
             with_reducible rfl
            rotate_left
            ·simp only [Act.put, zT, z0, zS, i64_w, i32_w]
             rfl
            refine pure_ (i := 11) (N := some 88) (v := ?_) (a' := ?_) #[yy,nn,yy,yy,yy,yy,yy,yy,nn,yy,yy,yy,nn,nn,nn,nn,nn,nn,nn] rfl rfl (any_of HT_.out (by kernel_rfl)) (fun _ _ _ h => h) (Or.inl ⟨by rfl, ?_⟩) ?_ ?_
            rotate_left
            ·intro w'
             go_simp
             with_reducible rfl
            rotate_left
            ·simp only [Act.put, zT, z0, zS, i64_w, i32_w]
             rfl
            refine pure_ (i := 12) (N := some 89) (v := ?_) (a' := ?_) #[yy,nn,yy,yy,yy,yy,yy,yy,nn,yy,yy,yy,yy,nn,nn,nn,nn,nn,nn] rfl rfl (any_of HT_.out (by kernel_rfl)) (fun _ _ _ h => h) (Or.inl ⟨by rfl, ?_⟩) ?_ ?_
            rotate_left
            ·intro w'
             go_simp
             with_reducible rfl
            rotate_left
            ·simp only [Act.put, zT, z0, zS, i64_w, i32_w]
             rfl
            refine pure_ (i := 13) (N := some 90) (v := ?_) (a' := ?_) #[yy,nn,yy,yy,yy,yy,yy,yy,nn,yy,yy,yy,yy,yy,nn,nn,nn,nn,nn] rfl rfl (any_of HT_.out (by kernel_rfl)) (fun _ _ _ h => h) (Or.inl ⟨by rfl, ?_⟩) ?_ ?_
            rotate_left
            ·intro w'
             go_simp
             with_reducible rfl
            rotate_left
            ·simp only [Act.put, zT, z0, zS, i64_w, i32_w]
             rfl
            refine pure_ (i := 14) (N := some 91) (v := ?_) (a' := ?_) #[yy,nn,yy,yy,yy,yy,yy,yy,nn,yy,yy,yy,yy,yy,yy,nn,nn,nn,nn] rfl rfl (any_of HT_.out (by kernel_rfl)) (fun _ _ _ h => h) (Or.inl ⟨by rfl, ?_⟩) ?_ ?_
            rotate_left
            ·intro w'
             go_simp
             with_reducible rfl
            rotate_left
            ·simp only [Act.put, zT, z0, zS, i64_w, i32_w]
             rfl
            refine take_ (i := 1) (N := some 78) (v := ?_) (a' := ?_) #[yy,yy,yy,yy,yy,yy,yy,yy,nn,yy,yy,yy,yy,yy,yy,nn,nn,nn,nn] rfl rfl (take_ofW HT_.out HW_.out (by kernel_rfl)) (fun _ _ _ h => h) (Or.inl ⟨by rfl, ?_⟩) hHeld ?_ ?_
            rotate_left
            ·rintro w' ⟨s0, s1, s2, s3, s4, s5, s6⟩
             go_simp
             with_reducible rfl
            rotate_left
            ·simp only [Act.put, zT, z0, zS, i64_w, i32_w]
             rfl
            refine take_ (i := 8) (N := some 85) (v := ?_) (a' := ?_) #[yy,yy,yy,yy,yy,yy,yy,yy,yy,yy,yy,yy,yy,yy,yy,nn,nn,nn,nn] rfl rfl (take_ofW HT_.out HW_.out (by kernel_rfl)) (fun _ _ _ h => h) (Or.inl ⟨by rfl, ?_⟩) hHeld ?_ ?_
            rotate_left
            ·rintro w' ⟨s0, s1, s2, s3, s4, s5, s6⟩
             go_simp
             with_reducible rfl
            rotate_left
            ·simp only [Act.put, zT, z0, zS, i64_w, i32_w]
             rfl
            refine take_ (i := 15) (N := some 92) (v := ?_) (a' := ?_) #[yy,yy,yy,yy,yy,yy,yy,yy,yy,yy,yy,yy,yy,yy,yy,yy,nn,nn,nn] rfl rfl (take_ofW HT_.out HW_.out (by kernel_rfl)) (fun _ _ _ h => h) (Or.inl ⟨by rfl, ?_⟩) hHeld ?_ ?_
            rotate_left
            ·rintro w' ⟨s0, s1, s2, s3, s4, s5, s6⟩
             go_simp
             with_reducible rfl
            rotate_left
            ·simp only [Act.put, zT, z0, zS, i64_w, i32_w]
             rfl
            refine pure_ (i := 16) (N := some 93) (v := ?_) (a' := ?_) #[yy,yy,yy,yy,yy,yy,yy,yy,yy,yy,yy,yy,yy,yy,yy,yy,yy,nn,nn] rfl rfl (any_of HT_.out (by kernel_rfl)) (fun _ _ _ h => h) (Or.inl ⟨by rfl, ?_⟩) ?_ ?_
            rotate_left
            ·intro w'
             go_simp
             with_reducible rfl
            rotate_left
            ·simp only [Act.put, zT, z0, zS, i64_w, i32_w]
             rfl
            refine pure_ (i := 17) (N := some 94) (v := ?_) (a' := ?_) #[yy,yy,yy,yy,yy,yy,yy,yy,yy,yy,yy,yy,yy,yy,yy,yy,yy,yy,nn] rfl rfl (any_of HT_.out (by kernel_rfl)) (fun _ _ _ h => h) (Or.inl ⟨by rfl, ?_⟩) ?_ ?_
            rotate_left
            ·intro w'
             go_simp
             with_reducible rfl
            rotate_left
            ·simp only [Act.put, zT, z0, zS, i64_w, i32_w]
             rfl
            refine pure_ (i := 18) (N := some 16) (v := ?_) (a' := ?_) #[yy,yy,yy,yy,yy,yy,yy,yy,yy,yy,yy,yy,yy,yy,yy,yy,yy,yy,yy] rfl rfl (any_of HT_.out (by kernel_rfl)) (fun _ _ _ h => h) (Or.inl ⟨by rfl, ?_⟩) ?_ ?_
            rotate_left
            ·intro w'
             go_simp
             with_reducible rfl
            rotate_left
            ·simp only [Act.put, zT, z0, zS, i64_w, i32_w]
             rfl
            refine done_ (done_of HT_.out (by kernel_rfl)) ?_
            try go_wp2_with (first | ((with_reducible refine gate_callee (f := 15) rfl ?_); refine goesL_ (some 98) rfl rfl Tryd.func15 (by kernel_rfl) rfl #[.slice A0 l0.length c0, .int .i64 t507, .int .i64 (wrap64 ((Int.tmod (wrap64 (a3)) 16) + 1))] rfl (by (try simp only [List.map_toArray, List.map_cons, List.map_nil]); first | done | rfl | (simp only [List.length_drop, List.length_take]; rfl)) ?_; (with_reducible refine (platenref03_Column.calls kj24 _ _ l0 t507 (wrap64 ((Int.tmod (wrap64 (a3)) 16) + 1)) t520 _ ?side1 ?side2 A45.out).mono ?_); (case side1 => repeat (first | exact (Kd.C_below HR0.out HB.out) | (with_reducible refine Kd.C_alloc ?_ _) | (with_reducible refine Kd.C_drewN ?_ _) | (with_reducible refine Kd.C_drew ?_))); (case side2 => exact HC0.out); rintro e w56 ⟨rfl, hb⟩; refine ⟨_, rfl, ?_⟩; have n0_ := Aside0.mk (Kd.R_below (by (with_reducible repeat (first | apply Kd.R_alloc | apply Kd.R_drewN | apply Kd.R_drew)); exact HO_15.out) hb); have n1_ := Aside0.mk (blk_below (g := gb513) (o := .cells #[.int .i64 t509, .bool t510, .bool t511] 25 (0, 0)) (by (with_reducible repeat (first | refine kN ?_ _ | refine kD ?_ | refine kA ?_ _)); exact BK513.out) hb); have n2_ := Aside0.mk (below_step (by repeat (first | exact HB.out | apply bA | apply bN | apply bD | refine bS ?_ GE513.out)) hb); clear HO_15; clear BK513; clear HB; have HO_15 := n0_; have BK513 := n1_; have HB := n2_; clear n0_ n1_ n2_; (try clear hb); (try clear hb2); (try clear hk); (try clear hi)))
            have n0_ := Aside0.mk (Kd.R_drew HO_15.out)
            have n1_ := Aside0.mk (blk_drew BK513.out)
            have n2_ := Aside0.mk (below_drew1 HB.out)
            clear HO_15
            clear BK513
            clear HB
            have HO_15 := n0_
            have BK513 := n1_
            have HB := n2_
            clear n0_ n1_ n2_
            refine start_ (n := 25) (S := fun w' => w'.cell? ⟨gb513, 0, none⟩ = some (.int .i64 t509) ∧ w'.cell? ⟨gb513, 1, none⟩ = some (.bool t510) ∧ w'.cell? ⟨gb513, 2, none⟩ = some (.bool t511)) (ds := []) #[nn,nn,nn,nn,nn,nn,nn,nn,nn,nn,nn,nn,nn,nn,nn,nn,nn,nn,nn,nn,nn,nn,nn,nn,nn] (by kernel_rfl) rfl rfl ⟨(blk_cell BK513.out 0).trans rfl, (blk_cell BK513.out 1).trans rfl, (blk_cell BK513.out 2).trans rfl⟩ (fun hHeld => ?_); refine with_tabW platenlaw19_MotionLines.tab15 platenlaw19_MotionLines.bits15 (fun HT_ HW_ => ?_)
            generalize w56.drew = w57 at HO_15 BK513 HB hHeld ⊢
            refine pure_ (i := 0) (N := some 99) (v := ?_) (a' := ?_) #[yy,nn,nn,nn,nn,nn,nn,nn,nn,nn,nn,nn,nn,nn,nn,nn,nn,nn,nn,nn,nn,nn,nn,nn,nn] rfl rfl (any_of HT_.out (by kernel_rfl)) (fun _ _ _ h => h) (Or.inl ⟨by rfl, ?_⟩) ?_ ?_
            rotate_left
            ·intro w'
             go_simp
             with_reducible rfl
            rotate_left
            ·simp only [Act.put, zT, z0, zS, i64_w, i32_w]
             rfl
            refine pure_ (i := 1) (N := some 100) (v := ?_) (a' := ?_) #[yy,yy,nn,nn,nn,nn,nn,nn,nn,nn,nn,nn,nn,nn,nn,nn,nn,nn,nn,nn,nn,nn,nn,nn,nn] rfl rfl (any_of HT_.out (by kernel_rfl)) (fun _ _ _ h => h) (Or.inl ⟨by rfl, ?_⟩) ?_ ?_
            rotate_left
            ·intro w'
             go_simp
             with_reducible rfl
            rotate_left
            ·simp only [Act.put, zT, z0, zS, i64_w, i32_w]
             rfl
            refine pure_ (i := 3) (N := some 102) (v := ?_) (a' := ?_) #[yy,yy,nn,yy,nn,nn,nn,nn,nn,nn,nn,nn,nn,nn,nn,nn,nn,nn,nn,nn,nn,nn,nn,nn,nn] rfl rfl (any_of HT_.out (by kernel_rfl)) (fun _ _ _ h => h) (Or.inl ⟨by rfl, ?_⟩) ?_ ?_
            rotate_left
            ·intro w'
             go_simp
             with_reducible rfl
            rotate_left
            ·simp only [Act.put, zT, z0, zS, i64_w, i32_w]
             rfl
            refine pure_ (i := 5) (N := some 104) (v := ?_) (a' := ?_) #[yy,yy,nn,yy,nn,yy,nn,nn,nn,nn,nn,nn,nn,nn,nn,nn,nn,nn,nn,nn,nn,nn,nn,nn,nn] rfl rfl (any_of HT_.out (by kernel_rfl)) (fun _ _ _ h => h) (Or.inl ⟨by rfl, ?_⟩) ?_ ?_
            rotate_left
            ·intro w'
             go_simp
             with_reducible rfl
            rotate_left
            ·simp only [Act.put, zT, z0, zS, i64_w, i32_w]
             rfl
            refine take_ (i := 2) (N := some 101) (v := ?_) (a' := ?_) #[yy,yy,yy,yy,nn,yy,nn,nn,nn,nn,nn,nn,nn,nn,nn,nn,nn,nn,nn,nn,nn,nn,nn,nn,nn] rfl rfl (take_ofW HT_.out HW_.out (by kernel_rfl)) (fun _ _ _ h => h) (Or.inl ⟨by rfl, ?_⟩) hHeld ?_ ?_
            rotate_left
            ·rintro w' ⟨s0, s1, s2⟩
             go_simp
             with_reducible rfl
            rotate_left
            ·simp only [Act.put, zT, z0, zS, i64_w, i32_w]
             rfl
            refine one_ (i := 4) (N := some 103) #[yy,yy,yy,yy,yy,yy,nn,nn,nn,nn,nn,nn,nn,nn,nn,nn,nn,nn,nn,nn,nn,nn,nn,nn,nn] rfl rfl (one_of HT_.out (by kernel_rfl)) (by decide) (fun K hK => ?_)
            refine goes_ Tryd.func15 (by kernel_rfl) rfl #[.slice A0 l0.length c0, .int .i64 t509, .int .i64 (wrap64 ((Int.tmod (wrap64 (a3)) 16) + 1))] (by rfl) rfl rfl (by (try simp only [List.map_toArray, List.map_cons, List.map_nil]); first | done | rfl | (simp only [List.length_drop, List.length_take]; rfl)) ?_
            with_reducible refine (platenref03_Column.calls kj24 _ _ l0 t509 (wrap64 ((Int.tmod (wrap64 (a3)) 16) + 1)) t521 _ ?side1 ?side2 A46.out).mono ?_
            (case side1 => repeat (first | exact (Kd.C_below HR0.out HB.out) | (with_reducible refine Kd.C_alloc ?_ _) | (with_reducible refine Kd.C_drewN ?_ _) | (with_reducible refine Kd.C_drew ?_)))
            (case side2 => exact HC0.out)
            rintro e w58 ⟨rfl, hb⟩
            refine ⟨_, rfl, ?_⟩
            have n0_ := Aside0.mk (Kd.R_below (by (with_reducible repeat (first | apply Kd.R_alloc | apply Kd.R_drewN | apply Kd.R_drew)); exact HO_15.out) hb)
            have n1_ := Aside0.mk (blk_below (g := gb513) (o := .cells #[.int .i64 t509, .bool t510, .bool t511] 25 (0, 0)) (by (with_reducible repeat (first | refine kN ?_ _ | refine kD ?_ | refine kA ?_ _)); exact BK513.out) hb)
            have n2_ := Aside0.mk (below_step (by repeat (first | exact HB.out | apply bA | apply bN | apply bD | refine bS ?_ GE513.out)) hb)
            clear HO_15
            clear BK513
            clear HB
            have HO_15 := n0_
            have BK513 := n1_
            have HB := n2_
            clear n0_ n1_ n2_
            (try clear hb)
            (try clear hb2)
            (try clear hk)
            (try clear hi)
            refine hK.out _ _ ⟨(blk_cell BK513.out 0).trans rfl, (blk_cell BK513.out 1).trans rfl, (blk_cell BK513.out 2).trans rfl⟩ (fun hHeld => ?_)
            clear hK K
            refine norm_ (a' := ?_) ?_ ?_
            rotate_left
            ·show Act.put _ (some 103) _ = _
             simp only [Act.put, zT, z0, zS, i64_w, i32_w]
             rfl
            refine pure_ (i := 6) (N := some 105) (v := ?_) (a' := ?_) #[yy,yy,yy,yy,yy,yy,yy,nn,nn,nn,nn,nn,nn,nn,nn,nn,nn,nn,nn,nn,nn,nn,nn,nn,nn] rfl rfl (any_of HT_.out (by kernel_rfl)) (fun _ _ _ h => h) (Or.inl ⟨by rfl, ?_⟩) ?_ ?_
            rotate_left
            ·intro w'
             go_simp
             with_reducible rfl
            rotate_left
            ·simp only [Act.put, zT, z0, zS, i64_w, i32_w]
             rfl
            refine pure_ (i := 7) (N := some 106) (v := ?_) (a' := ?_) #[yy,yy,yy,yy,yy,yy,yy,yy,nn,nn,nn,nn,nn,nn,nn,nn,nn,nn,nn,nn,nn,nn,nn,nn,nn] rfl rfl (any_of HT_.out (by kernel_rfl)) (fun _ _ _ h => h) (Or.inl ⟨by rfl, ?_⟩) ?_ ?_
            rotate_left
            ·intro w'
             go_simp
             with_reducible rfl
            rotate_left
            ·simp only [Act.put, zT, z0, zS, i64_w, i32_w]
             rfl
            refine pure_ (i := 8) (N := some 107) (v := ?_) (a' := ?_) #[yy,yy,yy,yy,yy,yy,yy,yy,yy,nn,nn,nn,nn,nn,nn,nn,nn,nn,nn,nn,nn,nn,nn,nn,nn] rfl rfl (any_of HT_.out (by kernel_rfl)) (fun _ _ _ h => h) (Or.inl ⟨by rfl, ?_⟩) ?_ ?_
            rotate_left
            ·intro w'
             go_simp
             with_reducible rfl
            rotate_left
            ·simp only [Act.put, zT, z0, zS, i64_w, i32_w]
             rfl
            refine pure_ (i := 9) (N := some 108) (v := ?_) (a' := ?_) #[yy,yy,yy,yy,yy,yy,yy,yy,yy,yy,nn,nn,nn,nn,nn,nn,nn,nn,nn,nn,nn,nn,nn,nn,nn] rfl rfl (any_of HT_.out (by kernel_rfl)) (fun _ _ _ h => h) (Or.inl ⟨by rfl, ?_⟩) ?_ ?_
            rotate_left
            ·intro w'
             go_simp
             with_reducible rfl
            rotate_left
            ·simp only [Act.put, zT, z0, zS, i64_w, i32_w]
             rfl
            refine pure_ (i := 10) (N := some 109) (v := ?_) (a' := ?_) #[yy,yy,yy,yy,yy,yy,yy,yy,yy,yy,yy,nn,nn,nn,nn,nn,nn,nn,nn,nn,nn,nn,nn,nn,nn] rfl rfl (any_of HT_.out (by kernel_rfl)) (fun _ _ _ h => h) (Or.inl ⟨by rfl, ?_⟩) ?_ ?_
            rotate_left
            ·intro w'
             go_simp
             with_reducible rfl
            rotate_left
            ·simp only [Act.put, zT, z0, zS, i64_w, i32_w]
             rfl
            refine pure_ (i := 11) (N := some 110) (v := ?_) (a' := ?_) #[yy,yy,yy,yy,yy,yy,yy,yy,yy,yy,yy,yy,nn,nn,nn,nn,nn,nn,nn,nn,nn,nn,nn,nn,nn] rfl rfl (any_of HT_.out (by kernel_rfl)) (fun _ _ _ h => h) (Or.inl ⟨by rfl, ?_⟩) ?_ ?_
            rotate_left
            ·intro w'
             go_simp
             with_reducible rfl
            rotate_left
            ·simp only [Act.put, zT, z0, zS, i64_w, i32_w]
             rfl
            refine pure_ (i := 13) (N := some 112) (v := ?_) (a' := ?_) #[yy,yy,yy,yy,yy,yy,yy,yy,yy,yy,yy,yy,nn,yy,nn,nn,nn,nn,nn,nn,nn,nn,nn,nn,nn] rfl rfl (any_of HT_.out (by kernel_rfl)) (fun _ _ _ h => h) (Or.inl ⟨by rfl, ?_⟩) ?_ ?_
            rotate_left
            ·intro w'
             go_simp
             with_reducible rfl
            rotate_left
            ·simp only [Act.put, zT, z0, zS, i64_w, i32_w]
             rfl
            refine pure_ (i := 14) (N := some 113) (v := ?_) (a' := ?_) #[yy,yy,yy,yy,yy,yy,yy,yy,yy,yy,yy,yy,nn,yy,yy,nn,nn,nn,nn,nn,nn,nn,nn,nn,nn] rfl rfl (any_of HT_.out (by kernel_rfl)) (fun _ _ _ h => h) (Or.inl ⟨by rfl, ?_⟩) ?_ ?_
            rotate_left
            ·intro w'
             go_simp
             with_reducible rfl
            rotate_left
            ·simp only [Act.put, zT, z0, zS, i64_w, i32_w]
             rfl
            refine pure_ (i := 18) (N := some 117) (v := ?_) (a' := ?_) #[yy,yy,yy,yy,yy,yy,yy,yy,yy,yy,yy,yy,nn,yy,yy,nn,nn,nn,yy,nn,nn,nn,nn,nn,nn] rfl rfl (any_of HT_.out (by kernel_rfl)) (fun _ _ _ h => h) (Or.inl ⟨by rfl, ?_⟩) ?_ ?_
            rotate_left
            ·intro w'
             go_simp
             with_reducible rfl
            rotate_left
            ·simp only [Act.put, zT, z0, zS, i64_w, i32_w]
             rfl
            refine pure_ (i := 20) (N := some 119) (v := ?_) (a' := ?_) #[yy,yy,yy,yy,yy,yy,yy,yy,yy,yy,yy,yy,nn,yy,yy,nn,nn,nn,yy,nn,yy,nn,nn,nn,nn] rfl rfl (any_of HT_.out (by kernel_rfl)) (fun _ _ _ h => h) (Or.inl ⟨by rfl, ?_⟩) ?_ ?_
            rotate_left
            ·intro w'
             go_simp
             with_reducible rfl
            rotate_left
            ·simp only [Act.put, zT, z0, zS, i64_w, i32_w]
             rfl
            refine take_ (i := 12) (N := some 111) (v := ?_) (a' := ?_) #[yy,yy,yy,yy,yy,yy,yy,yy,yy,yy,yy,yy,yy,yy,yy,nn,nn,nn,yy,nn,yy,nn,nn,nn,nn] rfl rfl (take_ofW HT_.out HW_.out (by kernel_rfl)) (fun _ _ _ h => h) (Or.inl ⟨by rfl, ?_⟩) hHeld ?_ ?_
            rotate_left
            ·rintro w' ⟨s0, s1, s2⟩
             go_simp
             with_reducible rfl
            rotate_left
            ·simp only [Act.put, zT, z0, zS, i64_w, i32_w]
             rfl
            refine take_ (i := 15) (N := some 114) (v := ?_) (a' := ?_) #[yy,yy,yy,yy,yy,yy,yy,yy,yy,yy,yy,yy,yy,yy,yy,yy,nn,nn,yy,nn,yy,nn,nn,nn,nn] rfl rfl (take_ofW HT_.out HW_.out (by kernel_rfl)) (fun _ _ _ h => h) (Or.inl ⟨by rfl, ?_⟩) hHeld ?_ ?_
            rotate_left
            ·rintro w' ⟨s0, s1, s2⟩
             go_simp
             with_reducible rfl
            rotate_left
            ·simp only [Act.put, zT, z0, zS, i64_w, i32_w]
             rfl
            refine one_ (i := 16) (N := some 115) #[yy,yy,yy,yy,yy,yy,yy,yy,yy,yy,yy,yy,yy,yy,yy,yy,yy,nn,yy,nn,yy,nn,nn,nn,nn] rfl rfl (one_of HT_.out (by kernel_rfl)) (by decide) (fun K hK => ?_)
            refine goes_ Tryd.func16 (by kernel_rfl) rfl #[.slice A0 l0.length c0, .int .i64 t509] (by rfl) rfl rfl (by (try simp only [List.map_toArray, List.map_cons, List.map_nil]); first | done | rfl | (simp only [List.length_drop, List.length_take]; rfl)) ?_
            with_reducible refine (platenref01_Size.calls kj24 _ _ l0 t509 t522 _ ?side1 ?side2 A53.out).mono ?_
            (case side1 => repeat (first | exact (Kd.C_below HR0.out HB.out) | (with_reducible refine Kd.C_alloc ?_ _) | (with_reducible refine Kd.C_drewN ?_ _) | (with_reducible refine Kd.C_drew ?_)))
            (case side2 => exact HC0.out)
            rintro e w' ⟨rfl, ⟨nd, rfl⟩⟩
            refine ⟨_, rfl, ?_⟩
            refine hK.out _ _ ⟨(blk_cell BK513.out 0).trans rfl, (blk_cell BK513.out 1).trans rfl, (blk_cell BK513.out 2).trans rfl⟩ (fun hHeld => ?_)
            clear hK K
            refine norm_ (a' := ?_) ?_ ?_
            rotate_left
            ·show Act.put _ (some 115) _ = _
             simp only [Act.put, zT, z0, zS, i64_w, i32_w]
             rfl
            refine pure_ (i := 17) (N := some 116) (v := ?_) (a' := ?_) #[yy,yy,yy,yy,yy,yy,yy,yy,yy,yy,yy,yy,yy,yy,yy,yy,yy,yy,yy,nn,yy,nn,nn,nn,nn] rfl rfl (any_of HT_.out (by kernel_rfl)) (fun _ _ _ h => h) (Or.inl ⟨by rfl, ?_⟩) ?_ ?_
            rotate_left
            ·intro w'
             go_simp
             with_reducible rfl
            rotate_left
            ·simp only [Act.put, zT, z0, zS, i64_w, i32_w]
             rfl
            refine one_ (i := 19) (N := some 118) #[yy,yy,yy,yy,yy,yy,yy,yy,yy,yy,yy,yy,yy,yy,yy,yy,yy,yy,yy,yy,yy,nn,nn,nn,nn] rfl rfl (one_of HT_.out (by kernel_rfl)) (by decide) (fun K hK => ?_)
            refine goes_ Tryd.func15 (by kernel_rfl) rfl #[.slice A0 l0.length c0, .int .i64 (wrap64 (t509 + t522)), .int .i64 (wrap64 ((Int.tmod (wrap64 (a3)) 16) + 1))] (by rfl) rfl rfl (by (try simp only [List.map_toArray, List.map_cons, List.map_nil]); first | done | rfl | (simp only [List.length_drop, List.length_take]; rfl)) ?_
            with_reducible refine (platenref03_Column.calls kj24 _ _ l0 (wrap64 (t509 + t522)) (wrap64 ((Int.tmod (wrap64 (a3)) 16) + 1)) t523 _ ?side1 ?side2 A54.out).mono ?_
            (case side1 => repeat (first | exact (Kd.C_below HR0.out (by repeat (first | exact HB.out | apply bA | apply bN | apply bD | refine bS ?_ GE513.out))) | (with_reducible refine Kd.C_alloc ?_ _) | (with_reducible refine Kd.C_drewN ?_ _) | (with_reducible refine Kd.C_drew ?_)))
            (case side2 => exact HC0.out)
            rintro e w59 ⟨rfl, hb⟩
            refine ⟨_, rfl, ?_⟩
            have n0_ := Aside0.mk (Kd.R_below (by (with_reducible repeat (first | apply Kd.R_alloc | apply Kd.R_drewN | apply Kd.R_drew)); exact HO_15.out) hb)
            have n1_ := Aside0.mk (blk_below (g := gb513) (o := .cells #[.int .i64 t509, .bool t510, .bool t511] 25 (0, 0)) (by (with_reducible repeat (first | refine kN ?_ _ | refine kD ?_ | refine kA ?_ _)); exact BK513.out) hb)
            have n2_ := Aside0.mk (below_step (by repeat (first | exact HB.out | apply bA | apply bN | apply bD | refine bS ?_ GE513.out)) hb)
            clear HO_15
            clear BK513
            clear HB
            have HO_15 := n0_
            have BK513 := n1_
            have HB := n2_
            clear n0_ n1_ n2_
            (try clear hb)
            (try clear hb2)
            (try clear hk)
            (try clear hi)
            refine hK.out _ _ ⟨(blk_cell BK513.out 0).trans rfl, (blk_cell BK513.out 1).trans rfl, (blk_cell BK513.out 2).trans rfl⟩ (fun hHeld => ?_)
            clear hK K
            refine norm_ (a' := ?_) ?_ ?_
            rotate_left
            ·show Act.put _ (some 118) _ = _
             simp only [Act.put, zT, z0, zS, i64_w, i32_w]
             rfl
            refine pure_ (i := 21) (N := some 120) (v := ?_) (a' := ?_) #[yy,yy,yy,yy,yy,yy,yy,yy,yy,yy,yy,yy,yy,yy,yy,yy,yy,yy,yy,yy,yy,yy,nn,nn,nn] rfl rfl (any_of HT_.out (by kernel_rfl)) (fun _ _ _ h => h) (Or.inl ⟨by rfl, ?_⟩) ?_ ?_
            rotate_left
            ·intro w'
             go_simp
             with_reducible rfl
            rotate_left
            ·simp only [Act.put, zT, z0, zS, i64_w, i32_w]
             rfl
            refine pure_ (i := 22) (N := some 121) (v := ?_) (a' := ?_) #[yy,yy,yy,yy,yy,yy,yy,yy,yy,yy,yy,yy,yy,yy,yy,yy,yy,yy,yy,yy,yy,yy,yy,nn,nn] rfl rfl (any_of HT_.out (by kernel_rfl)) (fun _ _ _ h => h) (Or.inl ⟨by rfl, ?_⟩) ?_ ?_
            rotate_left
            ·intro w'
             go_simp
             with_reducible rfl
            rotate_left
            ·simp only [Act.put, zT, z0, zS, i64_w, i32_w]
             rfl
            refine pure_ (i := 23) (N := some 122) (v := ?_) (a' := ?_) #[yy,yy,yy,yy,yy,yy,yy,yy,yy,yy,yy,yy,yy,yy,yy,yy,yy,yy,yy,yy,yy,yy,yy,yy,nn] rfl rfl (any_of HT_.out (by kernel_rfl)) (fun _ _ _ h => h) (Or.inl ⟨by rfl, ?_⟩) ?_ ?_
            rotate_left
            ·intro w'
             go_simp
             with_reducible rfl
            rotate_left
            ·simp only [Act.put, zT, z0, zS, i64_w, i32_w]
             rfl
            refine pure_ (i := 24) (N := some 8) (v := ?_) (a' := ?_) #[yy,yy,yy,yy,yy,yy,yy,yy,yy,yy,yy,yy,yy,yy,yy,yy,yy,yy,yy,yy,yy,yy,yy,yy,yy] rfl rfl (any_of HT_.out (by kernel_rfl)) (fun _ _ _ h => h) (Or.inl ⟨by rfl, ?_⟩) ?_ ?_
            rotate_left
            ·intro w'
             go_simp
             with_reducible rfl
            rotate_left
            ·simp only [Act.put, zT, z0, zS, i64_w, i32_w]
             rfl
            refine done_ (done_of HT_.out (by kernel_rfl)) ?_
            try go_wp2
            go_ret
            exact ⟨by first | rfl | (simp [errW_none, errW_some] <;> rfl) | (simp only [← hji42]; first | rfl | (simp [errW_none, errW_some] <;> rfl)) | (simp [*, errW_none, errW_some] <;> rfl), by repeat (first | exact HB.out | apply bA | apply bN | apply bD | refine bS ?_ GE513.out)⟩
          ·rw [if_neg c47] at H
           have c47b0 : decide (t521 ≤ t520) = false := decide_eq_false c47
           clear c47
           obtain rfl := Option.some.inj H
           try go_wp2
           have n0_ := Aside0.mk (Kd.R_drew HO_15.out)
           have n1_ := Aside0.mk (blk_drew BK513.out)
           have n2_ := Aside0.mk (below_drew1 HB.out)
           clear HO_15
           clear BK513
           clear HB
           have HO_15 := n0_
           have BK513 := n1_
           have HB := n2_
           clear n0_ n1_ n2_
           have p518 : 0 ≤ ((ji42) : Int) := of_decide_eq_true (by first | (with_reducible assumption) | assumption)
           have q518 : (ji42) < (t514.length : Int) := of_decide_eq_true (by first | (with_reducible assumption) | assumption)
           obtain ⟨ad518, e518, hx518_0, hx518_1⟩ := at_T39 (Kd.R_reads' HO_15.out).2.2 (ji42) p518 q518
           cases e518
           replace p518 := eq_true p518
           replace q518 := eq_true q518
           have p519 : 0 ≤ ((ji42) : Int) := of_decide_eq_true (by first | (with_reducible assumption) | assumption)
           have q519 : (ji42) < (t514.length : Int) := of_decide_eq_true (by first | (with_reducible assumption) | assumption)
           obtain ⟨ad519, e519, hx519_0, hx519_1⟩ := at_T39 (Kd.R_reads' HO_15.out).2.2 (ji42) p519 q519
           obtain rfl : ad518 = ad519 := (by injection e519)
           replace p519 := eq_true p519
           replace q519 := eq_true q519
           refine start_ (n := 19) (S := fun w' => w'.cell? ⟨gb513, 0, none⟩ = some (.int .i64 t509) ∧ w'.cell? ⟨gb513, 1, none⟩ = some (.bool t510) ∧ w'.cell? ⟨gb513, 2, none⟩ = some (.bool t511) ∧ w'.cell? (ad518.add (((ji42)).toNat * 2)) = some (.int .i64 ((rd_T39 t514 (ji42)).f0)) ∧ w'.cell? ⟨(ad518.add (((ji42)).toNat * 2)).block, (ad518.add (((ji42)).toNat * 2)).off + 1, none⟩ = some (.int .i64 ((rd_T39 t514 (ji42)).f1)) ∧ w'.cell? (ad518.add (((ji42)).toNat * 2)) = some (.int .i64 ((rd_T39 t514 (ji42)).f0)) ∧ w'.cell? ⟨(ad518.add (((ji42)).toNat * 2)).block, (ad518.add (((ji42)).toNat * 2)).off + 1, none⟩ = some (.int .i64 ((rd_T39 t514 (ji42)).f1))) (ds := []) #[nn,nn,nn,nn,nn,nn,nn,nn,nn,nn,nn,nn,nn,nn,nn,nn,nn,nn,nn] (by kernel_rfl) rfl rfl ⟨(blk_cell BK513.out 0).trans rfl, (blk_cell BK513.out 1).trans rfl, (blk_cell BK513.out 2).trans rfl, hx518_0, hx518_1, hx519_0, hx519_1⟩ (fun hHeld => ?_); refine with_tabW platenlaw19_MotionLines.tab13 platenlaw19_MotionLines.bits13 (fun HT_ HW_ => ?_)
           generalize wc.drew = w60 at HO_15 BK513 HB hx518_0 hx518_1 hx519_0 hx519_1 hHeld ⊢
           refine pure_ (i := 0) (N := some 77) (v := ?_) (a' := ?_) #[yy,nn,nn,nn,nn,nn,nn,nn,nn,nn,nn,nn,nn,nn,nn,nn,nn,nn,nn] rfl rfl (any_of HT_.out (by kernel_rfl)) (fun _ _ _ h => h) (Or.inl ⟨by rfl, ?_⟩) ?_ ?_
           rotate_left
           ·intro w'
            go_simp
            with_reducible rfl
           rotate_left
           ·simp only [Act.put, zT, z0, zS, i64_w, i32_w]
            rfl
           refine pure_ (i := 2) (N := some 79) (v := ?_) (a' := ?_) #[yy,nn,yy,nn,nn,nn,nn,nn,nn,nn,nn,nn,nn,nn,nn,nn,nn,nn,nn] rfl rfl (any_of HT_.out (by kernel_rfl)) (fun _ _ _ h => h) (Or.inl ⟨by rfl, ?_⟩) ?_ ?_
           rotate_left
           ·intro w'
            go_simp
            with_reducible rfl
           rotate_left
           ·simp only [Act.put, zT, z0, zS, i64_w, i32_w]
            rfl
           refine pure_ (i := 3) (N := some 80) (v := ?_) (a' := ?_) #[yy,nn,yy,yy,nn,nn,nn,nn,nn,nn,nn,nn,nn,nn,nn,nn,nn,nn,nn] rfl rfl (any_of HT_.out (by kernel_rfl)) (fun _ _ _ h => h) (Or.inl ⟨by rfl, ?_⟩) ?_ ?_
           rotate_left
           ·intro w'
            go_simp
            with_reducible rfl
           rotate_left
           ·simp only [Act.put, zT, z0, zS, i64_w, i32_w]
            rfl
           refine pure_ (i := 4) (N := some 81) (v := ?_) (a' := ?_) #[yy,nn,yy,yy,yy,nn,nn,nn,nn,nn,nn,nn,nn,nn,nn,nn,nn,nn,nn] rfl rfl (any_of HT_.out (by kernel_rfl)) (fun _ _ _ h => h) (Or.inl ⟨by rfl, ?_⟩) ?_ ?_
           rotate_left
           ·intro w'
            go_simp
            with_reducible rfl
           rotate_left
           ·simp only [Act.put, zT, z0, zS, i64_w, i32_w]
            rfl
           refine pure_ (i := 5) (N := some 82) (v := ?_) (a' := ?_) #[yy,nn,yy,yy,yy,yy,nn,nn,nn,nn,nn,nn,nn,nn,nn,nn,nn,nn,nn] rfl rfl (any_of HT_.out (by kernel_rfl)) (fun _ _ _ h => h) (Or.inl ⟨by rfl, ?_⟩) ?_ ?_
           rotate_left
           ·intro w'
            go_simp
            with_reducible rfl
           rotate_left
           ·simp only [Act.put, zT, z0, zS, i64_w, i32_w]
            rfl
           refine pure_ (i := 6) (N := some 83) (v := ?_) (a' := ?_) #[yy,nn,yy,yy,yy,yy,yy,nn,nn,nn,nn,nn,nn,nn,nn,nn,nn,nn,nn] rfl rfl (any_of HT_.out (by kernel_rfl)) (fun _ _ _ h => h) (Or.inl ⟨by rfl, ?_⟩) ?_ ?_
           rotate_left
           ·intro w'
            go_simp
            with_reducible rfl
           rotate_left
           ·simp only [Act.put, zT, z0, zS, i64_w, i32_w]
            rfl
           refine pure_ (i := 7) (N := some 84) (v := ?_) (a' := ?_) #[yy,nn,yy,yy,yy,yy,yy,yy,nn,nn,nn,nn,nn,nn,nn,nn,nn,nn,nn] rfl rfl (any_of HT_.out (by kernel_rfl)) (fun _ _ _ h => h) (Or.inl ⟨by rfl, ?_⟩) ?_ ?_
           rotate_left
           ·intro w'
            go_simp
            with_reducible rfl
           rotate_left
           ·simp only [Act.put, zT, z0, zS, i64_w, i32_w]
            rfl
           refine pure_ (i := 9) (N := some 86) (v := ?_) (a' := ?_) #[yy,nn,yy,yy,yy,yy,yy,yy,nn,yy,nn,nn,nn,nn,nn,nn,nn,nn,nn] rfl rfl (any_of HT_.out (by kernel_rfl)) (fun _ _ _ h => h) (Or.inl ⟨by rfl, ?_⟩) ?_ ?_
           rotate_left
           ·intro w'
            go_simp
            with_reducible rfl
           rotate_left
           ·simp only [Act.put, zT, z0, zS, i64_w, i32_w]
            rfl
           refine pure_ (i := 10) (N := some 87) (v := ?_) (a' := ?_) #[yy,nn,yy,yy,yy,yy,yy,yy,nn,yy,yy,nn,nn,nn,nn,nn,nn,nn,nn] rfl rfl (any_of HT_.out (by kernel_rfl)) (fun _ _ _ h => h) (Or.inl ⟨by rfl, ?_⟩) ?_ ?_
           rotate_left
           ·intro w'
            go_simp
            with_reducible rfl
           rotate_left
           ·simp only [Act.put, zT, z0, zS, i64_w, i32_w]
            rfl
           refine pure_ (i := 11) (N := some 88) (v := ?_) (a' := ?_) #[yy,nn,yy,yy,yy,yy,yy,yy,nn,yy,yy,yy,nn,nn,nn,nn,nn,nn,nn] rfl rfl (any_of HT_.out (by kernel_rfl)) (fun _ _ _ h => h) (Or.inl ⟨by rfl, ?_⟩) ?_ ?_
           rotate_left
           ·intro w'
            go_simp
            with_reducible rfl
           rotate_left
           ·simp only [Act.put, zT, z0, zS, i64_w, i32_w]
            rfl
           refine pure_ (i := 12) (N := some 89) (v := ?_) (a' := ?_) #[yy,nn,yy,yy,yy,yy,yy,yy,nn,yy,yy,yy,yy,nn,nn,nn,nn,nn,nn] rfl rfl (any_of HT_.out (by kernel_rfl)) (fun _ _ _ h => h) (Or.inl ⟨by rfl, ?_⟩) ?_ ?_
           rotate_left
           ·intro w'
            go_simp
            with_reducible rfl
           rotate_left
           ·simp only [Act.put, zT, z0, zS, i64_w, i32_w]
            rfl
           refine pure_ (i := 13) (N := some 90) (v := ?_) (a' := ?_) #[yy,nn,yy,yy,yy,yy,yy,yy,nn,yy,yy,yy,yy,yy,nn,nn,nn,nn,nn] rfl rfl (any_of HT_.out (by kernel_rfl)) (fun _ _ _ h => h) (Or.inl ⟨by rfl, ?_⟩) ?_ ?_
           rotate_left
           ·intro w'
            go_simp
            with_reducible rfl
           rotate_left
           ·simp only [Act.put, zT, z0, zS, i64_w, i32_w]
            rfl
           refine pure_ (i := 14) (N := some 91) (v := ?_) (a' := ?_) #[yy,nn,yy,yy,yy,yy,yy,yy,nn,yy,yy,yy,yy,yy,yy,nn,nn,nn,nn] rfl rfl (any_of HT_.out (by kernel_rfl)) (fun _ _ _ h => h) (Or.inl ⟨by rfl, ?_⟩) ?_ ?_
           rotate_left
           ·intro w'
            go_simp
            with_reducible rfl
           rotate_left
           ·simp only [Act.put, zT, z0, zS, i64_w, i32_w]
            rfl
           refine take_ (i := 1) (N := some 78) (v := ?_) (a' := ?_) #[yy,yy,yy,yy,yy,yy,yy,yy,nn,yy,yy,yy,yy,yy,yy,nn,nn,nn,nn] rfl rfl (take_ofW HT_.out HW_.out (by kernel_rfl)) (fun _ _ _ h => h) (Or.inl ⟨by rfl, ?_⟩) hHeld ?_ ?_
           rotate_left
           ·rintro w' ⟨s0, s1, s2, s3, s4, s5, s6⟩
            go_simp
            with_reducible rfl
           rotate_left
           ·simp only [Act.put, zT, z0, zS, i64_w, i32_w]
            rfl
           refine take_ (i := 8) (N := some 85) (v := ?_) (a' := ?_) #[yy,yy,yy,yy,yy,yy,yy,yy,yy,yy,yy,yy,yy,yy,yy,nn,nn,nn,nn] rfl rfl (take_ofW HT_.out HW_.out (by kernel_rfl)) (fun _ _ _ h => h) (Or.inl ⟨by rfl, ?_⟩) hHeld ?_ ?_
           rotate_left
           ·rintro w' ⟨s0, s1, s2, s3, s4, s5, s6⟩
            go_simp
            with_reducible rfl
           rotate_left
           ·simp only [Act.put, zT, z0, zS, i64_w, i32_w]
            rfl
           refine take_ (i := 15) (N := some 92) (v := ?_) (a' := ?_) #[yy,yy,yy,yy,yy,yy,yy,yy,yy,yy,yy,yy,yy,yy,yy,yy,nn,nn,nn] rfl rfl (take_ofW HT_.out HW_.out (by kernel_rfl)) (fun _ _ _ h => h) (Or.inl ⟨by rfl, ?_⟩) hHeld ?_ ?_
           rotate_left
           ·rintro w' ⟨s0, s1, s2, s3, s4, s5, s6⟩
            go_simp
            with_reducible rfl
           rotate_left
           ·simp only [Act.put, zT, z0, zS, i64_w, i32_w]
            rfl
           refine pure_ (i := 16) (N := some 93) (v := ?_) (a' := ?_) #[yy,yy,yy,yy,yy,yy,yy,yy,yy,yy,yy,yy,yy,yy,yy,yy,yy,nn,nn] rfl rfl (any_of HT_.out (by kernel_rfl)) (fun _ _ _ h => h) (Or.inl ⟨by rfl, ?_⟩) ?_ ?_
           rotate_left
           ·intro w'
            go_simp
            with_reducible rfl
           rotate_left
           ·simp only [Act.put, zT, z0, zS, i64_w, i32_w]
            rfl
           refine pure_ (i := 17) (N := some 94) (v := ?_) (a' := ?_) #[yy,yy,yy,yy,yy,yy,yy,yy,yy,yy,yy,yy,yy,yy,yy,yy,yy,yy,nn] rfl rfl (any_of HT_.out (by kernel_rfl)) (fun _ _ _ h => h) (Or.inl ⟨by rfl, ?_⟩) ?_ ?_
           rotate_left
           ·intro w'
            go_simp
            with_reducible rfl
           rotate_left
           ·simp only [Act.put, zT, z0, zS, i64_w, i32_w]
            rfl
           refine pure_ (i := 18) (N := some 16) (v := ?_) (a' := ?_) #[yy,yy,yy,yy,yy,yy,yy,yy,yy,yy,yy,yy,yy,yy,yy,yy,yy,yy,yy] rfl rfl (any_of HT_.out (by kernel_rfl)) (fun _ _ _ h => h) (Or.inl ⟨by rfl, ?_⟩) ?_ ?_
           rotate_left
           ·intro w'
            go_simp
            with_reducible rfl
           rotate_left
           ·simp only [Act.put, zT, z0, zS, i64_w, i32_w]
            rfl
           refine done_ (done_of HT_.out (by kernel_rfl)) ?_
           try go_wp2_with (first | ((with_reducible refine gate_callee (f := 15) rfl ?_); refine goesL_ (some 98) rfl rfl Tryd.func15 (by kernel_rfl) rfl #[.slice A0 l0.length c0, .int .i64 t507, .int .i64 (wrap64 ((Int.tmod (wrap64 (a3)) 16) + 1))] rfl (by (try simp only [List.map_toArray, List.map_cons, List.map_nil]); first | done | rfl | (simp only [List.length_drop, List.length_take]; rfl)) ?_; (with_reducible refine (platenref03_Column.calls kj24 _ _ l0 t507 (wrap64 ((Int.tmod (wrap64 (a3)) 16) + 1)) t520 _ ?side1 ?side2 A45.out).mono ?_); (case side1 => repeat (first | exact (Kd.C_below HR0.out HB.out) | (with_reducible refine Kd.C_alloc ?_ _) | (with_reducible refine Kd.C_drewN ?_ _) | (with_reducible refine Kd.C_drew ?_))); (case side2 => exact HC0.out); rintro e w61 ⟨rfl, hb⟩; refine ⟨_, rfl, ?_⟩; have n0_ := Aside0.mk (Kd.R_below (by (with_reducible repeat (first | apply Kd.R_alloc | apply Kd.R_drewN | apply Kd.R_drew)); exact HO_15.out) hb); have n1_ := Aside0.mk (blk_below (g := gb513) (o := .cells #[.int .i64 t509, .bool t510, .bool t511] 25 (0, 0)) (by (with_reducible repeat (first | refine kN ?_ _ | refine kD ?_ | refine kA ?_ _)); exact BK513.out) hb); have n2_ := Aside0.mk (below_step (by repeat (first | exact HB.out | apply bA | apply bN | apply bD | refine bS ?_ GE513.out)) hb); clear HO_15; clear BK513; clear HB; have HO_15 := n0_; have BK513 := n1_; have HB := n2_; clear n0_ n1_ n2_; (try clear hb); (try clear hb2); (try clear hk); (try clear hi)))
           have n0_ := Aside0.mk (Kd.R_drew HO_15.out)
           have n1_ := Aside0.mk (blk_drew BK513.out)
           have n2_ := Aside0.mk (below_drew1 HB.out)
           clear HO_15
           clear BK513
           clear HB
           have HO_15 := n0_
           have BK513 := n1_
           have HB := n2_
           clear n0_ n1_ n2_
           refine start_ (n := 25) (S := fun w' => w'.cell? ⟨gb513, 0, none⟩ = some (.int .i64 t509) ∧ w'.cell? ⟨gb513, 1, none⟩ = some (.bool t510) ∧ w'.cell? ⟨gb513, 2, none⟩ = some (.bool t511)) (ds := []) #[nn,nn,nn,nn,nn,nn,nn,nn,nn,nn,nn,nn,nn,nn,nn,nn,nn,nn,nn,nn,nn,nn,nn,nn,nn] (by kernel_rfl) rfl rfl ⟨(blk_cell BK513.out 0).trans rfl, (blk_cell BK513.out 1).trans rfl, (blk_cell BK513.out 2).trans rfl⟩ (fun hHeld => ?_); refine with_tabW platenlaw19_MotionLines.tab15 platenlaw19_MotionLines.bits15 (fun HT_ HW_ => ?_)
           generalize w61.drew = w62 at HO_15 BK513 HB hHeld ⊢
           refine pure_ (i := 0) (N := some 99) (v := ?_) (a' := ?_) #[yy,nn,nn,nn,nn,nn,nn,nn,nn,nn,nn,nn,nn,nn,nn,nn,nn,nn,nn,nn,nn,nn,nn,nn,nn] rfl rfl (any_of HT_.out (by kernel_rfl)) (fun _ _ _ h => h) (Or.inl ⟨by rfl, ?_⟩) ?_ ?_
           rotate_left
           ·intro w'
            go_simp
            with_reducible rfl
           rotate_left
           ·simp only [Act.put, zT, z0, zS, i64_w, i32_w]
            rfl
           refine pure_ (i := 1) (N := some 100) (v := ?_) (a' := ?_) #[yy,yy,nn,nn,nn,nn,nn,nn,nn,nn,nn,nn,nn,nn,nn,nn,nn,nn,nn,nn,nn,nn,nn,nn,nn] rfl rfl (any_of HT_.out (by kernel_rfl)) (fun _ _ _ h => h) (Or.inl ⟨by rfl, ?_⟩) ?_ ?_
           rotate_left
           ·intro w'
            go_simp
            with_reducible rfl
           rotate_left
           ·simp only [Act.put, zT, z0, zS, i64_w, i32_w]
            rfl
           refine pure_ (i := 3) (N := some 102) (v := ?_) (a' := ?_) #[yy,yy,nn,yy,nn,nn,nn,nn,nn,nn,nn,nn,nn,nn,nn,nn,nn,nn,nn,nn,nn,nn,nn,nn,nn] rfl rfl (any_of HT_.out (by kernel_rfl)) (fun _ _ _ h => h) (Or.inl ⟨by rfl, ?_⟩) ?_ ?_
           rotate_left
           ·intro w'
            go_simp
            with_reducible rfl
           rotate_left
           ·simp only [Act.put, zT, z0, zS, i64_w, i32_w]
            rfl
           refine pure_ (i := 5) (N := some 104) (v := ?_) (a' := ?_) #[yy,yy,nn,yy,nn,yy,nn,nn,nn,nn,nn,nn,nn,nn,nn,nn,nn,nn,nn,nn,nn,nn,nn,nn,nn] rfl rfl (any_of HT_.out (by kernel_rfl)) (fun _ _ _ h => h) (Or.inl ⟨by rfl, ?_⟩) ?_ ?_
           rotate_left
           ·intro w'
            go_simp
            with_reducible rfl
           rotate_left
           ·simp only [Act.put, zT, z0, zS, i64_w, i32_w]
            rfl
           refine take_ (i := 2) (N := some 101) (v := ?_) (a' := ?_) #[yy,yy,yy,yy,nn,yy,nn,nn,nn,nn,nn,nn,nn,nn,nn,nn,nn,nn,nn,nn,nn,nn,nn,nn,nn] rfl rfl (take_ofW HT_.out HW_.out (by kernel_rfl)) (fun _ _ _ h => h) (Or.inl ⟨by rfl, ?_⟩) hHeld ?_ ?_
           rotate_left
           ·rintro w' ⟨s0, s1, s2⟩
            go_simp
            with_reducible rfl
           rotate_left
           ·simp only [Act.put, zT, z0, zS, i64_w, i32_w]
            rfl
           refine one_ (i := 4) (N := some 103) #[yy,yy,yy,yy,yy,yy,nn,nn,nn,nn,nn,nn,nn,nn,nn,nn,nn,nn,nn,nn,nn,nn,nn,nn,nn] rfl rfl (one_of HT_.out (by kernel_rfl)) (by decide) (fun K hK => ?_)
           refine goes_ Tryd.func15 (by kernel_rfl) rfl #[.slice A0 l0.length c0, .int .i64 t509, .int .i64 (wrap64 ((Int.tmod (wrap64 (a3)) 16) + 1))] (by rfl) rfl rfl (by (try simp only [List.map_toArray, List.map_cons, List.map_nil]); first | done | rfl | (simp only [List.length_drop, List.length_take]; rfl)) ?_
           with_reducible refine (platenref03_Column.calls kj24 _ _ l0 t509 (wrap64 ((Int.tmod (wrap64 (a3)) 16) + 1)) t521 _ ?side1 ?side2 A46.out).mono ?_
           (case side1 => repeat (first | exact (Kd.C_below HR0.out HB.out) | (with_reducible refine Kd.C_alloc ?_ _) | (with_reducible refine Kd.C_drewN ?_ _) | (with_reducible refine Kd.C_drew ?_)))
           (case side2 => exact HC0.out)
           rintro e w63 ⟨rfl, hb⟩
           refine ⟨_, rfl, ?_⟩
           have n0_ := Aside0.mk (Kd.R_below (by (with_reducible repeat (first | apply Kd.R_alloc | apply Kd.R_drewN | apply Kd.R_drew)); exact HO_15.out) hb)
           have n1_ := Aside0.mk (blk_below (g := gb513) (o := .cells #[.int .i64 t509, .bool t510, .bool t511] 25 (0, 0)) (by (with_reducible repeat (first | refine kN ?_ _ | refine kD ?_ | refine kA ?_ _)); exact BK513.out) hb)
           have n2_ := Aside0.mk (below_step (by repeat (first | exact HB.out | apply bA | apply bN | apply bD | refine bS ?_ GE513.out)) hb)
           clear HO_15
           clear BK513
           clear HB
           have HO_15 := n0_
           have BK513 := n1_
           have HB := n2_
           clear n0_ n1_ n2_
           (try clear hb)
           (try clear hb2)
           (try clear hk)
           (try clear hi)
           refine hK.out _ _ ⟨(blk_cell BK513.out 0).trans rfl, (blk_cell BK513.out 1).trans rfl, (blk_cell BK513.out 2).trans rfl⟩ (fun hHeld => ?_)
           clear hK K
           refine norm_ (a' := ?_) ?_ ?_
           rotate_left
           ·show Act.put _ (some 103) _ = _
            simp only [Act.put, zT, z0, zS, i64_w, i32_w]
            rfl
           refine pure_ (i := 6) (N := some 105) (v := ?_) (a' := ?_) #[yy,yy,yy,yy,yy,yy,yy,nn,nn,nn,nn,nn,nn,nn,nn,nn,nn,nn,nn,nn,nn,nn,nn,nn,nn] rfl rfl (any_of HT_.out (by kernel_rfl)) (fun _ _ _ h => h) (Or.inl ⟨by rfl, ?_⟩) ?_ ?_
           rotate_left
           ·intro w'
            go_simp
            with_reducible rfl
           rotate_left
           ·simp only [Act.put, zT, z0, zS, i64_w, i32_w]
            rfl
           refine pure_ (i := 7) (N := some 106) (v := ?_) (a' := ?_) #[yy,yy,yy,yy,yy,yy,yy,yy,nn,nn,nn,nn,nn,nn,nn,nn,nn,nn,nn,nn,nn,nn,nn,nn,nn] rfl rfl (any_of HT_.out (by kernel_rfl)) (fun _ _ _ h => h) (Or.inl ⟨by rfl, ?_⟩) ?_ ?_
           rotate_left
           ·intro w'
            go_simp
            with_reducible rfl
           rotate_left
           ·simp only [Act.put, zT, z0, zS, i64_w, i32_w]
            rfl
           refine pure_ (i := 8) (N := some 107) (v := undef) (a' := ?_) #[yy,yy,yy,yy,yy,yy,yy,yy,yy,nn,nn,nn,nn,nn,nn,nn,nn,nn,nn,nn,nn,nn,nn,nn,nn] rfl rfl (any_of HT_.out (by kernel_rfl)) (fun _ _ _ h => h) (Or.inr ⟨by rfl, rfl⟩) ?_ ?_
           rotate_left
           ·simp only [Act.put, zT, z0, zS, i64_w, i32_w]
            rfl
           refine pure_ (i := 9) (N := some 108) (v := undef) (a' := ?_) #[yy,yy,yy,yy,yy,yy,yy,yy,yy,yy,nn,nn,nn,nn,nn,nn,nn,nn,nn,nn,nn,nn,nn,nn,nn] rfl rfl (any_of HT_.out (by kernel_rfl)) (fun _ _ _ h => h) (Or.inr ⟨by rfl, rfl⟩) ?_ ?_
           rotate_left
           ·simp only [Act.put, zT, z0, zS, i64_w, i32_w]
            rfl
           refine pure_ (i := 10) (N := some 109) (v := undef) (a' := ?_) #[yy,yy,yy,yy,yy,yy,yy,yy,yy,yy,yy,nn,nn,nn,nn,nn,nn,nn,nn,nn,nn,nn,nn,nn,nn] rfl rfl (any_of HT_.out (by kernel_rfl)) (fun _ _ _ h => h) (Or.inr ⟨by rfl, rfl⟩) ?_ ?_
           rotate_left
           ·simp only [Act.put, zT, z0, zS, i64_w, i32_w]
            rfl
           refine pure_ (i := 11) (N := some 110) (v := undef) (a' := ?_) #[yy,yy,yy,yy,yy,yy,yy,yy,yy,yy,yy,yy,nn,nn,nn,nn,nn,nn,nn,nn,nn,nn,nn,nn,nn] rfl rfl (any_of HT_.out (by kernel_rfl)) (fun _ _ _ h => h) (Or.inr ⟨by rfl, rfl⟩) ?_ ?_
           rotate_left
           ·simp only [Act.put, zT, z0, zS, i64_w, i32_w]
            rfl
           refine pure_ (i := 12) (N := some 111) (v := undef) (a' := ?_) #[yy,yy,yy,yy,yy,yy,yy,yy,yy,yy,yy,yy,yy,nn,nn,nn,nn,nn,nn,nn,nn,nn,nn,nn,nn] rfl rfl (any_of HT_.out (by kernel_rfl)) (fun _ _ _ h => h) (Or.inr ⟨by rfl, rfl⟩) ?_ ?_
           rotate_left
           ·simp only [Act.put, zT, z0, zS, i64_w, i32_w]
            rfl
           refine pure_ (i := 13) (N := some 112) (v := undef) (a' := ?_) #[yy,yy,yy,yy,yy,yy,yy,yy,yy,yy,yy,yy,yy,yy,nn,nn,nn,nn,nn,nn,nn,nn,nn,nn,nn] rfl rfl (any_of HT_.out (by kernel_rfl)) (fun _ _ _ h => h) (Or.inr ⟨by rfl, rfl⟩) ?_ ?_
           rotate_left
           ·simp only [Act.put, zT, z0, zS, i64_w, i32_w]
            rfl
           refine pure_ (i := 14) (N := some 113) (v := undef) (a' := ?_) #[yy,yy,yy,yy,yy,yy,yy,yy,yy,yy,yy,yy,yy,yy,yy,nn,nn,nn,nn,nn,nn,nn,nn,nn,nn] rfl rfl (any_of HT_.out (by kernel_rfl)) (fun _ _ _ h => h) (Or.inr ⟨by rfl, rfl⟩) ?_ ?_
           rotate_left
           ·simp only [Act.put, zT, z0, zS, i64_w, i32_w]
            rfl
           refine pure_ (i := 15) (N := some 114) (v := undef) (a' := ?_) #[yy,yy,yy,yy,yy,yy,yy,yy,yy,yy,yy,yy,yy,yy,yy,yy,nn,nn,nn,nn,nn,nn,nn,nn,nn] rfl rfl (any_of HT_.out (by kernel_rfl)) (fun _ _ _ h => h) (Or.inr ⟨by rfl, rfl⟩) ?_ ?_
           rotate_left
           ·simp only [Act.put, zT, z0, zS, i64_w, i32_w]
            rfl
           refine pure_ (i := 16) (N := some 115) (v := undef) (a' := ?_) #[yy,yy,yy,yy,yy,yy,yy,yy,yy,yy,yy,yy,yy,yy,yy,yy,yy,nn,nn,nn,nn,nn,nn,nn,nn] rfl rfl (any_of HT_.out (by kernel_rfl)) (fun _ _ _ h => h) (Or.inr ⟨by rfl, rfl⟩) ?_ ?_
           rotate_left
           ·simp only [Act.put, zT, z0, zS, i64_w, i32_w]
            rfl
           refine pure_ (i := 17) (N := some 116) (v := undef) (a' := ?_) #[yy,yy,yy,yy,yy,yy,yy,yy,yy,yy,yy,yy,yy,yy,yy,yy,yy,yy,nn,nn,nn,nn,nn,nn,nn] rfl rfl (any_of HT_.out (by kernel_rfl)) (fun _ _ _ h => h) (Or.inr ⟨by rfl, rfl⟩) ?_ ?_
           rotate_left
           ·simp only [Act.put, zT, z0, zS, i64_w, i32_w]
            rfl
           refine pure_ (i := 18) (N := some 117) (v := undef) (a' := ?_) #[yy,yy,yy,yy,yy,yy,yy,yy,yy,yy,yy,yy,yy,yy,yy,yy,yy,yy,yy,nn,nn,nn,nn,nn,nn] rfl rfl (any_of HT_.out (by kernel_rfl)) (fun _ _ _ h => h) (Or.inr ⟨by rfl, rfl⟩) ?_ ?_
           rotate_left
           ·simp only [Act.put, zT, z0, zS, i64_w, i32_w]
            rfl
           refine pure_ (i := 19) (N := some 118) (v := undef) (a' := ?_) #[yy,yy,yy,yy,yy,yy,yy,yy,yy,yy,yy,yy,yy,yy,yy,yy,yy,yy,yy,yy,nn,nn,nn,nn,nn] rfl rfl (any_of HT_.out (by kernel_rfl)) (fun _ _ _ h => h) (Or.inr ⟨by rfl, rfl⟩) ?_ ?_
           rotate_left
           ·simp only [Act.put, zT, z0, zS, i64_w, i32_w]
            rfl
           refine pure_ (i := 20) (N := some 119) (v := undef) (a' := ?_) #[yy,yy,yy,yy,yy,yy,yy,yy,yy,yy,yy,yy,yy,yy,yy,yy,yy,yy,yy,yy,yy,nn,nn,nn,nn] rfl rfl (any_of HT_.out (by kernel_rfl)) (fun _ _ _ h => h) (Or.inr ⟨by rfl, rfl⟩) ?_ ?_
           rotate_left
           ·simp only [Act.put, zT, z0, zS, i64_w, i32_w]
            rfl
           refine pure_ (i := 21) (N := some 120) (v := undef) (a' := ?_) #[yy,yy,yy,yy,yy,yy,yy,yy,yy,yy,yy,yy,yy,yy,yy,yy,yy,yy,yy,yy,yy,yy,nn,nn,nn] rfl rfl (any_of HT_.out (by kernel_rfl)) (fun _ _ _ h => h) (Or.inr ⟨by rfl, rfl⟩) ?_ ?_
           rotate_left
           ·simp only [Act.put, zT, z0, zS, i64_w, i32_w]
            rfl
           refine pure_ (i := 22) (N := some 121) (v := undef) (a' := ?_) #[yy,yy,yy,yy,yy,yy,yy,yy,yy,yy,yy,yy,yy,yy,yy,yy,yy,yy,yy,yy,yy,yy,yy,nn,nn] rfl rfl (any_of HT_.out (by kernel_rfl)) (fun _ _ _ h => h) (Or.inr ⟨by rfl, rfl⟩) ?_ ?_
           rotate_left
           ·simp only [Act.put, zT, z0, zS, i64_w, i32_w]
            rfl
           refine pure_ (i := 23) (N := some 122) (v := ?_) (a' := ?_) #[yy,yy,yy,yy,yy,yy,yy,yy,yy,yy,yy,yy,yy,yy,yy,yy,yy,yy,yy,yy,yy,yy,yy,yy,nn] rfl rfl (any_of HT_.out (by kernel_rfl)) (fun _ _ _ h => h) (Or.inl ⟨by rfl, ?_⟩) ?_ ?_
           rotate_left
           ·intro w'
            go_simp
            with_reducible rfl
           rotate_left
           ·simp only [Act.put, zT, z0, zS, i64_w, i32_w]
            rfl
           refine pure_ (i := 24) (N := some 8) (v := ?_) (a' := ?_) #[yy,yy,yy,yy,yy,yy,yy,yy,yy,yy,yy,yy,yy,yy,yy,yy,yy,yy,yy,yy,yy,yy,yy,yy,yy] rfl rfl (any_of HT_.out (by kernel_rfl)) (fun _ _ _ h => h) (Or.inl ⟨by rfl, ?_⟩) ?_ ?_
           rotate_left
           ·intro w'
            go_simp
            with_reducible rfl
           rotate_left
           ·simp only [Act.put, zT, z0, zS, i64_w, i32_w]
            rfl
           refine done_ (done_of HT_.out (by kernel_rfl)) ?_
           try go_wp2
           go_ret
           exact ⟨by first | rfl | (simp [errW_none, errW_some] <;> rfl) | (simp only [← hji42]; first | rfl | (simp [errW_none, errW_some] <;> rfl)) | (simp [*, errW_none, errW_some] <;> rfl), by repeat (first | exact HB.out | apply bA | apply bN | apply bD | refine bS ?_ GE513.out)⟩
         ·rw [if_neg c44] at H
          exact absurd H (by simp)
        ·rw [if_neg c43] at H
         exact absurd H (by simp)

/-- THE ONE PURE STATEMENT of platenlaw19_MotionLines: yours. -/
def platenlaw19_MotionLines.Pure : Prop := ∀ (l0 : List Int) (a1 : Int) (a2 : Int) (a3 : Int), l0.length ≤ maxLen → l0.length * 1 ≤ 140737488351232 → (∀ x ∈ l0, (Lit.int .u8 x).wf = true) → (Lit.int .u8 a1).wf = true → (Lit.int .u8 a2).wf = true → (Lit.int .u8 a3).wf = true → ∃ k, platenlaw19_MotionLines.f k l0 a1 a2 a3 = some true
theorem platenlaw19_MotionLines.walk (P : platenlaw19_MotionLines.Pure) (a0 : Option Addr) (len0 cap0 : Nat) (z0 : List Int) (a1 : Int) (a2 : Int) (a3 : Int) (w : World) (hT : Tabs w) (w0 : (a0 = none ∧ len0 = 0 ∧ cap0 = 0 ∧ z0 = []) ∨ ∃ x, a0 = some x ∧ len0 ≤ cap0 ∧ cap0 ≤ maxLen ∧ z0.length = cap0 ∧ (∀ i, i < z0.length → w.cell? (x.add i) = some (.int .u8 (z0.getD i 0))) ∧ ∀ n ∈ z0, (Lit.int .u8 n).wf = true) (y0 : len0 * 1 ≤ 140737488351232) (w1 : (Lit.int .u8 a1).wf = true) (w2 : (Lit.int .u8 a2).wf = true) (w3 : (Lit.int .u8 a3).wf = true) :
  Calls Tryd.prog 6 #[.slice a0 len0 cap0, .int .u8 a1, .int .u8 a2, .int .u8 a3] w fun e w' => e = .returned (.bool true) ∧ Below w.heap.size w w' := by
 obtain ⟨l0, rfl, hr0, hm0, hw0, hc0⟩ := ReadsInt.ofRowC w0
 obtain ⟨k, h⟩ := P l0 a1 a2 a3 hm0 y0 hw0 w1 w2 w3
 refine (platenlaw19_MotionLines.calls k _ _ l0 a1 a2 a3 true w hT (Kd.C_of_reads (d := (0 : Int)) (h1 := fun _ => rfl) hr0) hc0 h).mono ?_
 rintro e w' ⟨rfl, hd⟩
 exact ⟨rfl, hd⟩

end Go.Proofs.YtloafpnniooliaaDoor.Pa
