-- Laid by a program of this claim's own (wip/tools/mkprint.py, ext.py): walks of the functions that the statements reach.
import Derived.Test.YtloafpnniooliaaDoorPax0
import Derived.Test.YtloafpnniooliaaDoorPax10
import Derived.Test.YtloafpnniooliaaDoorPax11
import Derived.Test.YtloafpnniooliaaDoorPax13
import Derived.Test.YtloafpnniooliaaDoorPax17
import Derived.Test.YtloafpnniooliaaDoorPax18
namespace Go.Proofs.YtloafpnniooliaaDoor.Pa
open Go.RowKit Go.Proofs.YtloafpnniooliaaDoor.Ext Go.Proofs.YtloafpnniooliaaDoorW.PrintWords Go.Proofs.YtloafpnniooliaaDoorW.PrintLast Go.Proofs.YtloafpnniooliaaDoorW.PrintMore
attribute [local go_sem] max2_int min2_int max_two min_two max_three min_three max_four min_four   -- for this text's walks alone
set_option linter.unusedVariables false
set_option linter.unusedSimpArgs false

/-! ### platenlaw19_MotionWords: function 7 -/
mutual
def platenlaw19_MotionWords.j0 : Nat → List Int → Int → Int → Int → Bool → Option (Bool)
  | 0, _, _, _, _, _ => none
  | k + 1, x0, x1, x2, x3, x23 => if x23 = true then ((platenlaw19_steps.f k).bind fun t525 => (some t525)) else (if 0 ≤ (Int.tmod (wrap64 (x3)) 3) then (if (Int.tmod (wrap64 (x3)) 3) < 3 then ((platenref01_Floor.f k x0 (wrap64 (x1))).bind fun t526 => ((motion_Go.f k x0 t526 (bt (⟨#[119, 98, 101]⟩ : ByteArray) (Int.tmod (wrap64 (x3)) 3)) 0 (wrap64 ((Int.tmod (wrap64 (x2)) 5) + 1)) 8).bind fun bt527 => (platenlaw19_MotionWords.l0 k x0 (bt (⟨#[119, 98, 101]⟩ : ByteArray) (Int.tmod (wrap64 (x3)) 3)) t526 (wrap64 ((Int.tmod (wrap64 (x2)) 5) + 1)) bt527.2.2.2 t526 true 0 bt527.1 bt527.2.1 bt527.2.2.1))) else (none)) else (none))
def platenlaw19_MotionWords.l0 : Nat → List Int → Int → Int → Int → Int → Int → Bool → Int → Int → Bool → Bool → Option (Bool)
  | 0, _, _, _, _, _, _, _, _, _, _, _ => none
  | k + 1, x0, x9, x10, x11, x13, x14, x15, x16, x532000, x532001, x532002 => if x16 < x11 then (platenlaw19_MotionWords.j2 k x0 x9 x10 x11 x13 x14 x15 x16 x15 x532000 x532001 x532002) else (platenlaw19_MotionWords.j2 k x0 x9 x10 x11 x13 x14 x15 x16 false x532000 x532001 x532002)
def platenlaw19_MotionWords.j2 : Nat → List Int → Int → Int → Int → Int → Int → Bool → Int → Bool → Int → Bool → Bool → Option (Bool)
  | 0, _, _, _, _, _, _, _, _, _, _, _, _ => none
  | k + 1, x0, x9, x10, x11, x13, x14, x15, x16, x52, x532000, x532001, x532002 => if x52 = true then (if x9 = 119 then ((platenref05_Forward.f k x0 x14).bind fun bt532 => (platenlaw19_MotionWords.l0 k x0 x9 x10 x11 x13 bt532.1 bt532.2 (wrap64 (x16 + 1)) x532000 x532001 x532002)) else (if x9 = 98 then ((platenref05_Back.f k x0 x14).bind fun bt534 => (platenlaw19_MotionWords.l0 k x0 x9 x10 x11 x13 bt534.1 bt534.2 (wrap64 (x16 + 1)) x532000 x532001 x532002)) else ((platenref05_Last.f k x0 x14).bind fun bt536 => (platenlaw19_MotionWords.l0 k x0 x9 x10 x11 x13 bt536.1 bt536.2 (wrap64 (x16 + 1)) x532000 x532001 x532002)))) else (if x15 = true then (if x13 = 0 then (if x532000 = x14 then (if (x532002 == (x9 == 101)) = true then (some ((x9 == 98) == (decide (x532000 < x10)))) else (some false)) else (some false)) else (some false)) else (some (x13 == 2)))
end
def platenlaw19_MotionWords.f (k : Nat) (l0 : List Int) (a1 : Int) (a2 : Int) (a3 : Int) : Option (Bool) := (platenlaw19_steps.f k).bind fun t524 => (if t524 = true then (platenlaw19_MotionWords.j0 k l0 a1 a2 a3 (decide ((l0.length : Int) > 200))) else (platenlaw19_MotionWords.j0 k l0 a1 a2 a3 true))
theorem platenlaw19_MotionWords.mono_l : ∀ k, (∀ y0 y1 y2 y3 y4, LeO (platenlaw19_MotionWords.j0 k y0 y1 y2 y3 y4) (platenlaw19_MotionWords.j0 (k + 1) y0 y1 y2 y3 y4)) ∧ (∀ y0 y1 y2 y3 y4 y5 y6 y7 y8 y9 y10, LeO (platenlaw19_MotionWords.l0 k y0 y1 y2 y3 y4 y5 y6 y7 y8 y9 y10) (platenlaw19_MotionWords.l0 (k + 1) y0 y1 y2 y3 y4 y5 y6 y7 y8 y9 y10)) ∧ (∀ y0 y1 y2 y3 y4 y5 y6 y7 y8 y9 y10 y11, LeO (platenlaw19_MotionWords.j2 k y0 y1 y2 y3 y4 y5 y6 y7 y8 y9 y10 y11) (platenlaw19_MotionWords.j2 (k + 1) y0 y1 y2 y3 y4 y5 y6 y7 y8 y9 y10 y11))
  | 0 => ⟨fun _ _ _ _ _ r h => by simp [platenlaw19_MotionWords.j0] at h, fun _ _ _ _ _ _ _ _ _ _ _ r h => by simp [platenlaw19_MotionWords.l0] at h, fun _ _ _ _ _ _ _ _ _ _ _ _ r h => by simp [platenlaw19_MotionWords.j2] at h⟩
  | k + 1 => by
    obtain ⟨ih0, ih1, ih2⟩ := platenlaw19_MotionWords.mono_l k
    refine ⟨?_, ?_, ?_⟩
    · intro y0 y1 y2 y3 y4
      unfold platenlaw19_MotionWords.j0
      repeat' first
      | (with_reducible exact ih0 _ _ _ _ _)
      | (with_reducible exact ih1 _ _ _ _ _ _ _ _ _ _ _)
      | (with_reducible exact ih2 _ _ _ _ _ _ _ _ _ _ _ _)
      | (with_reducible exact motion_Go.mono _ _ _ _ _ _ _)
      | (with_reducible exact platenlaw19_steps.mono _)
      | (with_reducible exact platenref01_Floor.mono _ _ _)
      | (with_reducible exact platenref05_Back.mono _ _ _)
      | (with_reducible exact platenref05_Forward.mono _ _ _)
      | (with_reducible exact platenref05_Last.mono _ _ _)
      | (with_reducible exact LeO.refl _)
      | (with_reducible exact LeO.none _)
      | (with_reducible refine LeO.ite ?_ ?_)
      | (with_reducible refine LeO.bind ?_ (fun _ => ?_))
      | exact ih0 _ _ _ _ _
      | exact ih1 _ _ _ _ _ _ _ _ _ _ _
      | exact ih2 _ _ _ _ _ _ _ _ _ _ _ _
      | exact motion_Go.mono _ _ _ _ _ _ _
      | exact platenlaw19_steps.mono _
      | exact platenref01_Floor.mono _ _ _
      | exact platenref05_Back.mono _ _ _
      | exact platenref05_Forward.mono _ _ _
      | exact platenref05_Last.mono _ _ _
      | exact LeO.none _
      | refine LeO.ite ?_ ?_
      | refine LeO.bind ?_ (fun _ => ?_)
    · intro y0 y1 y2 y3 y4 y5 y6 y7 y8 y9 y10
      unfold platenlaw19_MotionWords.l0
      repeat' first
      | (with_reducible exact ih0 _ _ _ _ _)
      | (with_reducible exact ih1 _ _ _ _ _ _ _ _ _ _ _)
      | (with_reducible exact ih2 _ _ _ _ _ _ _ _ _ _ _ _)
      | (with_reducible exact motion_Go.mono _ _ _ _ _ _ _)
      | (with_reducible exact platenlaw19_steps.mono _)
      | (with_reducible exact platenref01_Floor.mono _ _ _)
      | (with_reducible exact platenref05_Back.mono _ _ _)
      | (with_reducible exact platenref05_Forward.mono _ _ _)
      | (with_reducible exact platenref05_Last.mono _ _ _)
      | (with_reducible exact LeO.refl _)
      | (with_reducible exact LeO.none _)
      | (with_reducible refine LeO.ite ?_ ?_)
      | (with_reducible refine LeO.bind ?_ (fun _ => ?_))
      | exact ih0 _ _ _ _ _
      | exact ih1 _ _ _ _ _ _ _ _ _ _ _
      | exact ih2 _ _ _ _ _ _ _ _ _ _ _ _
      | exact motion_Go.mono _ _ _ _ _ _ _
      | exact platenlaw19_steps.mono _
      | exact platenref01_Floor.mono _ _ _
      | exact platenref05_Back.mono _ _ _
      | exact platenref05_Forward.mono _ _ _
      | exact platenref05_Last.mono _ _ _
      | exact LeO.none _
      | refine LeO.ite ?_ ?_
      | refine LeO.bind ?_ (fun _ => ?_)
    · intro y0 y1 y2 y3 y4 y5 y6 y7 y8 y9 y10 y11
      unfold platenlaw19_MotionWords.j2
      repeat' first
      | (with_reducible exact ih0 _ _ _ _ _)
      | (with_reducible exact ih1 _ _ _ _ _ _ _ _ _ _ _)
      | (with_reducible exact ih2 _ _ _ _ _ _ _ _ _ _ _ _)
      | (with_reducible exact motion_Go.mono _ _ _ _ _ _ _)
      | (with_reducible exact platenlaw19_steps.mono _)
      | (with_reducible exact platenref01_Floor.mono _ _ _)
      | (with_reducible exact platenref05_Back.mono _ _ _)
      | (with_reducible exact platenref05_Forward.mono _ _ _)
      | (with_reducible exact platenref05_Last.mono _ _ _)
      | (with_reducible exact LeO.refl _)
      | (with_reducible exact LeO.none _)
      | (with_reducible refine LeO.ite ?_ ?_)
      | (with_reducible refine LeO.bind ?_ (fun _ => ?_))
      | exact ih0 _ _ _ _ _
      | exact ih1 _ _ _ _ _ _ _ _ _ _ _
      | exact ih2 _ _ _ _ _ _ _ _ _ _ _ _
      | exact motion_Go.mono _ _ _ _ _ _ _
      | exact platenlaw19_steps.mono _
      | exact platenref01_Floor.mono _ _ _
      | exact platenref05_Back.mono _ _ _
      | exact platenref05_Forward.mono _ _ _
      | exact platenref05_Last.mono _ _ _
      | exact LeO.none _
      | refine LeO.ite ?_ ?_
      | refine LeO.bind ?_ (fun _ => ?_)
theorem platenlaw19_MotionWords.mono : ∀ a0 a1 a2 a3 k, LeO (platenlaw19_MotionWords.f k a0 a1 a2 a3) (platenlaw19_MotionWords.f (k + 1) a0 a1 a2 a3) := by
  intro a0 a1 a2 a3 k
  obtain ⟨ih0, ih1, ih2⟩ := platenlaw19_MotionWords.mono_l k
  unfold platenlaw19_MotionWords.f
  repeat' first
      | (with_reducible exact ih0 _ _ _ _ _)
      | (with_reducible exact ih1 _ _ _ _ _ _ _ _ _ _ _)
      | (with_reducible exact ih2 _ _ _ _ _ _ _ _ _ _ _ _)
      | (with_reducible exact motion_Go.mono _ _ _ _ _ _ _)
      | (with_reducible exact platenlaw19_steps.mono _)
      | (with_reducible exact platenref01_Floor.mono _ _ _)
      | (with_reducible exact platenref05_Back.mono _ _ _)
      | (with_reducible exact platenref05_Forward.mono _ _ _)
      | (with_reducible exact platenref05_Last.mono _ _ _)
      | (with_reducible exact LeO.refl _)
      | (with_reducible exact LeO.none _)
      | (with_reducible refine LeO.ite ?_ ?_)
      | (with_reducible refine LeO.bind ?_ (fun _ => ?_))
      | exact ih0 _ _ _ _ _
      | exact ih1 _ _ _ _ _ _ _ _ _ _ _
      | exact ih2 _ _ _ _ _ _ _ _ _ _ _ _
      | exact motion_Go.mono _ _ _ _ _ _ _
      | exact platenlaw19_steps.mono _
      | exact platenref01_Floor.mono _ _ _
      | exact platenref05_Back.mono _ _ _
      | exact platenref05_Forward.mono _ _ _
      | exact platenref05_Last.mono _ _ _
      | exact LeO.none _
      | refine LeO.ite ?_ ?_
      | refine LeO.bind ?_ (fun _ => ?_)
set_option maxHeartbeats 8000000 in
set_option maxRecDepth 100000 in
theorem platenlaw19_MotionWords.calls (k : Nat) (A0 : Option Addr) (c0 : Nat) (l0 : List Int) (a1 : Int) (a2 : Int) (a3 : Int) (r : Bool) (w : World) (hT : Tabs w) (hr0 : Kd.C (Kd.int .u8) w A0 l0.length l0) (hc0 : l0.length ≤ c0) (h : platenlaw19_MotionWords.f k l0 a1 a2 a3 = some r) :
  Calls Tryd.prog 7 #[.slice A0 l0.length c0, .int .u8 a1, .int .u8 a2, .int .u8 a3] w fun e w' => e = .returned (.bool r) ∧ Below w.heap.size w w' := by
 have hu30 := Tryd.underlying30
 have hu25 := Tryd.underlying25
 have HR0 := Aside0.mk hr0
 have HC0 := Aside0.mk hc0
 clear hr0 hc0
 have HB := Aside0.mk (Below.refl w.heap.size w)
 have HT := Aside0.mk hT
 clear hT
 have H : ((platenlaw19_steps.f k).bind fun t524 => (if t524 = true then (platenlaw19_MotionWords.j0 k l0 a1 a2 a3 (decide ((l0.length : Int) > 200))) else (platenlaw19_MotionWords.j0 k l0 a1 a2 a3 true))) = some r := h
 clear h
 have HC5 := Aside0.mk H
 clear H
 go_enter Tryd.func7, Tryd.ntmps7
 go_upto_region 1 with (fail)
 go_cut [23] (fun v23 wc => ∃ (kq : Nat) (x23_4 : Bool), v23 = .bool x23_4 ∧ Aside0 (platenlaw19_MotionWords.j0 kq l0 a1 a2 a3 x23_4 = some r) ∧ Aside0 (kq ≤ k) ∧ Aside0 (Below w.heap.size w wc))
 case first =>
  have H := HC5.out
  clear HC5
  replace H := Option.bind_eq_some_iff.mp H
  obtain ⟨t524, A60, H⟩ := H
  replace H : (if t524 = true then (platenlaw19_MotionWords.j0 k l0 a1 a2 a3 (decide ((l0.length : Int) > 200))) else (platenlaw19_MotionWords.j0 k l0 a1 a2 a3 true)) = some r := H
  have A6 := Aside0.mk A60
  clear A60
  by_cases c7 : t524 = true
  ·subst c7
   have H1 : (platenlaw19_MotionWords.j0 k l0 a1 a2 a3 (decide ((l0.length : Int) > 200))) = some r := by rw [if_pos rfl] at H; exact H
   clear H
   have H := H1
   clear H1
   have H' := Aside0.mk H
   clear H
   go_wp2_with (first | ((with_reducible refine gate_callee (f := 9) rfl ?_); refine goesL_ (some 17) rfl rfl Tryd.func9 (by kernel_rfl) rfl #[] rfl (by (try simp only [List.map_toArray, List.map_cons, List.map_nil]); first | done | rfl | (simp only [List.length_drop, List.length_take]; rfl)) ?_; (with_reducible refine (platenlaw19_steps.calls k  true _ ?side1 A6.out).mono ?_); (case side1 => exact Tabs.below HT.out (by repeat (first | exact HB.out | apply bA | apply bN | apply bD))); rintro e w8 ⟨rfl, hb⟩; refine ⟨_, rfl, ?_⟩; have n0_ := Aside0.mk (below_step (by repeat (first | exact HB.out | apply bA | apply bN | apply bD)) hb); clear HB; have HB := n0_; clear n0_; (try clear hb); (try clear hb2); (try clear hk); (try clear hi)))
   go_meet
   case rel => exact ⟨_, (decide ((l0.length : Int) > 200)), (by first | rfl | (simp; done) | (simp [*]; done)), H', ⟨by first | omega | exact Nat.le_refl _⟩, ⟨by repeat (first | exact HB.out | apply bA | apply bN | apply bD)⟩⟩
  ·replace c7 := Bool.eq_false_iff.mpr c7
   subst c7
   have H1 : (platenlaw19_MotionWords.j0 k l0 a1 a2 a3 true) = some r := by rw [if_neg (show ¬ (false = true) by decide)] at H; exact H
   clear H
   have H := H1
   clear H1
   have H' := Aside0.mk H
   clear H
   go_wp2_with (first | ((with_reducible refine gate_callee (f := 9) rfl ?_); refine goesL_ (some 17) rfl rfl Tryd.func9 (by kernel_rfl) rfl #[] rfl (by (try simp only [List.map_toArray, List.map_cons, List.map_nil]); first | done | rfl | (simp only [List.length_drop, List.length_take]; rfl)) ?_; (with_reducible refine (platenlaw19_steps.calls k  false _ ?side1 A6.out).mono ?_); (case side1 => exact Tabs.below HT.out (by repeat (first | exact HB.out | apply bA | apply bN | apply bD))); rintro e w9 ⟨rfl, hb⟩; refine ⟨_, rfl, ?_⟩; have n0_ := Aside0.mk (below_step (by repeat (first | exact HB.out | apply bA | apply bN | apply bD)) hb); clear HB; have HB := n0_; clear n0_; (try clear hb); (try clear hb2); (try clear hk); (try clear hi)))
   go_meet
   case rel => exact ⟨_, (true), (by first | rfl | (simp; done) | (simp [*]; done)), H', ⟨by first | omega | exact Nat.le_refl _⟩, ⟨by repeat (first | exact HB.out | apply bA | apply bN | apply bD)⟩⟩
 case rest =>
  clear HC5
  try clear p2
  try clear c7
  try clear c9
  obtain ⟨kq, x23_4, rfl, HA, HJ4, HB⟩ := hcut
  cases kq with
  | zero => exact absurd HA.out (by simp [platenlaw19_MotionWords.j0])
  | succ kj4 =>
   have H := HA.out
   clear HA
   simp only [platenlaw19_MotionWords.j0] at H
   by_cases c10 : x23_4 = true
   ·subst c10
    have H1 : ((platenlaw19_steps.f kj4).bind fun t525 => (some t525)) = some r := by rw [if_pos rfl] at H; exact H
    clear H
    have H := H1
    clear H1
    replace H := Option.bind_eq_some_iff.mp H
    obtain ⟨t525, A110, H⟩ := H
    replace H : (some t525) = some r := H
    have A11 := Aside0.mk A110
    clear A110
    obtain rfl := Option.some.inj H
    go_wp2_with (first | ((with_reducible refine gate_callee (f := 9) rfl ?_); refine goesL_ (some 24) rfl rfl Tryd.func9 (by kernel_rfl) rfl #[] rfl (by (try simp only [List.map_toArray, List.map_cons, List.map_nil]); first | done | rfl | (simp only [List.length_drop, List.length_take]; rfl)) ?_; (with_reducible refine (platenlaw19_steps.calls kj4  t525 _ ?side1 A11.out).mono ?_); (case side1 => exact Tabs.below HT.out (by repeat (first | exact HB.out | apply bA | apply bN | apply bD))); rintro e w12 ⟨rfl, hb⟩; refine ⟨_, rfl, ?_⟩; have n0_ := Aside0.mk (below_step (by repeat (first | exact HB.out | apply bA | apply bN | apply bD)) hb); clear HB; have HB := n0_; clear n0_; (try clear hb); (try clear hb2); (try clear hk); (try clear hi)))
    go_ret
    exact ⟨by first | rfl | (simp [errW_none, errW_some] <;> rfl) | (simp [*, errW_none, errW_some] <;> rfl), by repeat (first | exact HB.out | apply bA | apply bN | apply bD)⟩
   ·replace c10 := Bool.eq_false_iff.mpr c10
    subst c10
    have H1 : (if 0 ≤ (Int.tmod (wrap64 (a3)) 3) then (if (Int.tmod (wrap64 (a3)) 3) < 3 then ((platenref01_Floor.f kj4 l0 (wrap64 (a1))).bind fun t526 => ((motion_Go.f kj4 l0 t526 (bt (⟨#[119, 98, 101]⟩ : ByteArray) (Int.tmod (wrap64 (a3)) 3)) 0 (wrap64 ((Int.tmod (wrap64 (a2)) 5) + 1)) 8).bind fun bt527 => (platenlaw19_MotionWords.l0 kj4 l0 (bt (⟨#[119, 98, 101]⟩ : ByteArray) (Int.tmod (wrap64 (a3)) 3)) t526 (wrap64 ((Int.tmod (wrap64 (a2)) 5) + 1)) bt527.2.2.2 t526 true 0 bt527.1 bt527.2.1 bt527.2.2.1))) else (none)) else (none)) = some r := by rw [if_neg (show ¬ (false = true) by decide)] at H; exact H
    clear H
    have H := H1
    clear H1
    obtain ⟨ji13, hji13⟩ : ∃ j_ : Int, (Int.tmod (wrap64 (a3)) 3) = j_ := ⟨_, rfl⟩
    replace H : (if 0 ≤ (ji13) then (if (ji13) < 3 then ((platenref01_Floor.f kj4 l0 (wrap64 (a1))).bind fun t526 => ((motion_Go.f kj4 l0 t526 (bt (⟨#[119, 98, 101]⟩ : ByteArray) (ji13)) 0 (wrap64 ((Int.tmod (wrap64 (a2)) 5) + 1)) 8).bind fun bt527 => (platenlaw19_MotionWords.l0 kj4 l0 (bt (⟨#[119, 98, 101]⟩ : ByteArray) (ji13)) t526 (wrap64 ((Int.tmod (wrap64 (a2)) 5) + 1)) bt527.2.2.2 t526 true 0 bt527.1 bt527.2.1 bt527.2.2.1))) else (none)) else (none)) = some r := by first | (rw [hji13] at H; exact H) | (simp only [hji13] at H ⊢; exact H)
    by_cases c14 : 0 ≤ (ji13)
    ·rw [if_pos c14] at H
     have c14b0 : decide (0 ≤ (ji13)) = true := decide_eq_true c14
     clear c14
     by_cases c15 : (ji13) < 3
     ·rw [if_pos c15] at H
      have c15b0 : decide ((ji13) < 3) = true := decide_eq_true c15
      clear c15
      replace H := Option.bind_eq_some_iff.mp H
      obtain ⟨t526, A170, H⟩ := H
      replace H : ((motion_Go.f kj4 l0 t526 (bt (⟨#[119, 98, 101]⟩ : ByteArray) (ji13)) 0 (wrap64 ((Int.tmod (wrap64 (a2)) 5) + 1)) 8).bind fun bt527 => (platenlaw19_MotionWords.l0 kj4 l0 (bt (⟨#[119, 98, 101]⟩ : ByteArray) (ji13)) t526 (wrap64 ((Int.tmod (wrap64 (a2)) 5) + 1)) bt527.2.2.2 t526 true 0 bt527.1 bt527.2.1 bt527.2.2.1)) = some r := H
      have A17 := Aside0.mk A170
      clear A170
      replace H := Option.bind_eq_some_iff.mp H
      obtain ⟨⟨t527, t528, t529, t530⟩, A180, H⟩ := H
      replace H : (platenlaw19_MotionWords.l0 kj4 l0 (bt (⟨#[119, 98, 101]⟩ : ByteArray) (ji13)) t526 (wrap64 ((Int.tmod (wrap64 (a2)) 5) + 1)) t530 t526 true 0 t527 t528 t529) = some r := H
      have A18 := Aside0.mk A180
      clear A180
      have H' := Aside0.mk H
      clear H
      have p16 : 0 ≤ ((ji13) : Int) := of_decide_eq_true (by first | (with_reducible assumption) | assumption)
      have q16 : (ji13) < (3 : Int) := of_decide_eq_true (by first | (with_reducible assumption) | assumption)
      have hx16 := bt_at (⟨#[119, 98, 101]⟩ : ByteArray) (ji13)
      replace p16 := eq_true p16
      replace q16 := eq_true q16
      go_wp2_with (first | ((with_reducible refine gate_callee (f := 12) rfl ?_); refine goesL_ (some 32) rfl rfl Tryd.func12 (by kernel_rfl) rfl #[.slice A0 l0.length c0, .int .i64 (wrap64 (a1))] rfl (by (try simp only [List.map_toArray, List.map_cons, List.map_nil]); first | done | rfl | (simp only [List.length_drop, List.length_take]; rfl)) ?_; (with_reducible refine (platenref01_Floor.calls kj4 _ _ l0 (wrap64 (a1)) t526 _ ?side1 ?side2 A17.out).mono ?_); (case side1 => repeat (first | exact (Kd.C_below HR0.out HB.out) | (with_reducible refine Kd.C_alloc ?_ _) | (with_reducible refine Kd.C_drewN ?_ _) | (with_reducible refine Kd.C_drew ?_))); (case side2 => exact HC0.out); rintro e w19 ⟨rfl, hb⟩; refine ⟨_, rfl, ?_⟩; have n0_ := Aside0.mk (below_step (by repeat (first | exact HB.out | apply bA | apply bN | apply bD)) hb); clear HB; have HB := n0_; clear n0_; (try clear hb); (try clear hb2); (try clear hk); (try clear hi)) | ((with_reducible refine gate_callee (f := 10) rfl ?_); refine goesL_ (some 43) rfl rfl Tryd.func10 (by kernel_rfl) rfl #[.slice A0 l0.length c0, .int .i64 t526, .agg #[.int .u8 (bt (⟨#[119, 98, 101]⟩ : ByteArray) (ji13)), .int .u8 0, .int .i64 (wrap64 ((Int.tmod (wrap64 (a2)) 5) + 1))], .int .i64 8] rfl (by (try simp only [List.map_toArray, List.map_cons, List.map_nil]); first | done | (simp only [hji13]; rfl) | rfl | (simp only [List.length_drop, List.length_take]; rfl)) ?_; (with_reducible refine (motion_Go.calls kj4 _ _ l0 t526 (bt (⟨#[119, 98, 101]⟩ : ByteArray) (ji13)) 0 (wrap64 ((Int.tmod (wrap64 (a2)) 5) + 1)) 8 t527 t528 t529 t530 _ ?side3 ?side1 ?side2 A18.out).mono ?_); (case side1 => repeat (first | exact (Kd.C_below HR0.out HB.out) | (with_reducible refine Kd.C_alloc ?_ _) | (with_reducible refine Kd.C_drewN ?_ _) | (with_reducible refine Kd.C_drew ?_))); (case side2 => exact HC0.out); (case side3 => exact Tabs.below HT.out (by repeat (first | exact HB.out | apply bA | apply bN | apply bD))); rintro e w20 ⟨rfl, hb⟩; refine ⟨_, rfl, ?_⟩; have n0_ := Aside0.mk (below_step (by repeat (first | exact HB.out | apply bA | apply bN | apply bD)) hb); clear HB; have HB := n0_; clear n0_; (try clear hb); (try clear hb2); (try clear hk); (try clear hi)) | ((with_reducible refine gate_dst (N := 12) rfl ?_); (try (refine gate_guard (by rfl) ?_; dsimp only)); refine box_event ?hg (N := 12) ?hd (cs := #[.int .i64 0, .bool false, .bool false]) (t := 25) ?hr ?_; (case hd => rfl); (case hg => rfl); (case hr => first | (go_simp; done) | (go_simp; rfl)); intro gb531 hg w21 hbox hb; have n0_ := Aside0.mk (below_step (by repeat (first | exact HB.out | apply bA | apply bN | apply bD)) hb); have n1_ := Aside0.mk (hbox); have n2_ := Aside0.mk ((by rw [hg]; exact (below_size (by repeat (first | exact HB.out | apply bA | apply bN | apply bD))) : w.heap.size ≤ gb531)); have n3_ := Aside0.mk ((by rw [hg]; exact (below_size (by repeat (first | exact HB.out | apply bA | apply bN | apply bD))) : w.heap.size ≤ gb531)); clear HB; have HB := n0_; have BK531 := n1_; have GW531 := n2_; have GE531 := n3_; clear n0_ n1_ n2_ n3_; clear hb hbox hg; have hcz22_0 : w21.cell? ⟨gb531, 0, none⟩ = some (.int .i64 0) := (blk_cell BK531.out 0).trans rfl; have hcz22_1 : w21.cell? ⟨gb531, 1, none⟩ = some (.bool false) := (blk_cell BK531.out 1).trans rfl; have hcz22_2 : w21.cell? ⟨gb531, 2, none⟩ = some (.bool false) := (blk_cell BK531.out 2).trans rfl; have hfz22_0 := blk_frozen BK531.out 0; have hfz22_1 := blk_frozen BK531.out 1; have hfz22_2 := blk_frozen BK531.out 2))
      go_loopg [14, 15, 16] kj4 (fun kq v14 v15 v16 w' => ∃ (x14_2 : Int) (x15_2 : Bool) (x16_2 : Int), v14 = .int .i64 x14_2 ∧ v15 = .bool x15_2 ∧ v16 = .int .i64 x16_2 ∧ Aside0 (platenlaw19_MotionWords.l0 kq l0 (bt (⟨#[119, 98, 101]⟩ : ByteArray) (ji13)) t526 (wrap64 ((Int.tmod (wrap64 (a2)) 5) + 1)) t530 x14_2 x15_2 x16_2 t527 t528 t529 = some r) ∧ Aside0 (kq ≤ kj4) ∧ Aside0 (w'.heap[gb531]? = some (.cells #[.int .i64 t527, .bool t528, .bool t529] 25 (0, 0))) ∧ Aside0 (Below w.heap.size w w'))
      case atStart => exact ⟨(t526), (true), (0), (by first | rfl | (simp; done) | (simp [*]; done)), (by first | rfl | (simp; done) | (simp [*]; done)), (by first | rfl | (simp; done) | (simp [*]; done)), H', ⟨Nat.le_refl _⟩, ⟨by (with_reducible repeat (first | refine kN ?_ _ | refine kD ?_ | refine kA ?_ _)); refine blk_put (cs := #[.int .i64 t527, .bool t528, .bool false]) ?_ 2 _ rfl; (with_reducible repeat (first | refine kN ?_ _ | refine kD ?_ | refine kA ?_ _)); refine blk_put (cs := #[.int .i64 t527, .bool false, .bool false]) ?_ 1 _ rfl; (with_reducible repeat (first | refine kN ?_ _ | refine kD ?_ | refine kA ?_ _)); refine blk_put (cs := #[.int .i64 0, .bool false, .bool false]) ?_ 0 _ rfl; (with_reducible repeat (first | refine kN ?_ _ | refine kD ?_ | refine kA ?_ _)); exact BK531.out⟩, ⟨by repeat (first | exact HB.out | apply bA | apply bN | apply bD | refine bS ?_ GE531.out)⟩⟩
      case round =>
       clear H'
       try clear c1
       try clear p1
       try clear q1
       try clear hx1
       try clear p2
       try clear p6
       try clear c7
       try clear c9
       try clear c10
       try clear c12
       try clear c14
       try clear c14b0
       try clear c15
       try clear c15b0
       try clear p16
       try clear q16
       try clear hx16
       try clear hcz22_0
       try clear hcz22_1
       try clear hcz22_2
       try clear hfz22_0
       try clear hfz22_1
       try clear hfz22_2
       try clear p16
       try clear p2
       try clear q16
       obtain ⟨x14_2, x15_2, x16_2, rfl, rfl, rfl, HA, HK2, BK531, HB⟩ := hrel
       cases gk with
       | zero => exact absurd HA.out (by simp [platenlaw19_MotionWords.l0])
       | succ k2 =>
        have H := HA.out
        clear HA
        simp only [platenlaw19_MotionWords.l0] at H
        have HC23 := Aside0.mk H
        clear H
        go_upto_region 10 with (fail)
        go_cut [52] (fun v52 wc => ∃ (kq : Nat) (x52_22 : Bool), v52 = .bool x52_22 ∧ Aside0 (platenlaw19_MotionWords.j2 kq l0 (bt (⟨#[119, 98, 101]⟩ : ByteArray) (ji13)) t526 (wrap64 ((Int.tmod (wrap64 (a2)) 5) + 1)) t530 x14_2 x15_2 x16_2 x52_22 t527 t528 t529 = some r) ∧ Aside0 (kq ≤ k2) ∧ Aside0 (wc.heap[gb531]? = some (.cells #[.int .i64 t527, .bool t528, .bool t529] 25 (0, 0))) ∧ Aside0 (Below w.heap.size w wc))
        case first =>
         have H := HC23.out
         clear HC23
         by_cases c24 : x16_2 < (wrap64 ((Int.tmod (wrap64 (a2)) 5) + 1))
         ·rw [if_pos c24] at H
          have c24b0 : decide (x16_2 < (wrap64 ((Int.tmod (wrap64 (a2)) 5) + 1))) = true := decide_eq_true c24
          clear c24
          (first | rw [c24b0] | (simp only [i64_w, i32_w]; rw [c24b0]) | skip)
          have H' := Aside0.mk H
          clear H
          go_wp2
          go_meet
          case rel => exact ⟨_, (x15_2), (by first | rfl | (simp; done) | (simp [*]; done)), H', ⟨by have := HJ4.out; have := HK2.out; first | omega | exact Nat.le_refl _⟩, ⟨by (with_reducible repeat (first | refine kN ?_ _ | refine kD ?_ | refine kA ?_ _)); exact BK531.out⟩, ⟨by repeat (first | exact HB.out | apply bA | apply bN | apply bD | refine bS ?_ GE531.out)⟩⟩
         ·rw [if_neg c24] at H
          have c24b0 : decide (x16_2 < (wrap64 ((Int.tmod (wrap64 (a2)) 5) + 1))) = false := decide_eq_false c24
          clear c24
          (first | rw [c24b0] | (simp only [i64_w, i32_w]; rw [c24b0]) | skip)
          have H' := Aside0.mk H
          clear H
          go_wp2
          go_meet
          case rel => exact ⟨_, (false), (by first | rfl | (simp; done) | (simp [*]; done)), H', ⟨by have := HJ4.out; have := HK2.out; first | omega | exact Nat.le_refl _⟩, ⟨by (with_reducible repeat (first | refine kN ?_ _ | refine kD ?_ | refine kA ?_ _)); exact BK531.out⟩, ⟨by repeat (first | exact HB.out | apply bA | apply bN | apply bD | refine bS ?_ GE531.out)⟩⟩
        case rest =>
         clear HC23
         try clear c1
         try clear p1
         try clear q1
         try clear hx1
         try clear c2
         try clear p2
         try clear p6
         try clear c7
         try clear c9
         try clear c10
         try clear c12
         try clear c14
         try clear c14b0
         try clear c15
         try clear c15b0
         try clear p16
         try clear q16
         try clear hx16
         try clear c24
         try clear c24b0
         try clear hcz22_0
         try clear hcz22_1
         try clear hcz22_2
         try clear hfz22_0
         try clear hfz22_1
         try clear hfz22_2
         try clear p1
         try clear p16
         try clear p2
         try clear p6
         try clear q1
         try clear q16
         obtain ⟨kq, x52_22, rfl, HA, HJ22, BK531, HB⟩ := hcut
         cases kq with
         | zero => exact absurd HA.out (by simp [platenlaw19_MotionWords.j2])
         | succ kj22 =>
          have H := HA.out
          clear HA
          simp only [platenlaw19_MotionWords.j2] at H
          by_cases c25 : x52_22 = true
          ·subst c25
           have H1 : (if (bt (⟨#[119, 98, 101]⟩ : ByteArray) (ji13)) = 119 then ((platenref05_Forward.f kj22 l0 x14_2).bind fun bt532 => (platenlaw19_MotionWords.l0 kj22 l0 (bt (⟨#[119, 98, 101]⟩ : ByteArray) (ji13)) t526 (wrap64 ((Int.tmod (wrap64 (a2)) 5) + 1)) t530 bt532.1 bt532.2 (wrap64 (x16_2 + 1)) t527 t528 t529)) else (if (bt (⟨#[119, 98, 101]⟩ : ByteArray) (ji13)) = 98 then ((platenref05_Back.f kj22 l0 x14_2).bind fun bt534 => (platenlaw19_MotionWords.l0 kj22 l0 (bt (⟨#[119, 98, 101]⟩ : ByteArray) (ji13)) t526 (wrap64 ((Int.tmod (wrap64 (a2)) 5) + 1)) t530 bt534.1 bt534.2 (wrap64 (x16_2 + 1)) t527 t528 t529)) else ((platenref05_Last.f kj22 l0 x14_2).bind fun bt536 => (platenlaw19_MotionWords.l0 kj22 l0 (bt (⟨#[119, 98, 101]⟩ : ByteArray) (ji13)) t526 (wrap64 ((Int.tmod (wrap64 (a2)) 5) + 1)) t530 bt536.1 bt536.2 (wrap64 (x16_2 + 1)) t527 t528 t529)))) = some r := by rw [if_pos rfl] at H; exact H
           clear H
           have H := H1
           clear H1
           by_cases c26 : (bt (⟨#[119, 98, 101]⟩ : ByteArray) (ji13)) = 119
           ·rw [if_pos c26] at H
            have c26b0 : ((bt (⟨#[119, 98, 101]⟩ : ByteArray) (ji13)) == 119) = true := beq_iff_eq.mpr c26
            have c26b1 : ((bt (⟨#[119, 98, 101]⟩ : ByteArray) (ji13)) != 119) = false := bne_eq_false_iff_eq.mpr c26
            clear c26
            replace H := Option.bind_eq_some_iff.mp H
            obtain ⟨⟨t532, t533⟩, A270, H⟩ := H
            replace H : (platenlaw19_MotionWords.l0 kj22 l0 (bt (⟨#[119, 98, 101]⟩ : ByteArray) (ji13)) t526 (wrap64 ((Int.tmod (wrap64 (a2)) 5) + 1)) t530 t532 t533 (wrap64 (x16_2 + 1)) t527 t528 t529) = some r := H
            have A27 := Aside0.mk A270
            clear A270
            have H' := Aside0.mk H
            clear H
            go_wp2_with (first | ((with_reducible refine gate_callee (f := 17) rfl ?_); refine goesL_ (some 67) rfl rfl Tryd.func17 (by kernel_rfl) rfl #[.slice A0 l0.length c0, .int .i64 x14_2] rfl (by (try simp only [List.map_toArray, List.map_cons, List.map_nil]); first | done | rfl | (simp only [List.length_drop, List.length_take]; rfl)) ?_; (with_reducible refine (platenref05_Forward.calls kj22 _ _ l0 x14_2 t532 t533 _ ?side1 ?side2 A27.out).mono ?_); (case side1 => repeat (first | exact (Kd.C_below HR0.out HB.out) | (with_reducible refine Kd.C_alloc ?_ _) | (with_reducible refine Kd.C_drewN ?_ _) | (with_reducible refine Kd.C_drew ?_))); (case side2 => exact HC0.out); rintro e w28 ⟨rfl, hb⟩; refine ⟨_, rfl, ?_⟩; have n0_ := Aside0.mk (blk_below (g := gb531) (o := .cells #[.int .i64 t527, .bool t528, .bool t529] 25 (0, 0)) (by (with_reducible repeat (first | refine kN ?_ _ | refine kD ?_ | refine kA ?_ _)); exact BK531.out) hb); have n1_ := Aside0.mk (below_step (by repeat (first | exact HB.out | apply bA | apply bN | apply bD | refine bS ?_ GE531.out)) hb); clear BK531; clear HB; have BK531 := n0_; have HB := n1_; clear n0_ n1_; (try clear hb); (try clear hb2); (try clear hk); (try clear hi)))
            go_roundg kj22
            case measure => have := HJ4.out; have := HK2.out; have := HJ22.out; omega
            case rel => exact ⟨(t532), (t533), (wrap64 (x16_2 + 1)), (by first | rfl | (simp; done) | (simp [*]; done)), (by first | rfl | (simp; done) | (simp [*]; done)), (by first | rfl | (simp; done) | (simp [*]; done)), H', ⟨by have := HJ4.out; have := HK2.out; have := HJ22.out; omega⟩, ⟨by (with_reducible repeat (first | refine kN ?_ _ | refine kD ?_ | refine kA ?_ _)); exact BK531.out⟩, ⟨by repeat (first | exact HB.out | apply bA | apply bN | apply bD | refine bS ?_ GE531.out)⟩⟩
           ·rw [if_neg c26] at H
            have c26b0 : ((bt (⟨#[119, 98, 101]⟩ : ByteArray) (ji13)) == 119) = false := beq_eq_false_iff_ne.mpr c26
            have c26b1 : ((bt (⟨#[119, 98, 101]⟩ : ByteArray) (ji13)) != 119) = true := bne_iff_ne.mpr c26
            by_cases c29 : (bt (⟨#[119, 98, 101]⟩ : ByteArray) (ji13)) = 98
            ·rw [if_pos c29] at H
             have c29b0 : ((bt (⟨#[119, 98, 101]⟩ : ByteArray) (ji13)) == 98) = true := beq_iff_eq.mpr c29
             have c29b1 : ((bt (⟨#[119, 98, 101]⟩ : ByteArray) (ji13)) != 98) = false := bne_eq_false_iff_eq.mpr c29
             clear c29
             replace H := Option.bind_eq_some_iff.mp H
             obtain ⟨⟨t534, t535⟩, A300, H⟩ := H
             replace H : (platenlaw19_MotionWords.l0 kj22 l0 (bt (⟨#[119, 98, 101]⟩ : ByteArray) (ji13)) t526 (wrap64 ((Int.tmod (wrap64 (a2)) 5) + 1)) t530 t534 t535 (wrap64 (x16_2 + 1)) t527 t528 t529) = some r := H
             have A30 := Aside0.mk A300
             clear A300
             have H' := Aside0.mk H
             clear H
             go_wp2_with (first | ((with_reducible refine gate_callee (f := 18) rfl ?_); refine goesL_ (some 75) rfl rfl Tryd.func18 (by kernel_rfl) rfl #[.slice A0 l0.length c0, .int .i64 x14_2] rfl (by (try simp only [List.map_toArray, List.map_cons, List.map_nil]); first | done | rfl | (simp only [List.length_drop, List.length_take]; rfl)) ?_; (with_reducible refine (platenref05_Back.calls kj22 _ _ l0 x14_2 t534 t535 _ ?side1 ?side2 A30.out).mono ?_); (case side1 => repeat (first | exact (Kd.C_below HR0.out HB.out) | (with_reducible refine Kd.C_alloc ?_ _) | (with_reducible refine Kd.C_drewN ?_ _) | (with_reducible refine Kd.C_drew ?_))); (case side2 => exact HC0.out); rintro e w31 ⟨rfl, hb⟩; refine ⟨_, rfl, ?_⟩; have n0_ := Aside0.mk (blk_below (g := gb531) (o := .cells #[.int .i64 t527, .bool t528, .bool t529] 25 (0, 0)) (by (with_reducible repeat (first | refine kN ?_ _ | refine kD ?_ | refine kA ?_ _)); exact BK531.out) hb); have n1_ := Aside0.mk (below_step (by repeat (first | exact HB.out | apply bA | apply bN | apply bD | refine bS ?_ GE531.out)) hb); clear BK531; clear HB; have BK531 := n0_; have HB := n1_; clear n0_ n1_; (try clear hb); (try clear hb2); (try clear hk); (try clear hi)))
             go_roundg kj22
             case measure => have := HJ4.out; have := HK2.out; have := HJ22.out; omega
             case rel => exact ⟨(t534), (t535), (wrap64 (x16_2 + 1)), (by first | rfl | (simp; done) | (simp [*]; done)), (by first | rfl | (simp; done) | (simp [*]; done)), (by first | rfl | (simp; done) | (simp [*]; done)), H', ⟨by have := HJ4.out; have := HK2.out; have := HJ22.out; omega⟩, ⟨by (with_reducible repeat (first | refine kN ?_ _ | refine kD ?_ | refine kA ?_ _)); exact BK531.out⟩, ⟨by repeat (first | exact HB.out | apply bA | apply bN | apply bD | refine bS ?_ GE531.out)⟩⟩
            ·rw [if_neg c29] at H
             have c29b0 : ((bt (⟨#[119, 98, 101]⟩ : ByteArray) (ji13)) == 98) = false := beq_eq_false_iff_ne.mpr c29
             have c29b1 : ((bt (⟨#[119, 98, 101]⟩ : ByteArray) (ji13)) != 98) = true := bne_iff_ne.mpr c29
             replace H := Option.bind_eq_some_iff.mp H
             obtain ⟨⟨t536, t537⟩, A320, H⟩ := H
             replace H : (platenlaw19_MotionWords.l0 kj22 l0 (bt (⟨#[119, 98, 101]⟩ : ByteArray) (ji13)) t526 (wrap64 ((Int.tmod (wrap64 (a2)) 5) + 1)) t530 t536 t537 (wrap64 (x16_2 + 1)) t527 t528 t529) = some r := H
             have A32 := Aside0.mk A320
             clear A320
             have H' := Aside0.mk H
             clear H
             go_wp2_with (first | ((with_reducible refine gate_callee (f := 19) rfl ?_); refine goesL_ (some 59) rfl rfl Tryd.func19 (by kernel_rfl) rfl #[.slice A0 l0.length c0, .int .i64 x14_2] rfl (by (try simp only [List.map_toArray, List.map_cons, List.map_nil]); first | done | rfl | (simp only [List.length_drop, List.length_take]; rfl)) ?_; (with_reducible refine (platenref05_Last.calls kj22 _ _ l0 x14_2 t536 t537 _ ?side1 ?side2 A32.out).mono ?_); (case side1 => repeat (first | exact (Kd.C_below HR0.out HB.out) | (with_reducible refine Kd.C_alloc ?_ _) | (with_reducible refine Kd.C_drewN ?_ _) | (with_reducible refine Kd.C_drew ?_))); (case side2 => exact HC0.out); rintro e w33 ⟨rfl, hb⟩; refine ⟨_, rfl, ?_⟩; have n0_ := Aside0.mk (blk_below (g := gb531) (o := .cells #[.int .i64 t527, .bool t528, .bool t529] 25 (0, 0)) (by (with_reducible repeat (first | refine kN ?_ _ | refine kD ?_ | refine kA ?_ _)); exact BK531.out) hb); have n1_ := Aside0.mk (below_step (by repeat (first | exact HB.out | apply bA | apply bN | apply bD | refine bS ?_ GE531.out)) hb); clear BK531; clear HB; have BK531 := n0_; have HB := n1_; clear n0_ n1_; (try clear hb); (try clear hb2); (try clear hk); (try clear hi)))
             go_roundg kj22
             case measure => have := HJ4.out; have := HK2.out; have := HJ22.out; omega
             case rel => exact ⟨(t536), (t537), (wrap64 (x16_2 + 1)), (by first | rfl | (simp; done) | (simp [*]; done)), (by first | rfl | (simp; done) | (simp [*]; done)), (by first | rfl | (simp; done) | (simp [*]; done)), H', ⟨by have := HJ4.out; have := HK2.out; have := HJ22.out; omega⟩, ⟨by (with_reducible repeat (first | refine kN ?_ _ | refine kD ?_ | refine kA ?_ _)); exact BK531.out⟩, ⟨by repeat (first | exact HB.out | apply bA | apply bN | apply bD | refine bS ?_ GE531.out)⟩⟩
          ·replace c25 := Bool.eq_false_iff.mpr c25
           subst c25
           have H1 : (if x15_2 = true then (if t530 = 0 then (if t527 = x14_2 then (if (t529 == ((bt (⟨#[119, 98, 101]⟩ : ByteArray) (ji13)) == 101)) = true then (some (((bt (⟨#[119, 98, 101]⟩ : ByteArray) (ji13)) == 98) == (decide (t527 < t526)))) else (some false)) else (some false)) else (some false)) else (some (t530 == 2))) = some r := by rw [if_neg (show ¬ (false = true) by decide)] at H; exact H
           clear H
           have H := H1
           clear H1
           by_cases c34 : x15_2 = true
           ·subst c34
            have H1 : (if t530 = 0 then (if t527 = x14_2 then (if (t529 == ((bt (⟨#[119, 98, 101]⟩ : ByteArray) (ji13)) == 101)) = true then (some (((bt (⟨#[119, 98, 101]⟩ : ByteArray) (ji13)) == 98) == (decide (t527 < t526)))) else (some false)) else (some false)) else (some false)) = some r := by rw [if_pos rfl] at H; exact H
            clear H
            have H := H1
            clear H1
            by_cases c35 : t530 = 0
            ·rw [if_pos c35] at H
             have c35b0 : (t530 == 0) = true := beq_iff_eq.mpr c35
             have c35b1 : (t530 != 0) = false := bne_eq_false_iff_eq.mpr c35
             clear c35
             by_cases c36 : t527 = x14_2
             ·rw [if_pos c36] at H
              have c36b0 : (t527 == x14_2) = true := beq_iff_eq.mpr c36
              have c36b1 : (t527 != x14_2) = false := bne_eq_false_iff_eq.mpr c36
              clear c36
              by_cases c37 : (t529 == ((bt (⟨#[119, 98, 101]⟩ : ByteArray) (ji13)) == 101)) = true
              ·rw [if_pos c37] at H
               have c37b0 : (t529 == ((bt (⟨#[119, 98, 101]⟩ : ByteArray) (ji13)) == 101)) = true := c37
               (try (have c37b1 : decide (t529 = ((bt (⟨#[119, 98, 101]⟩ : ByteArray) (ji13)) == 101)) = true := by simpa using c37))
               (try (have c37b2 : (t529 == ((bt (⟨#[119, 98, 101]⟩ : ByteArray) (ji13)) == 101)) = true := by simpa using c37))
               clear c37
               obtain rfl := Option.some.inj H
               have hcz38_0 : wc.cell? ⟨gb531, 0, none⟩ = some (.int .i64 t527) := (blk_cell BK531.out 0).trans rfl
               have hcz38_1 : wc.cell? ⟨gb531, 1, none⟩ = some (.bool t528) := (blk_cell BK531.out 1).trans rfl
               have hcz38_2 : wc.cell? ⟨gb531, 2, none⟩ = some (.bool t529) := (blk_cell BK531.out 2).trans rfl
               have hfz38_0 := blk_frozen BK531.out 0
               have hfz38_1 := blk_frozen BK531.out 1
               have hfz38_2 := blk_frozen BK531.out 2
               go_wp2
               go_ret
               exact ⟨by first | rfl | (simp [errW_none, errW_some] <;> rfl) | (simp only [← hji13]; first | rfl | (simp [errW_none, errW_some] <;> rfl)) | (simp [*, errW_none, errW_some] <;> rfl), by repeat (first | exact HB.out | apply bA | apply bN | apply bD | refine bS ?_ GE531.out)⟩
              ·rw [if_neg c37] at H
               have c37b0 : (t529 == ((bt (⟨#[119, 98, 101]⟩ : ByteArray) (ji13)) == 101)) = false := by simpa using c37
               (try (have c37b1 : decide (t529 = ((bt (⟨#[119, 98, 101]⟩ : ByteArray) (ji13)) == 101)) = false := by simpa using c37))
               (try (have c37b2 : (t529 == ((bt (⟨#[119, 98, 101]⟩ : ByteArray) (ji13)) == 101)) = false := by simpa using c37))
               (try (have c37b3 : ¬ (t529 = ((bt (⟨#[119, 98, 101]⟩ : ByteArray) (ji13)) == 101)) := by simpa using c37))
               clear c37
               obtain rfl := Option.some.inj H
               have hcz39_0 : wc.cell? ⟨gb531, 0, none⟩ = some (.int .i64 t527) := (blk_cell BK531.out 0).trans rfl
               have hcz39_1 : wc.cell? ⟨gb531, 1, none⟩ = some (.bool t528) := (blk_cell BK531.out 1).trans rfl
               have hcz39_2 : wc.cell? ⟨gb531, 2, none⟩ = some (.bool t529) := (blk_cell BK531.out 2).trans rfl
               have hfz39_0 := blk_frozen BK531.out 0
               have hfz39_1 := blk_frozen BK531.out 1
               have hfz39_2 := blk_frozen BK531.out 2
               go_wp2
               go_ret
               exact ⟨by first | rfl | (simp [errW_none, errW_some] <;> rfl) | (simp only [← hji13]; first | rfl | (simp [errW_none, errW_some] <;> rfl)) | (simp [*, errW_none, errW_some] <;> rfl), by repeat (first | exact HB.out | apply bA | apply bN | apply bD | refine bS ?_ GE531.out)⟩
             ·rw [if_neg c36] at H
              have c36b0 : (t527 == x14_2) = false := beq_eq_false_iff_ne.mpr c36
              have c36b1 : (t527 != x14_2) = true := bne_iff_ne.mpr c36
              obtain rfl := Option.some.inj H
              have hcz40_0 : wc.cell? ⟨gb531, 0, none⟩ = some (.int .i64 t527) := (blk_cell BK531.out 0).trans rfl
              have hcz40_1 : wc.cell? ⟨gb531, 1, none⟩ = some (.bool t528) := (blk_cell BK531.out 1).trans rfl
              have hcz40_2 : wc.cell? ⟨gb531, 2, none⟩ = some (.bool t529) := (blk_cell BK531.out 2).trans rfl
              have hfz40_0 := blk_frozen BK531.out 0
              have hfz40_1 := blk_frozen BK531.out 1
              have hfz40_2 := blk_frozen BK531.out 2
              go_wp2
              go_ret
              exact ⟨by first | rfl | (simp [errW_none, errW_some] <;> rfl) | (simp only [← hji13]; first | rfl | (simp [errW_none, errW_some] <;> rfl)) | (simp [*, errW_none, errW_some] <;> rfl), by repeat (first | exact HB.out | apply bA | apply bN | apply bD | refine bS ?_ GE531.out)⟩
            ·rw [if_neg c35] at H
             have c35b0 : (t530 == 0) = false := beq_eq_false_iff_ne.mpr c35
             have c35b1 : (t530 != 0) = true := bne_iff_ne.mpr c35
             obtain rfl := Option.some.inj H
             go_wp2
             go_ret
             exact ⟨by first | rfl | (simp [errW_none, errW_some] <;> rfl) | (simp only [← hji13]; first | rfl | (simp [errW_none, errW_some] <;> rfl)) | (simp [*, errW_none, errW_some] <;> rfl), by repeat (first | exact HB.out | apply bA | apply bN | apply bD | refine bS ?_ GE531.out)⟩
           ·replace c34 := Bool.eq_false_iff.mpr c34
            subst c34
            have H1 : (some (t530 == 2)) = some r := by rw [if_neg (show ¬ (false = true) by decide)] at H; exact H
            clear H
            have H := H1
            clear H1
            obtain rfl := Option.some.inj H
            go_wp2
            go_ret
            exact ⟨by first | rfl | (simp [errW_none, errW_some] <;> rfl) | (simp only [← hji13]; first | rfl | (simp [errW_none, errW_some] <;> rfl)) | (simp [*, errW_none, errW_some] <;> rfl), by repeat (first | exact HB.out | apply bA | apply bN | apply bD | refine bS ?_ GE531.out)⟩
     ·rw [if_neg c15] at H
      exact absurd H (by simp)
    ·rw [if_neg c14] at H
     exact absurd H (by simp)

/-- THE ONE PURE STATEMENT of platenlaw19_MotionWords: yours. -/
def platenlaw19_MotionWords.Pure : Prop := ∀ (l0 : List Int) (a1 : Int) (a2 : Int) (a3 : Int), l0.length ≤ maxLen → l0.length * 1 ≤ 140737488351232 → (∀ x ∈ l0, (Lit.int .u8 x).wf = true) → (Lit.int .u8 a1).wf = true → (Lit.int .u8 a2).wf = true → (Lit.int .u8 a3).wf = true → ∃ k, platenlaw19_MotionWords.f k l0 a1 a2 a3 = some true
theorem platenlaw19_MotionWords.walk (P : platenlaw19_MotionWords.Pure) (a0 : Option Addr) (len0 cap0 : Nat) (z0 : List Int) (a1 : Int) (a2 : Int) (a3 : Int) (w : World) (hT : Tabs w) (w0 : (a0 = none ∧ len0 = 0 ∧ cap0 = 0 ∧ z0 = []) ∨ ∃ x, a0 = some x ∧ len0 ≤ cap0 ∧ cap0 ≤ maxLen ∧ z0.length = cap0 ∧ (∀ i, i < z0.length → w.cell? (x.add i) = some (.int .u8 (z0.getD i 0))) ∧ ∀ n ∈ z0, (Lit.int .u8 n).wf = true) (y0 : len0 * 1 ≤ 140737488351232) (w1 : (Lit.int .u8 a1).wf = true) (w2 : (Lit.int .u8 a2).wf = true) (w3 : (Lit.int .u8 a3).wf = true) :
  Calls Tryd.prog 7 #[.slice a0 len0 cap0, .int .u8 a1, .int .u8 a2, .int .u8 a3] w fun e w' => e = .returned (.bool true) ∧ Below w.heap.size w w' := by
 obtain ⟨l0, rfl, hr0, hm0, hw0, hc0⟩ := ReadsInt.ofRowC w0
 obtain ⟨k, h⟩ := P l0 a1 a2 a3 hm0 y0 hw0 w1 w2 w3
 refine (platenlaw19_MotionWords.calls k _ _ l0 a1 a2 a3 true w hT (Kd.C_of_reads (d := (0 : Int)) (h1 := fun _ => rfl) hr0) hc0 h).mono ?_
 rintro e w' ⟨rfl, hd⟩
 exact ⟨rfl, hd⟩

end Go.Proofs.YtloafpnniooliaaDoor.Pa
