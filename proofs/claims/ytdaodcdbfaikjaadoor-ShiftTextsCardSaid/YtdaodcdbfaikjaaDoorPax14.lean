-- Laid by a program of this claim's own (wip/tools/mkprint.py, ext.py): walks of the functions that the statements reach.
import Derived.Test.YtdaodcdbfaikjaaDoorPax0
import Derived.Test.YtdaodcdbfaikjaaDoorPax3
import Derived.Test.YtdaodcdbfaikjaaDoorPax6
import Derived.Test.YtdaodcdbfaikjaaDoorPax12
import Derived.Test.YtdaodcdbfaikjaaDoorPax13
namespace Go.Proofs.YtdaodcdbfaikjaaDoor.Pa
open Go.RowKit Go.Proofs.YtdaodcdbfaikjaaDoor.Ext Go.Proofs.YtdaodcdbfaikjaaDoorW.PrintWords Go.Proofs.YtdaodcdbfaikjaaDoorW.PrintLast Go.Proofs.YtdaodcdbfaikjaaDoorW.PrintMore
attribute [local go_sem] max2_int min2_int max_two min_two max_three min_three max_four min_four   -- for this text's walks alone
set_option linter.unusedVariables false
set_option linter.unusedSimpArgs false

/-! ### platenlaw16_ShiftTexts: function 7 -/
def platenlaw16_ShiftTexts.j0 : Nat → List Int → Int → Int → Int → Bool → Bool → Option (Bool)
  | 0, _, _, _, _, _, _ => none
  | k + 1, x0, x1, x2, x3, x4, x19 => if x19 = true then ((platenlaw16_deeper.f k).bind fun t433 => (some t433)) else ((platenlaw16_set.f x2 x3 x4).bind fun bt434 => ((shift_Shift.f k x0 (Int.tmod (wrap64 (x1)) 10) bt434.1 bt434.2.1 bt434.2.2.1 bt434.2.2.2.1 bt434.2.2.2.2).bind fun bt439 => (if bt439.2 = 0 then ((platenlaw16_set.f x2 x3 x4).bind fun bt443 => ((platenref16_Shift.f k x0 (Int.tmod (wrap64 (x1)) 10) bt443.1 bt443.2.1 bt443.2.2.1 bt443.2.2.2.1 bt443.2.2.2.2).bind fun t448 => ((platenref01_Same.f k bt439.1 t448).bind fun t451 => (some t451)))) else (some false))))
def platenlaw16_ShiftTexts.f (k : Nat) (l0 : List Int) (a1 : Int) (a2 : Int) (a3 : Int) (a4 : Bool) : Option (Bool) := (platenlaw16_deeper.f k).bind fun t432 => (if t432 = true then (platenlaw16_ShiftTexts.j0 k l0 a1 a2 a3 a4 (decide ((l0.length : Int) > 100))) else (platenlaw16_ShiftTexts.j0 k l0 a1 a2 a3 a4 true))
theorem platenlaw16_ShiftTexts.mono_l : ∀ k, (∀ y0 y1 y2 y3 y4 y5, LeO (platenlaw16_ShiftTexts.j0 k y0 y1 y2 y3 y4 y5) (platenlaw16_ShiftTexts.j0 (k + 1) y0 y1 y2 y3 y4 y5))
  | 0 => fun _ _ _ _ _ _ r h => by simp [platenlaw16_ShiftTexts.j0] at h
  | k + 1 => by
    have ih0 := platenlaw16_ShiftTexts.mono_l k
    · intro y0 y1 y2 y3 y4 y5
      unfold platenlaw16_ShiftTexts.j0
      repeat' first
      | (with_reducible exact ih0 _ _ _ _ _ _)
      | (with_reducible exact platenlaw16_deeper.mono _)
      | (with_reducible exact platenref01_Same.mono _ _ _)
      | (with_reducible exact platenref16_Shift.mono _ _ _ _ _ _ _ _)
      | (with_reducible exact shift_Shift.mono _ _ _ _ _ _ _ _)
      | (with_reducible exact LeO.refl _)
      | (with_reducible exact LeO.none _)
      | (with_reducible refine LeO.ite ?_ ?_)
      | (with_reducible refine LeO.bind ?_ (fun _ => ?_))
      | exact ih0 _ _ _ _ _ _
      | exact platenlaw16_deeper.mono _
      | exact platenref01_Same.mono _ _ _
      | exact platenref16_Shift.mono _ _ _ _ _ _ _ _
      | exact shift_Shift.mono _ _ _ _ _ _ _ _
      | exact LeO.none _
      | refine LeO.ite ?_ ?_
      | refine LeO.bind ?_ (fun _ => ?_)
theorem platenlaw16_ShiftTexts.mono : ∀ a0 a1 a2 a3 a4 k, LeO (platenlaw16_ShiftTexts.f k a0 a1 a2 a3 a4) (platenlaw16_ShiftTexts.f (k + 1) a0 a1 a2 a3 a4) := by
  intro a0 a1 a2 a3 a4 k
  have ih0 := platenlaw16_ShiftTexts.mono_l k
  unfold platenlaw16_ShiftTexts.f
  repeat' first
      | (with_reducible exact ih0 _ _ _ _ _ _)
      | (with_reducible exact platenlaw16_deeper.mono _)
      | (with_reducible exact platenref01_Same.mono _ _ _)
      | (with_reducible exact platenref16_Shift.mono _ _ _ _ _ _ _ _)
      | (with_reducible exact shift_Shift.mono _ _ _ _ _ _ _ _)
      | (with_reducible exact LeO.refl _)
      | (with_reducible exact LeO.none _)
      | (with_reducible refine LeO.ite ?_ ?_)
      | (with_reducible refine LeO.bind ?_ (fun _ => ?_))
      | exact ih0 _ _ _ _ _ _
      | exact platenlaw16_deeper.mono _
      | exact platenref01_Same.mono _ _ _
      | exact platenref16_Shift.mono _ _ _ _ _ _ _ _
      | exact shift_Shift.mono _ _ _ _ _ _ _ _
      | exact LeO.none _
      | refine LeO.ite ?_ ?_
      | refine LeO.bind ?_ (fun _ => ?_)
set_option maxHeartbeats 8000000 in
set_option maxRecDepth 100000 in
theorem platenlaw16_ShiftTexts.calls (k : Nat) (A0 : Option Addr) (c0 : Nat) (l0 : List Int) (a1 : Int) (a2 : Int) (a3 : Int) (a4 : Bool) (r : Bool) (w : World) (hT : Tabs w) (hr0 : Kd.C (Kd.int .u8) w A0 l0.length l0) (hc0 : l0.length ≤ c0) (h : platenlaw16_ShiftTexts.f k l0 a1 a2 a3 a4 = some r) :
    Calls Tryd.prog 7 #[.slice A0 l0.length c0, .int .i8 a1, .int .u8 a2, .int .u8 a3, .bool a4] w fun e w' => e = .returned (.bool r) ∧ Below w.heap.size w w' := by
  have HR0 := Aside0.mk hr0
  have HC0 := Aside0.mk hc0
  clear hr0 hc0
  have HB := Aside0.mk (Below.refl w.heap.size w)
  have HT := Aside0.mk hT
  clear hT
  have H : ((platenlaw16_deeper.f k).bind fun t432 => (if t432 = true then (platenlaw16_ShiftTexts.j0 k l0 a1 a2 a3 a4 (decide ((l0.length : Int) > 100))) else (platenlaw16_ShiftTexts.j0 k l0 a1 a2 a3 a4 true))) = some r := h
  clear h
  have HC6 := Aside0.mk H
  clear H
  go_enter Tryd.func7, Tryd.ntmps7
  go_upto_region 1 with (fail)
  go_cut [19] (fun v19 wc => ∃ (kq : Nat) (x19_5 : Bool), v19 = .bool x19_5 ∧ Aside0 (platenlaw16_ShiftTexts.j0 kq l0 a1 a2 a3 a4 x19_5 = some r) ∧ Aside0 (kq ≤ k) ∧ Aside0 (Below w.heap.size w wc))
  case first =>
    have H := HC6.out
    clear HC6
    replace H := Option.bind_eq_some_iff.mp H
    obtain ⟨t432, A70, H⟩ := H
    replace H : (if t432 = true then (platenlaw16_ShiftTexts.j0 k l0 a1 a2 a3 a4 (decide ((l0.length : Int) > 100))) else (platenlaw16_ShiftTexts.j0 k l0 a1 a2 a3 a4 true)) = some r := H
    have A7 := Aside0.mk A70
    clear A70
    by_cases c8 : t432 = true
    · subst c8
      have H1 : (platenlaw16_ShiftTexts.j0 k l0 a1 a2 a3 a4 (decide ((l0.length : Int) > 100))) = some r := by rw [if_pos rfl] at H; exact H
      clear H
      have H := H1
      clear H1
      have H' := Aside0.mk H
      clear H
      go_wp2_with (first | ((with_reducible refine gate_callee (f := 10) rfl ?_); refine goesL_ (some 13) rfl rfl Tryd.func10 (by kernel_rfl) rfl #[] rfl (by (try simp only [List.map_toArray, List.map_cons, List.map_nil]); first | done | rfl | (simp only [List.length_drop, List.length_take]; rfl)) ?_; (with_reducible refine (platenlaw16_deeper.calls k  true _ ?side1 A7.out).mono ?_); (case side1 => exact Tabs.below HT.out (by repeat (first | (with_reducible first | exact HB.out | apply below_alloc | apply pw_below_drewN | apply below_drew1) | exact HB.out))); rintro e w9 ⟨rfl, hb⟩; refine ⟨_, rfl, ?_⟩; have n0_ := Aside0.mk (below_step (by repeat (first | (with_reducible first | exact HB.out | apply below_alloc | apply pw_below_drewN | apply below_drew1) | exact HB.out)) hb); clear HB; have HB := n0_; clear n0_; (try clear hb); (try clear hb2); (try clear hk); (try clear hi)))
      go_meet
      case rel => exact ⟨_, (decide ((l0.length : Int) > 100)), (by first | rfl | (simp; done) | (simp [*]; done)), H', ⟨by first | omega | exact Nat.le_refl _⟩, ⟨by repeat (first | (with_reducible first | exact HB.out | apply below_alloc | apply pw_below_drewN | apply below_drew1) | exact HB.out)⟩⟩
    · replace c8 := Bool.eq_false_iff.mpr c8
      subst c8
      have H1 : (platenlaw16_ShiftTexts.j0 k l0 a1 a2 a3 a4 true) = some r := by rw [if_neg (show ¬ (false = true) by decide)] at H; exact H
      clear H
      have H := H1
      clear H1
      have H' := Aside0.mk H
      clear H
      go_wp2_with (first | ((with_reducible refine gate_callee (f := 10) rfl ?_); refine goesL_ (some 13) rfl rfl Tryd.func10 (by kernel_rfl) rfl #[] rfl (by (try simp only [List.map_toArray, List.map_cons, List.map_nil]); first | done | rfl | (simp only [List.length_drop, List.length_take]; rfl)) ?_; (with_reducible refine (platenlaw16_deeper.calls k  false _ ?side1 A7.out).mono ?_); (case side1 => exact Tabs.below HT.out (by repeat (first | (with_reducible first | exact HB.out | apply below_alloc | apply pw_below_drewN | apply below_drew1) | exact HB.out))); rintro e w10 ⟨rfl, hb⟩; refine ⟨_, rfl, ?_⟩; have n0_ := Aside0.mk (below_step (by repeat (first | (with_reducible first | exact HB.out | apply below_alloc | apply pw_below_drewN | apply below_drew1) | exact HB.out)) hb); clear HB; have HB := n0_; clear n0_; (try clear hb); (try clear hb2); (try clear hk); (try clear hi)))
      go_meet
      case rel => exact ⟨_, (true), (by first | rfl | (simp; done) | (simp [*]; done)), H', ⟨by first | omega | exact Nat.le_refl _⟩, ⟨by repeat (first | (with_reducible first | exact HB.out | apply below_alloc | apply pw_below_drewN | apply below_drew1) | exact HB.out)⟩⟩
  case rest =>
    clear HC6
    try clear c1
    try clear p2
    try clear c7
    try clear c8
    try clear c10
    obtain ⟨kq, x19_5, rfl, HA, HJ5, HB⟩ := hcut
    cases kq with
    | zero => exact absurd HA.out (by simp [platenlaw16_ShiftTexts.j0])
    | succ kj5 =>
      have H := HA.out
      clear HA
      simp only [platenlaw16_ShiftTexts.j0] at H
      by_cases c11 : x19_5 = true
      · subst c11
        have H1 : ((platenlaw16_deeper.f kj5).bind fun t433 => (some t433)) = some r := by rw [if_pos rfl] at H; exact H
        clear H
        have H := H1
        clear H1
        replace H := Option.bind_eq_some_iff.mp H
        obtain ⟨t433, A120, H⟩ := H
        replace H : (some t433) = some r := H
        have A12 := Aside0.mk A120
        clear A120
        obtain rfl := Option.some.inj H
        go_wp2_with (first | ((with_reducible refine gate_callee (f := 10) rfl ?_); refine goesL_ (some 20) rfl rfl Tryd.func10 (by kernel_rfl) rfl #[] rfl (by (try simp only [List.map_toArray, List.map_cons, List.map_nil]); first | done | rfl | (simp only [List.length_drop, List.length_take]; rfl)) ?_; (with_reducible refine (platenlaw16_deeper.calls kj5  t433 _ ?side1 A12.out).mono ?_); (case side1 => exact Tabs.below HT.out (by repeat (first | (with_reducible first | exact HB.out | apply below_alloc | apply pw_below_drewN | apply below_drew1) | exact HB.out))); rintro e w13 ⟨rfl, hb⟩; refine ⟨_, rfl, ?_⟩; have n0_ := Aside0.mk (below_step (by repeat (first | (with_reducible first | exact HB.out | apply below_alloc | apply pw_below_drewN | apply below_drew1) | exact HB.out)) hb); clear HB; have HB := n0_; clear n0_; (try clear hb); (try clear hb2); (try clear hk); (try clear hi)))
        go_ret
        exact ⟨by first | rfl | (simp [errW_none, errW_some] <;> rfl) | (simp [*, errW_none, errW_some] <;> rfl), by repeat (first | (with_reducible first | exact HB.out | apply below_alloc | apply pw_below_drewN | apply below_drew1) | exact HB.out)⟩
      · replace c11 := Bool.eq_false_iff.mpr c11
        subst c11
        have H1 : ((platenlaw16_set.f a2 a3 a4).bind fun bt434 => ((shift_Shift.f kj5 l0 (Int.tmod (wrap64 (a1)) 10) bt434.1 bt434.2.1 bt434.2.2.1 bt434.2.2.2.1 bt434.2.2.2.2).bind fun bt439 => (if bt439.2 = 0 then ((platenlaw16_set.f a2 a3 a4).bind fun bt443 => ((platenref16_Shift.f kj5 l0 (Int.tmod (wrap64 (a1)) 10) bt443.1 bt443.2.1 bt443.2.2.1 bt443.2.2.2.1 bt443.2.2.2.2).bind fun t448 => ((platenref01_Same.f kj5 bt439.1 t448).bind fun t451 => (some t451)))) else (some false)))) = some r := by rw [if_neg (show ¬ (false = true) by decide)] at H; exact H
        clear H
        have H := H1
        clear H1
        replace H := Option.bind_eq_some_iff.mp H
        obtain ⟨⟨t434, t435, t436, t437, t438⟩, A140, H⟩ := H
        replace H : ((shift_Shift.f kj5 l0 (Int.tmod (wrap64 (a1)) 10) t434 t435 t436 t437 t438).bind fun bt439 => (if bt439.2 = 0 then ((platenlaw16_set.f a2 a3 a4).bind fun bt443 => ((platenref16_Shift.f kj5 l0 (Int.tmod (wrap64 (a1)) 10) bt443.1 bt443.2.1 bt443.2.2.1 bt443.2.2.2.1 bt443.2.2.2.2).bind fun t448 => ((platenref01_Same.f kj5 bt439.1 t448).bind fun t451 => (some t451)))) else (some false))) = some r := H
        have A14 := Aside0.mk A140
        clear A140
        replace H := Option.bind_eq_some_iff.mp H
        obtain ⟨⟨t439, t442⟩, A150, H⟩ := H
        replace H : (if t442 = 0 then ((platenlaw16_set.f a2 a3 a4).bind fun bt443 => ((platenref16_Shift.f kj5 l0 (Int.tmod (wrap64 (a1)) 10) bt443.1 bt443.2.1 bt443.2.2.1 bt443.2.2.2.1 bt443.2.2.2.2).bind fun t448 => ((platenref01_Same.f kj5 t439 t448).bind fun t451 => (some t451)))) else (some false)) = some r := H
        have A15 := Aside0.mk A150
        clear A150
        by_cases c16 : t442 = 0
        · rw [if_pos c16] at H
          have c16b0 : (t442 == 0) = true := beq_iff_eq.mpr c16
          have c16b1 : (t442 != 0) = false := bne_eq_false_iff_eq.mpr c16
          clear c16
          replace H := Option.bind_eq_some_iff.mp H
          obtain ⟨⟨t443, t444, t445, t446, t447⟩, A170, H⟩ := H
          replace H : ((platenref16_Shift.f kj5 l0 (Int.tmod (wrap64 (a1)) 10) t443 t444 t445 t446 t447).bind fun t448 => ((platenref01_Same.f kj5 t439 t448).bind fun t451 => (some t451))) = some r := H
          have A17 := Aside0.mk A170
          clear A170
          replace H := Option.bind_eq_some_iff.mp H
          obtain ⟨t448, A180, H⟩ := H
          replace H : ((platenref01_Same.f kj5 t439 t448).bind fun t451 => (some t451)) = some r := H
          have A18 := Aside0.mk A180
          clear A180
          replace H := Option.bind_eq_some_iff.mp H
          obtain ⟨t451, A190, H⟩ := H
          replace H : (some t451) = some r := H
          have A19 := Aside0.mk A190
          clear A190
          obtain rfl := Option.some.inj H
          go_wp2_with (first | ((with_reducible refine gate_callee (f := 11) rfl ?_); refine goesL_ (some 29) rfl rfl Tryd.func11 (by kernel_rfl) rfl #[.int .u8 a2, .int .u8 a3, .bool a4] rfl (by (try simp only [List.map_toArray, List.map_cons, List.map_nil]); first | done | rfl | (simp only [List.length_drop, List.length_take]; rfl)) ?_; (with_reducible refine (platenlaw16_set.calls a2 a3 a4 t434 t435 t436 t437 t438 _ A14.out).mono ?_); rintro e w20 ⟨rfl, hb⟩; refine ⟨_, rfl, ?_⟩; have n0_ := Aside0.mk (below_step (by repeat (first | (with_reducible first | exact HB.out | apply below_alloc | apply pw_below_drewN | apply below_drew1) | exact HB.out)) hb); clear HB; have HB := n0_; clear n0_; (try clear hb); (try clear hb2); (try clear hk); (try clear hi)) | ((with_reducible refine gate_callee (f := 20) rfl ?_); refine goesL_ (some 30) rfl rfl Tryd.func20 (by kernel_rfl) rfl #[.slice A0 l0.length c0, .int .i64 (Int.tmod (wrap64 (a1)) 10), .agg #[.int .i64 t434, .int .i64 t435, .int .i64 t436, .bool t437, .bool t438]] rfl (by (try simp only [List.map_toArray, List.map_cons, List.map_nil]); first | done | rfl | (simp only [List.length_drop, List.length_take]; rfl)) ?_; (with_reducible refine (shift_Shift.calls kj5 _ _ l0 (Int.tmod (wrap64 (a1)) 10) t434 t435 t436 t437 t438 t439 t442 _ ?side3 ?side1 ?side2 A15.out).mono ?_); (case side1 => repeat (first | exact (Kd.C_below HR0.out HB.out) | (with_reducible refine Kd.C_alloc ?_ _) | (with_reducible refine Kd.C_drewN ?_ _) | (with_reducible refine Kd.C_drew ?_))); (case side2 => exact HC0.out); (case side3 => exact Tabs.below HT.out (by repeat (first | (with_reducible first | exact HB.out | apply below_alloc | apply pw_below_drewN | apply below_drew1) | exact HB.out))); rintro e w21 ⟨v440, rfl, ho0, hb⟩; refine ⟨_, rfl, ?_⟩; have n0_ := Aside0.mk (Kd.R_lower ho0 (below_size (by repeat (first | (with_reducible first | exact HB.out | apply below_alloc | apply pw_below_drewN | apply below_drew1) | exact HB.out)))); have n1_ := Aside0.mk (below_step (by repeat (first | (with_reducible first | exact HB.out | apply below_alloc | apply pw_below_drewN | apply below_drew1) | exact HB.out)) hb); clear HB; have HO441 := n0_; have HB := n1_; clear n0_ n1_; (try clear hb); (try clear hb2); (try clear hk); (try clear hi); (try clear ho0)) | (go_at_call 11; (with_reducible refine (platenlaw16_set.calls a2 a3 a4 t443 t444 t445 t446 t447 _ A17.out).mono ?_); rintro e w22 ⟨rfl, hb⟩; have n0_ := Aside0.mk (Kd.R_below (by (with_reducible repeat (first | apply Kd.R_alloc | apply Kd.R_drewN | apply Kd.R_drew)); exact HO441.out) hb); have n1_ := Aside0.mk (below_step (by repeat (first | (with_reducible first | exact HB.out | apply below_alloc | apply pw_below_drewN | apply below_drew1) | exact HB.out)) hb); clear HO441; clear HB; have HO441 := n0_; have HB := n1_; clear n0_ n1_; (try clear hb); (try clear hb2); (try clear hk); (try clear hi)) | (go_at_call 22; (with_reducible refine (platenref16_Shift.calls kj5 _ _ l0 (Int.tmod (wrap64 (a1)) 10) t443 t444 t445 t446 t447 t448 _ ?side1 ?side2 A18.out).mono ?_); (case side1 => repeat (first | exact (Kd.C_below HR0.out HB.out) | (with_reducible refine Kd.C_alloc ?_ _) | (with_reducible refine Kd.C_drewN ?_ _) | (with_reducible refine Kd.C_drew ?_))); (case side2 => exact HC0.out); rintro e w23 ⟨v449, rfl, ho0, hb⟩; have n0_ := Aside0.mk (Kd.R_elder' (by (with_reducible repeat (first | apply Kd.R_alloc | apply Kd.R_drewN | apply Kd.R_drew)); exact HO441.out) (Kd.R_base ho0) hb); have n1_ := Aside0.mk (Kd.R_lower (Kd.R_new' ho0 (Kd.R_lt (by (with_reducible repeat (first | apply Kd.R_alloc | apply Kd.R_drewN | apply Kd.R_drew)); exact HO441.out))) (below_size (by repeat (first | (with_reducible first | exact HB.out | apply below_alloc | apply pw_below_drewN | apply below_drew1) | exact HB.out)))); have n2_ := Aside0.mk (below_step (by repeat (first | (with_reducible first | exact HB.out | apply below_alloc | apply pw_below_drewN | apply below_drew1) | exact HB.out)) hb); clear HO441; clear HB; have HO441 := n0_; have HO450 := n1_; have HB := n2_; clear n0_ n1_ n2_; (try clear hb); (try clear hb2); (try clear hk); (try clear hi); (try clear ho0); obtain ⟨Ao24, co24, eo24⟩ := Kd.R_slice HO441.out; subst eo24; obtain ⟨Ao25, co25, eo25⟩ := Kd.R_slice HO450.out; subst eo25) | (go_at_call 21; (with_reducible refine (platenref01_Same.calls kj5 _ _ t439 _ _ t448 t451 _ ?side1 ?side2 ?side3 ?side4 A19.out).mono ?_); (case side1 => repeat (first | exact (Kd.R_reads' HO441.out).2.2 | (with_reducible refine Kd.C_alloc ?_ _) | (with_reducible refine Kd.C_drewN ?_ _) | (with_reducible refine Kd.C_drew ?_))); (case side2 => exact (Kd.R_reads' HO441.out).2.1); (case side3 => repeat (first | exact (Kd.R_reads' HO450.out).2.2 | (with_reducible refine Kd.C_alloc ?_ _) | (with_reducible refine Kd.C_drewN ?_ _) | (with_reducible refine Kd.C_drew ?_))); (case side4 => exact (Kd.R_reads' HO450.out).2.1); rintro e w' ⟨rfl, ⟨nd, rfl⟩⟩))
          go_ret
          exact ⟨by first | rfl | (simp [errW_none, errW_some] <;> rfl) | (simp [*, errW_none, errW_some] <;> rfl), by repeat (first | (with_reducible first | exact HB.out | apply below_alloc | apply pw_below_drewN | apply below_drew1) | exact HB.out)⟩
        · rw [if_neg c16] at H
          have c16b0 : (t442 == 0) = false := beq_eq_false_iff_ne.mpr c16
          have c16b1 : (t442 != 0) = true := bne_iff_ne.mpr c16
          obtain rfl := Option.some.inj H
          go_wp2_with (first | ((with_reducible refine gate_callee (f := 11) rfl ?_); refine goesL_ (some 29) rfl rfl Tryd.func11 (by kernel_rfl) rfl #[.int .u8 a2, .int .u8 a3, .bool a4] rfl (by (try simp only [List.map_toArray, List.map_cons, List.map_nil]); first | done | rfl | (simp only [List.length_drop, List.length_take]; rfl)) ?_; (with_reducible refine (platenlaw16_set.calls a2 a3 a4 t434 t435 t436 t437 t438 _ A14.out).mono ?_); rintro e w26 ⟨rfl, hb⟩; refine ⟨_, rfl, ?_⟩; have n0_ := Aside0.mk (below_step (by repeat (first | (with_reducible first | exact HB.out | apply below_alloc | apply pw_below_drewN | apply below_drew1) | exact HB.out)) hb); clear HB; have HB := n0_; clear n0_; (try clear hb); (try clear hb2); (try clear hk); (try clear hi)) | ((with_reducible refine gate_callee (f := 20) rfl ?_); refine goesL_ (some 30) rfl rfl Tryd.func20 (by kernel_rfl) rfl #[.slice A0 l0.length c0, .int .i64 (Int.tmod (wrap64 (a1)) 10), .agg #[.int .i64 t434, .int .i64 t435, .int .i64 t436, .bool t437, .bool t438]] rfl (by (try simp only [List.map_toArray, List.map_cons, List.map_nil]); first | done | rfl | (simp only [List.length_drop, List.length_take]; rfl)) ?_; (with_reducible refine (shift_Shift.calls kj5 _ _ l0 (Int.tmod (wrap64 (a1)) 10) t434 t435 t436 t437 t438 t439 t442 _ ?side3 ?side1 ?side2 A15.out).mono ?_); (case side1 => repeat (first | exact (Kd.C_below HR0.out HB.out) | (with_reducible refine Kd.C_alloc ?_ _) | (with_reducible refine Kd.C_drewN ?_ _) | (with_reducible refine Kd.C_drew ?_))); (case side2 => exact HC0.out); (case side3 => exact Tabs.below HT.out (by repeat (first | (with_reducible first | exact HB.out | apply below_alloc | apply pw_below_drewN | apply below_drew1) | exact HB.out))); rintro e w27 ⟨v440, rfl, ho0, hb⟩; refine ⟨_, rfl, ?_⟩; have n0_ := Aside0.mk (Kd.R_lower ho0 (below_size (by repeat (first | (with_reducible first | exact HB.out | apply below_alloc | apply pw_below_drewN | apply below_drew1) | exact HB.out)))); have n1_ := Aside0.mk (below_step (by repeat (first | (with_reducible first | exact HB.out | apply below_alloc | apply pw_below_drewN | apply below_drew1) | exact HB.out)) hb); clear HB; have HO441 := n0_; have HB := n1_; clear n0_ n1_; (try clear hb); (try clear hb2); (try clear hk); (try clear hi); (try clear ho0)))
          go_ret
          exact ⟨by first | rfl | (simp [errW_none, errW_some] <;> rfl) | (simp [*, errW_none, errW_some] <;> rfl), by repeat (first | (with_reducible first | exact HB.out | apply below_alloc | apply pw_below_drewN | apply below_drew1) | exact HB.out)⟩

/-- THE ONE PURE STATEMENT of platenlaw16_ShiftTexts: yours. -/
def platenlaw16_ShiftTexts.Pure : Prop := ∀ (l0 : List Int) (a1 : Int) (a2 : Int) (a3 : Int) (a4 : Bool), l0.length ≤ maxLen → l0.length * 1 ≤ 140737488351232 → (∀ x ∈ l0, (Lit.int .u8 x).wf = true) → (Lit.int .i8 a1).wf = true → (Lit.int .u8 a2).wf = true → (Lit.int .u8 a3).wf = true → ∃ k, platenlaw16_ShiftTexts.f k l0 a1 a2 a3 a4 = some true
theorem platenlaw16_ShiftTexts.walk (P : platenlaw16_ShiftTexts.Pure) (a0 : Option Addr) (len0 cap0 : Nat) (z0 : List Int) (a1 : Int) (a2 : Int) (a3 : Int) (a4 : Bool) (w : World) (hT : Tabs w) (w0 : (a0 = none ∧ len0 = 0 ∧ cap0 = 0 ∧ z0 = []) ∨ ∃ x, a0 = some x ∧ len0 ≤ cap0 ∧ cap0 ≤ maxLen ∧ z0.length = cap0 ∧ (∀ i, i < z0.length → w.cell? (x.add i) = some (.int .u8 (z0.getD i 0))) ∧ ∀ n ∈ z0, (Lit.int .u8 n).wf = true) (y0 : len0 * 1 ≤ 140737488351232) (w1 : (Lit.int .i8 a1).wf = true) (w2 : (Lit.int .u8 a2).wf = true) (w3 : (Lit.int .u8 a3).wf = true) :
    Calls Tryd.prog 7 #[.slice a0 len0 cap0, .int .i8 a1, .int .u8 a2, .int .u8 a3, .bool a4] w fun e w' => e = .returned (.bool true) ∧ Below w.heap.size w w' := by
  obtain ⟨l0, rfl, hr0, hm0, hw0, hc0⟩ := ReadsInt.ofRowC w0
  obtain ⟨k, h⟩ := P l0 a1 a2 a3 a4 hm0 y0 hw0 w1 w2 w3
  refine (platenlaw16_ShiftTexts.calls k _ _ l0 a1 a2 a3 a4 true w hT (Kd.C_of_reads (d := (0 : Int)) (h1 := fun _ => rfl) hr0) hc0 h).mono ?_
  rintro e w' ⟨rfl, hd⟩
  exact ⟨rfl, hd⟩

end Go.Proofs.YtdaodcdbfaikjaaDoor.Pa
