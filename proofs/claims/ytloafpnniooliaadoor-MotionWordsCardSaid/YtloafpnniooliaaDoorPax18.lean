-- Laid by a program of this claim's own (wip/tools/mkprint.py, ext.py): walks of the functions that the statements reach.
import Derived.Test.YtloafpnniooliaaDoorPax0
import Derived.Test.YtloafpnniooliaaDoorPax13
import Derived.Test.YtloafpnniooliaaDoorPax15
import Derived.Test.YtloafpnniooliaaDoorPax17
namespace Go.Proofs.YtloafpnniooliaaDoor.Pa
open Go.RowKit Go.Proofs.YtloafpnniooliaaDoor.Ext Go.Proofs.YtloafpnniooliaaDoorW.PrintWords Go.Proofs.YtloafpnniooliaaDoorW.PrintLast Go.Proofs.YtloafpnniooliaaDoorW.PrintMore
attribute [local go_sem] max2_int min2_int max_two min_two max_three min_three max_four min_four   -- for this text's walks alone
set_option linter.unusedVariables false
set_option linter.unusedSimpArgs false

/-! ### platenref05_Back: function 18 -/
mutual
def platenref05_Back.j0 : Nat → List Int → Int → Bool → Option (Int × Bool)
  | 0, _, _, _ => none
  | k + 1, x0, x1, x15 => if x15 = true then (some (0, false)) else ((platenref05_Words.f k x0).bind fun t397 => (platenref05_Back.l0 k x1 t397 (wrap64 ((t397.length : Int) - 1))))
def platenref05_Back.l0 : Nat → Int → List (S39) → Int → Option (Int × Bool)
  | 0, _, _, _ => none
  | k + 1, x1, x6, x7 => if x7 ≥ 0 then (if 0 ≤ x7 then (if x7 < (x6.length : Int) then (if ((rd_T39 x6 x7).f0) < x1 then (some ((rd_T39 x6 x7).f0, true)) else (platenref05_Back.l0 k x1 x6 (wrap64 (x7 - 1)))) else (none)) else (none)) else (some (0, true))
end
def platenref05_Back.f (k : Nat) (l0 : List Int) (a1 : Int) : Option (Int × Bool) := if a1 ≤ 0 then (platenref05_Back.j0 k l0 a1 true) else (platenref05_Back.j0 k l0 a1 (decide (a1 > (l0.length : Int))))
theorem platenref05_Back.mono_l : ∀ k, (∀ y0 y1 y2, LeO (platenref05_Back.j0 k y0 y1 y2) (platenref05_Back.j0 (k + 1) y0 y1 y2)) ∧ (∀ y0 y1 y2, LeO (platenref05_Back.l0 k y0 y1 y2) (platenref05_Back.l0 (k + 1) y0 y1 y2))
  | 0 => ⟨fun _ _ _ r h => by simp [platenref05_Back.j0] at h, fun _ _ _ r h => by simp [platenref05_Back.l0] at h⟩
  | k + 1 => by
    obtain ⟨ih0, ih1⟩ := platenref05_Back.mono_l k
    refine ⟨?_, ?_⟩
    · intro y0 y1 y2
      unfold platenref05_Back.j0
      repeat' first
      | (with_reducible exact ih0 _ _ _)
      | (with_reducible exact ih1 _ _ _)
      | (with_reducible exact platenref05_Words.mono _ _)
      | (with_reducible exact LeO.refl _)
      | (with_reducible exact LeO.none _)
      | (with_reducible refine LeO.ite ?_ ?_)
      | (with_reducible refine LeO.bind ?_ (fun _ => ?_))
      | exact ih0 _ _ _
      | exact ih1 _ _ _
      | exact platenref05_Words.mono _ _
      | exact LeO.none _
      | refine LeO.ite ?_ ?_
      | refine LeO.bind ?_ (fun _ => ?_)
    · intro y0 y1 y2
      unfold platenref05_Back.l0
      repeat' first
      | (with_reducible exact ih0 _ _ _)
      | (with_reducible exact ih1 _ _ _)
      | (with_reducible exact platenref05_Words.mono _ _)
      | (with_reducible exact LeO.refl _)
      | (with_reducible exact LeO.none _)
      | (with_reducible refine LeO.ite ?_ ?_)
      | (with_reducible refine LeO.bind ?_ (fun _ => ?_))
      | exact ih0 _ _ _
      | exact ih1 _ _ _
      | exact platenref05_Words.mono _ _
      | exact LeO.none _
      | refine LeO.ite ?_ ?_
      | refine LeO.bind ?_ (fun _ => ?_)
theorem platenref05_Back.mono : ∀ a0 a1 k, LeO (platenref05_Back.f k a0 a1) (platenref05_Back.f (k + 1) a0 a1) := by
  intro a0 a1 k
  obtain ⟨ih0, ih1⟩ := platenref05_Back.mono_l k
  unfold platenref05_Back.f
  repeat' first
      | (with_reducible exact ih0 _ _ _)
      | (with_reducible exact ih1 _ _ _)
      | (with_reducible exact platenref05_Words.mono _ _)
      | (with_reducible exact LeO.refl _)
      | (with_reducible exact LeO.none _)
      | (with_reducible refine LeO.ite ?_ ?_)
      | (with_reducible refine LeO.bind ?_ (fun _ => ?_))
      | exact ih0 _ _ _
      | exact ih1 _ _ _
      | exact platenref05_Words.mono _ _
      | exact LeO.none _
      | refine LeO.ite ?_ ?_
      | refine LeO.bind ?_ (fun _ => ?_)
set_option maxHeartbeats 8000000 in
set_option maxRecDepth 100000 in
theorem platenref05_Back.calls (k : Nat) (A0 : Option Addr) (c0 : Nat) (l0 : List Int) (a1 : Int) (r1 : Int) (r2 : Bool) (w : World) (hr0 : Kd.C (Kd.int .u8) w A0 l0.length l0) (hc0 : l0.length ≤ c0) (h : platenref05_Back.f k l0 a1 = some (r1, r2)) :
  Calls Tryd.prog 18 #[.slice A0 l0.length c0, .int .i64 a1] w fun e w' => e = .returned (.tuple #[.int .i64 r1, .bool r2]) ∧ Below w.heap.size w w' := by
 have HR0 := Aside0.mk hr0
 have HC0 := Aside0.mk hc0
 clear hr0 hc0
 have HB := Aside0.mk (Below.refl w.heap.size w)
 have H : (if a1 ≤ 0 then (platenref05_Back.j0 k l0 a1 true) else (platenref05_Back.j0 k l0 a1 (decide (a1 > (l0.length : Int))))) = some (r1, r2) := h
 clear h
 have HC3 := Aside0.mk H
 clear H
 go_enter Tryd.func18, Tryd.ntmps18
 go_upto_region 1 with (fail)
 go_cut [15] (fun v15 wc => ∃ (kq : Nat) (x15_2 : Bool), v15 = .bool x15_2 ∧ Aside0 (platenref05_Back.j0 kq l0 a1 x15_2 = some (r1, r2)) ∧ Aside0 (kq ≤ k) ∧ Aside0 (Below w.heap.size w wc))
 case first =>
  have H := HC3.out
  clear HC3
  by_cases c4 : a1 ≤ 0
  ·rw [if_pos c4] at H
   have c4b0 : decide (a1 ≤ 0) = true := decide_eq_true c4
   clear c4
   (first | rw [c4b0] | (simp only [i64_w, i32_w]; rw [c4b0]) | skip)
   have H' := Aside0.mk H
   clear H
   go_wp2
   go_meet
   case rel => exact ⟨_, (true), (by first | rfl | (simp; done) | (simp [*]; done)), H', ⟨by first | omega | exact Nat.le_refl _⟩, ⟨by repeat (first | exact HB.out | apply bA | apply bN | apply bD)⟩⟩
  ·rw [if_neg c4] at H
   have c4b0 : decide (a1 ≤ 0) = false := decide_eq_false c4
   clear c4
   (first | rw [c4b0] | (simp only [i64_w, i32_w]; rw [c4b0]) | skip)
   have H' := Aside0.mk H
   clear H
   go_wp2
   go_meet
   case rel => exact ⟨_, (decide (a1 > (l0.length : Int))), (by first | rfl | (simp; done) | (simp [*]; done)), H', ⟨by first | omega | exact Nat.le_refl _⟩, ⟨by repeat (first | exact HB.out | apply bA | apply bN | apply bD)⟩⟩
 case rest =>
  clear HC3
  try clear c1
  try clear p2
  try clear c4
  try clear c4b0
  obtain ⟨kq, x15_2, rfl, HA, HJ2, HB⟩ := hcut
  cases kq with
  | zero => exact absurd HA.out (by simp [platenref05_Back.j0])
  | succ kj2 =>
   have H := HA.out
   clear HA
   simp only [platenref05_Back.j0] at H
   by_cases c5 : x15_2 = true
   ·subst c5
    have H1 : (some (0, false)) = some (r1, r2) := by rw [if_pos rfl] at H; exact H
    clear H
    have H := H1
    clear H1
    simp only [Option.some.injEq, Prod.mk.injEq] at H
    obtain ⟨rfl, rfl⟩ := H
    go_wp2
    go_ret2
    exact ⟨by first | rfl | (simp [errW_none, errW_some] <;> rfl) | (simp [*, errW_none, errW_some] <;> rfl), by repeat (first | exact HB.out | apply bA | apply bN | apply bD)⟩
   ·replace c5 := Bool.eq_false_iff.mpr c5
    subst c5
    have H1 : ((platenref05_Words.f kj2 l0).bind fun t397 => (platenref05_Back.l0 kj2 a1 t397 (wrap64 ((t397.length : Int) - 1)))) = some (r1, r2) := by rw [if_neg (show ¬ (false = true) by decide)] at H; exact H
    clear H
    have H := H1
    clear H1
    replace H := Option.bind_eq_some_iff.mp H
    obtain ⟨t397, A60, H⟩ := H
    replace H : (platenref05_Back.l0 kj2 a1 t397 (wrap64 ((t397.length : Int) - 1))) = some (r1, r2) := H
    have A6 := Aside0.mk A60
    clear A60
    have H' := Aside0.mk H
    clear H
    go_wp2_with (first | ((with_reducible refine gate_callee (f := 30) rfl ?_); refine goesL_ (some 17) rfl rfl Tryd.func30 (by kernel_rfl) rfl #[.slice A0 l0.length c0] rfl (by (try simp only [List.map_toArray, List.map_cons, List.map_nil]); first | done | rfl | (simp only [List.length_drop, List.length_take]; rfl)) ?_; (with_reducible refine (platenref05_Words.calls kj2 _ _ l0 t397 _ ?side1 ?side2 A6.out).mono ?_); (case side1 => repeat (first | exact (Kd.C_below HR0.out HB.out) | (with_reducible refine Kd.C_alloc ?_ _) | (with_reducible refine Kd.C_drewN ?_ _) | (with_reducible refine Kd.C_drew ?_))); (case side2 => exact HC0.out); rintro e w7 ⟨v398, rfl, ho0, hb⟩; refine ⟨_, rfl, ?_⟩; have n0_ := Aside0.mk (Kd.R_lower ho0 (below_size (by repeat (first | exact HB.out | apply bA | apply bN | apply bD)))); have n1_ := Aside0.mk (below_step (by repeat (first | exact HB.out | apply bA | apply bN | apply bD)) hb); clear HB; have HO399 := n0_; have HB := n1_; clear n0_ n1_; (try clear hb); (try clear hb2); (try clear hk); (try clear hi); (try clear ho0); obtain ⟨Ao8, co8, eo8⟩ := Kd.R_slice HO399.out; subst eo8))
    go_loopg [7] kj2 (fun kq v7 w' => ∃ (x7_2 : Int), v7 = .int .i64 x7_2 ∧ Aside0 (platenref05_Back.l0 kq a1 t397 x7_2 = some (r1, r2)) ∧ Aside0 (kq ≤ kj2) ∧ Aside0 (Kd.R k39 39 w' w.heap.size (fun _ => True) (.slice Ao8 t397.length co8) t397) ∧ Aside0 (Below w.heap.size w w'))
    case atStart => exact ⟨(wrap64 ((t397.length : Int) - 1)), (by first | rfl | (simp; done) | (simp [*]; done)), H', ⟨Nat.le_refl _⟩, ⟨by (with_reducible repeat (first | apply Kd.R_alloc | apply Kd.R_drewN | apply Kd.R_drew)); exact HO399.out⟩, ⟨by repeat (first | exact HB.out | apply bA | apply bN | apply bD)⟩⟩
    case round =>
     clear H'
     try clear c1
     try clear p2
     try clear c3
     try clear c4
     try clear c4b0
     try clear c5
     try clear p6
     try clear p2
     obtain ⟨x7_2, rfl, HA, HK2, HO_6, HB⟩ := hrel
     cases gk with
     | zero => exact absurd HA.out (by simp [platenref05_Back.l0])
     | succ k2 =>
      have H := HA.out
      clear HA
      simp only [platenref05_Back.l0] at H
      by_cases c9 : x7_2 ≥ 0
      ·rw [if_pos c9] at H
       have c9b0 : decide (0 ≤ x7_2) = true := decide_eq_true c9
       clear c9
       by_cases c10 : 0 ≤ x7_2
       ·rw [if_pos c10] at H
        have c10b0 : decide (0 ≤ x7_2) = true := decide_eq_true c10
        clear c10
        by_cases c11 : x7_2 < (t397.length : Int)
        ·rw [if_pos c11] at H
         have c11b0 : decide (x7_2 < (t397.length : Int)) = true := decide_eq_true c11
         clear c11
         by_cases c12 : ((rd_T39 t397 x7_2).f0) < a1
         ·rw [if_pos c12] at H
          have c12b0 : decide (((rd_T39 t397 x7_2).f0) < a1) = true := decide_eq_true c12
          clear c12
          simp only [Option.some.injEq, Prod.mk.injEq] at H
          obtain ⟨rfl, rfl⟩ := H
          have p400 : 0 ≤ (x7_2 : Int) := of_decide_eq_true (by first | (with_reducible assumption) | assumption)
          have q400 : x7_2 < (t397.length : Int) := of_decide_eq_true (by first | (with_reducible assumption) | assumption)
          obtain ⟨ad400, e400, hx400_0, hx400_1⟩ := at_T39 (Kd.R_reads' HO_6.out).2.2 x7_2 p400 q400
          cases e400
          replace p400 := eq_true p400
          replace q400 := eq_true q400
          have p401 : 0 ≤ (x7_2 : Int) := of_decide_eq_true (by first | (with_reducible assumption) | assumption)
          have q401 : x7_2 < (t397.length : Int) := of_decide_eq_true (by first | (with_reducible assumption) | assumption)
          obtain ⟨ad401, e401, hx401_0, hx401_1⟩ := at_T39 (Kd.R_reads' HO_6.out).2.2 x7_2 p401 q401
          obtain rfl : ad400 = ad401 := (by injection e401)
          replace p401 := eq_true p401
          replace q401 := eq_true q401
          go_wp2
          go_ret2
          exact ⟨by first | rfl | (simp [errW_none, errW_some] <;> rfl) | (simp [*, errW_none, errW_some] <;> rfl), by repeat (first | exact HB.out | apply bA | apply bN | apply bD)⟩
         ·rw [if_neg c12] at H
          have c12b0 : decide (((rd_T39 t397 x7_2).f0) < a1) = false := decide_eq_false c12
          clear c12
          have H' := Aside0.mk H
          clear H
          have p400 : 0 ≤ (x7_2 : Int) := of_decide_eq_true (by first | (with_reducible assumption) | assumption)
          have q400 : x7_2 < (t397.length : Int) := of_decide_eq_true (by first | (with_reducible assumption) | assumption)
          obtain ⟨ad400, e400, hx400_0, hx400_1⟩ := at_T39 (Kd.R_reads' HO_6.out).2.2 x7_2 p400 q400
          cases e400
          replace p400 := eq_true p400
          replace q400 := eq_true q400
          go_wp2
          go_roundg k2
          case measure => have := HJ2.out; have := HK2.out; omega
          case rel => exact ⟨(wrap64 (x7_2 - 1)), (by first | rfl | (simp; done) | (simp [*]; done)), H', ⟨by have := HJ2.out; have := HK2.out; omega⟩, ⟨by (with_reducible repeat (first | apply Kd.R_alloc | apply Kd.R_drewN | apply Kd.R_drew)); exact HO_6.out⟩, ⟨by repeat (first | exact HB.out | apply bA | apply bN | apply bD)⟩⟩
        ·rw [if_neg c11] at H
         exact absurd H (by simp)
       ·rw [if_neg c10] at H
        exact absurd H (by simp)
      ·rw [if_neg c9] at H
       have c9b0 : decide (0 ≤ x7_2) = false := decide_eq_false c9
       clear c9
       simp only [Option.some.injEq, Prod.mk.injEq] at H
       obtain ⟨rfl, rfl⟩ := H
       go_wp2
       go_ret2
       exact ⟨by first | rfl | (simp [errW_none, errW_some] <;> rfl) | (simp [*, errW_none, errW_some] <;> rfl), by repeat (first | exact HB.out | apply bA | apply bN | apply bD)⟩

/-! ### platenref05_Last: function 19 -/
def platenref05_Last.l0 : Nat → List Int → Int → List (S39) → Int → Option (Int × Bool)
  | 0, _, _, _, _ => none
  | k + 1, x0, x1, x6, x7 => if x7 < (x6.length : Int) then (if 0 ≤ x7 then ((platenref01_Last.f k x0 (wrap64 (((rd_T39 x6 x7).f0) + ((rd_T39 x6 x7).f1)))).bind fun t407 => (if (wrap64 ((wrap64 (((rd_T39 x6 x7).f0) + ((rd_T39 x6 x7).f1))) - t407)) > x1 then (some (wrap64 ((wrap64 (((rd_T39 x6 x7).f0) + ((rd_T39 x6 x7).f1))) - t407), true)) else (platenref05_Last.l0 k x0 x1 x6 (wrap64 (x7 + 1))))) else (none)) else (some (0, false))
def platenref05_Last.f (k : Nat) (l0 : List Int) (a1 : Int) : Option (Int × Bool) := (platenref05_Words.f k l0).bind fun t402 => (platenref05_Last.l0 k l0 a1 t402 0)
theorem platenref05_Last.mono_l : ∀ k, (∀ y0 y1 y2 y3, LeO (platenref05_Last.l0 k y0 y1 y2 y3) (platenref05_Last.l0 (k + 1) y0 y1 y2 y3))
  | 0 => fun _ _ _ _ r h => by simp [platenref05_Last.l0] at h
  | k + 1 => by
    have ih0 := platenref05_Last.mono_l k
    · intro y0 y1 y2 y3
      unfold platenref05_Last.l0
      repeat' first
      | (with_reducible exact ih0 _ _ _ _)
      | (with_reducible exact platenref01_Last.mono _ _ _)
      | (with_reducible exact platenref05_Words.mono _ _)
      | (with_reducible exact LeO.refl _)
      | (with_reducible exact LeO.none _)
      | (with_reducible refine LeO.ite ?_ ?_)
      | (with_reducible refine LeO.bind ?_ (fun _ => ?_))
      | exact ih0 _ _ _ _
      | exact platenref01_Last.mono _ _ _
      | exact platenref05_Words.mono _ _
      | exact LeO.none _
      | refine LeO.ite ?_ ?_
      | refine LeO.bind ?_ (fun _ => ?_)
theorem platenref05_Last.mono : ∀ a0 a1 k, LeO (platenref05_Last.f k a0 a1) (platenref05_Last.f (k + 1) a0 a1) := by
  intro a0 a1 k
  have ih0 := platenref05_Last.mono_l k
  unfold platenref05_Last.f
  repeat' first
      | (with_reducible exact ih0 _ _ _ _)
      | (with_reducible exact platenref01_Last.mono _ _ _)
      | (with_reducible exact platenref05_Words.mono _ _)
      | (with_reducible exact LeO.refl _)
      | (with_reducible exact LeO.none _)
      | (with_reducible refine LeO.ite ?_ ?_)
      | (with_reducible refine LeO.bind ?_ (fun _ => ?_))
      | exact ih0 _ _ _ _
      | exact platenref01_Last.mono _ _ _
      | exact platenref05_Words.mono _ _
      | exact LeO.none _
      | refine LeO.ite ?_ ?_
      | refine LeO.bind ?_ (fun _ => ?_)
set_option maxHeartbeats 8000000 in
set_option maxRecDepth 100000 in
theorem platenref05_Last.calls (k : Nat) (A0 : Option Addr) (c0 : Nat) (l0 : List Int) (a1 : Int) (r1 : Int) (r2 : Bool) (w : World) (hr0 : Kd.C (Kd.int .u8) w A0 l0.length l0) (hc0 : l0.length ≤ c0) (h : platenref05_Last.f k l0 a1 = some (r1, r2)) :
  Calls Tryd.prog 19 #[.slice A0 l0.length c0, .int .i64 a1] w fun e w' => e = .returned (.tuple #[.int .i64 r1, .bool r2]) ∧ Below w.heap.size w w' := by
 have HR0 := Aside0.mk hr0
 have HC0 := Aside0.mk hc0
 clear hr0 hc0
 have HB := Aside0.mk (Below.refl w.heap.size w)
 have H : ((platenref05_Words.f k l0).bind fun t402 => (platenref05_Last.l0 k l0 a1 t402 0)) = some (r1, r2) := h
 clear h
 replace H := Option.bind_eq_some_iff.mp H
 obtain ⟨t402, A30, H⟩ := H
 replace H : (platenref05_Last.l0 k l0 a1 t402 0) = some (r1, r2) := H
 have A3 := Aside0.mk A30
 clear A30
 have H' := Aside0.mk H
 clear H
 go_enter Tryd.func19, Tryd.ntmps19
 go_wp2_with (first | (go_at_call 30; (with_reducible refine (platenref05_Words.calls k _ _ l0 t402 _ ?side1 ?side2 A3.out).mono ?_); (case side1 => repeat (first | exact HR0.out | (with_reducible refine Kd.C_alloc ?_ _) | (with_reducible refine Kd.C_drewN ?_ _) | (with_reducible refine Kd.C_drew ?_))); (case side2 => exact HC0.out); rintro e w4 ⟨v403, rfl, ho0, hb⟩; have n0_ := Aside0.mk (Kd.R_lower ho0 (below_size (by repeat (first | exact HB.out | apply bA | apply bN | apply bD)))); have n1_ := Aside0.mk (below_step (by repeat (first | exact HB.out | apply bA | apply bN | apply bD)) hb); clear HB; have HO404 := n0_; have HB := n1_; clear n0_ n1_; (try clear hb); (try clear hb2); (try clear hk); (try clear hi); (try clear ho0)))
 repeat (go_quiet (first | (go_at_call 30; (with_reducible refine (platenref05_Words.calls k _ _ l0 t402 _ ?side1 ?side2 A3.out).mono ?_); (case side1 => repeat (first | exact HR0.out | (with_reducible refine Kd.C_alloc ?_ _) | (with_reducible refine Kd.C_drewN ?_ _) | (with_reducible refine Kd.C_drew ?_))); (case side2 => exact HC0.out); rintro e w4 ⟨v403, rfl, ho0, hb⟩; have n0_ := Aside0.mk (Kd.R_lower ho0 (below_size (by repeat (first | exact HB.out | apply bA | apply bN | apply bD)))); have n1_ := Aside0.mk (below_step (by repeat (first | exact HB.out | apply bA | apply bN | apply bD)) hb); clear HB; have HO404 := n0_; have HB := n1_; clear n0_ n1_; (try clear hb); (try clear hb2); (try clear hk); (try clear hi); (try clear ho0))); try go_wp2_with (first | (go_at_call 30; (with_reducible refine (platenref05_Words.calls k _ _ l0 t402 _ ?side1 ?side2 A3.out).mono ?_); (case side1 => repeat (first | exact HR0.out | (with_reducible refine Kd.C_alloc ?_ _) | (with_reducible refine Kd.C_drewN ?_ _) | (with_reducible refine Kd.C_drew ?_))); (case side2 => exact HC0.out); rintro e w4 ⟨v403, rfl, ho0, hb⟩; have n0_ := Aside0.mk (Kd.R_lower ho0 (below_size (by repeat (first | exact HB.out | apply bA | apply bN | apply bD)))); have n1_ := Aside0.mk (below_step (by repeat (first | exact HB.out | apply bA | apply bN | apply bD)) hb); clear HB; have HO404 := n0_; have HB := n1_; clear n0_ n1_; (try clear hb); (try clear hb2); (try clear hk); (try clear hi); (try clear ho0))))
 go_loopg [7] k (fun kq v7 w' => ∃ (x7_1 : Int), v7 = .int .i64 x7_1 ∧ Aside0 (platenref05_Last.l0 kq l0 a1 t402 x7_1 = some (r1, r2)) ∧ Aside0 (kq ≤ k) ∧ Aside0 (Kd.R k39 39 w' w.heap.size (fun _ => True) v403 t402) ∧ Aside0 (Below w.heap.size w w'))
 case atStart => exact ⟨(0), (by first | rfl | (simp; done) | (simp [*]; done)), H', ⟨Nat.le_refl _⟩, ⟨by (with_reducible repeat (first | apply Kd.R_alloc | apply Kd.R_drewN | apply Kd.R_drew)); exact HO404.out⟩, ⟨by repeat (first | exact HB.out | apply bA | apply bN | apply bD)⟩⟩
 case round =>
  clear H'
  try clear c1
  try clear p2
  obtain ⟨x7_1, rfl, HA, HK1, HO_6, HB⟩ := hrel
  cases gk with
  | zero => exact absurd HA.out (by simp [platenref05_Last.l0])
  | succ k1 =>
   have H := HA.out
   clear HA
   simp only [platenref05_Last.l0] at H
   by_cases c5 : x7_1 < (t402.length : Int)
   ·rw [if_pos c5] at H
    have c5b0 : decide (x7_1 < (t402.length : Int)) = true := decide_eq_true c5
    clear c5
    by_cases c6 : 0 ≤ x7_1
    ·rw [if_pos c6] at H
     have c6b0 : decide (0 ≤ x7_1) = true := decide_eq_true c6
     clear c6
     replace H := Option.bind_eq_some_iff.mp H
     obtain ⟨t407, A70, H⟩ := H
     replace H : (if (wrap64 ((wrap64 (((rd_T39 t402 x7_1).f0) + ((rd_T39 t402 x7_1).f1))) - t407)) > a1 then (some (wrap64 ((wrap64 (((rd_T39 t402 x7_1).f0) + ((rd_T39 t402 x7_1).f1))) - t407), true)) else (platenref05_Last.l0 k1 l0 a1 t402 (wrap64 (x7_1 + 1)))) = some (r1, r2) := H
     have A7 := Aside0.mk A70
     clear A70
     by_cases c8 : (wrap64 ((wrap64 (((rd_T39 t402 x7_1).f0) + ((rd_T39 t402 x7_1).f1))) - t407)) > a1
     ·rw [if_pos c8] at H
      have c8b0 : decide (a1 < (wrap64 ((wrap64 (((rd_T39 t402 x7_1).f0) + ((rd_T39 t402 x7_1).f1))) - t407))) = true := decide_eq_true c8
      clear c8
      simp only [Option.some.injEq, Prod.mk.injEq] at H
      obtain ⟨rfl, rfl⟩ := H
      obtain ⟨Ao9, co9, eo9⟩ := Kd.R_slice HO_6.out
      subst eo9
      have p405 : 0 ≤ (x7_1 : Int) := of_decide_eq_true (by first | (with_reducible assumption) | assumption)
      have q405 : x7_1 < (t402.length : Int) := of_decide_eq_true (by first | (with_reducible assumption) | assumption)
      obtain ⟨ad405, e405, hx405_0, hx405_1⟩ := at_T39 (Kd.R_reads' HO_6.out).2.2 x7_1 p405 q405
      cases e405
      replace p405 := eq_true p405
      replace q405 := eq_true q405
      have p406 : 0 ≤ (x7_1 : Int) := of_decide_eq_true (by first | (with_reducible assumption) | assumption)
      have q406 : x7_1 < (t402.length : Int) := of_decide_eq_true (by first | (with_reducible assumption) | assumption)
      obtain ⟨ad406, e406, hx406_0, hx406_1⟩ := at_T39 (Kd.R_reads' HO_6.out).2.2 x7_1 p406 q406
      obtain rfl : ad405 = ad406 := (by injection e406)
      replace p406 := eq_true p406
      replace q406 := eq_true q406
      go_wp2_with (first | (go_at_call 20; (with_reducible refine (platenref01_Last.calls k1 _ _ l0 (wrap64 (((rd_T39 t402 x7_1).f0) + ((rd_T39 t402 x7_1).f1))) t407 _ ?side1 ?side2 A7.out).mono ?_); (case side1 => repeat (first | exact (Kd.C_below HR0.out HB.out) | (with_reducible refine Kd.C_alloc ?_ _) | (with_reducible refine Kd.C_drewN ?_ _) | (with_reducible refine Kd.C_drew ?_))); (case side2 => exact HC0.out); rintro e w' ⟨rfl, ⟨nd, rfl⟩⟩; (try first | exact ⟨rfl, _, World.drewN_drewN _ _ _⟩ | exact ⟨rfl, _, Eq.trans (World.drewN_drewN _ _ _) (congrArg (World.drewN _) (Nat.add_assoc _ _ _))⟩)))
      repeat (go_quiet (first | (go_at_call 20; (with_reducible refine (platenref01_Last.calls k1 _ _ l0 (wrap64 (((rd_T39 t402 x7_1).f0) + ((rd_T39 t402 x7_1).f1))) t407 _ ?side1 ?side2 A7.out).mono ?_); (case side1 => repeat (first | exact (Kd.C_below HR0.out HB.out) | (with_reducible refine Kd.C_alloc ?_ _) | (with_reducible refine Kd.C_drewN ?_ _) | (with_reducible refine Kd.C_drew ?_))); (case side2 => exact HC0.out); rintro e w' ⟨rfl, ⟨nd, rfl⟩⟩; (try first | exact ⟨rfl, _, World.drewN_drewN _ _ _⟩ | exact ⟨rfl, _, Eq.trans (World.drewN_drewN _ _ _) (congrArg (World.drewN _) (Nat.add_assoc _ _ _))⟩))); try go_wp2_with (first | (go_at_call 20; (with_reducible refine (platenref01_Last.calls k1 _ _ l0 (wrap64 (((rd_T39 t402 x7_1).f0) + ((rd_T39 t402 x7_1).f1))) t407 _ ?side1 ?side2 A7.out).mono ?_); (case side1 => repeat (first | exact (Kd.C_below HR0.out HB.out) | (with_reducible refine Kd.C_alloc ?_ _) | (with_reducible refine Kd.C_drewN ?_ _) | (with_reducible refine Kd.C_drew ?_))); (case side2 => exact HC0.out); rintro e w' ⟨rfl, ⟨nd, rfl⟩⟩; (try first | exact ⟨rfl, _, World.drewN_drewN _ _ _⟩ | exact ⟨rfl, _, Eq.trans (World.drewN_drewN _ _ _) (congrArg (World.drewN _) (Nat.add_assoc _ _ _))⟩))))
      go_ret2
      exact ⟨by first | rfl | (simp [errW_none, errW_some] <;> rfl) | (simp [*, errW_none, errW_some] <;> rfl), by repeat (first | exact HB.out | apply bA | apply bN | apply bD)⟩
     ·rw [if_neg c8] at H
      have c8b0 : decide (a1 < (wrap64 ((wrap64 (((rd_T39 t402 x7_1).f0) + ((rd_T39 t402 x7_1).f1))) - t407))) = false := decide_eq_false c8
      clear c8
      have H' := Aside0.mk H
      clear H
      obtain ⟨Ao10, co10, eo10⟩ := Kd.R_slice HO_6.out
      subst eo10
      have p405 : 0 ≤ (x7_1 : Int) := of_decide_eq_true (by first | (with_reducible assumption) | assumption)
      have q405 : x7_1 < (t402.length : Int) := of_decide_eq_true (by first | (with_reducible assumption) | assumption)
      obtain ⟨ad405, e405, hx405_0, hx405_1⟩ := at_T39 (Kd.R_reads' HO_6.out).2.2 x7_1 p405 q405
      cases e405
      replace p405 := eq_true p405
      replace q405 := eq_true q405
      have p406 : 0 ≤ (x7_1 : Int) := of_decide_eq_true (by first | (with_reducible assumption) | assumption)
      have q406 : x7_1 < (t402.length : Int) := of_decide_eq_true (by first | (with_reducible assumption) | assumption)
      obtain ⟨ad406, e406, hx406_0, hx406_1⟩ := at_T39 (Kd.R_reads' HO_6.out).2.2 x7_1 p406 q406
      obtain rfl : ad405 = ad406 := (by injection e406)
      replace p406 := eq_true p406
      replace q406 := eq_true q406
      go_wp2_with (first | (go_at_call 20; (with_reducible refine (platenref01_Last.calls k1 _ _ l0 (wrap64 (((rd_T39 t402 x7_1).f0) + ((rd_T39 t402 x7_1).f1))) t407 _ ?side1 ?side2 A7.out).mono ?_); (case side1 => repeat (first | exact (Kd.C_below HR0.out HB.out) | (with_reducible refine Kd.C_alloc ?_ _) | (with_reducible refine Kd.C_drewN ?_ _) | (with_reducible refine Kd.C_drew ?_))); (case side2 => exact HC0.out); rintro e w' ⟨rfl, ⟨nd, rfl⟩⟩; (try first | exact ⟨rfl, _, World.drewN_drewN _ _ _⟩ | exact ⟨rfl, _, Eq.trans (World.drewN_drewN _ _ _) (congrArg (World.drewN _) (Nat.add_assoc _ _ _))⟩)))
      repeat (go_quiet (first | (go_at_call 20; (with_reducible refine (platenref01_Last.calls k1 _ _ l0 (wrap64 (((rd_T39 t402 x7_1).f0) + ((rd_T39 t402 x7_1).f1))) t407 _ ?side1 ?side2 A7.out).mono ?_); (case side1 => repeat (first | exact (Kd.C_below HR0.out HB.out) | (with_reducible refine Kd.C_alloc ?_ _) | (with_reducible refine Kd.C_drewN ?_ _) | (with_reducible refine Kd.C_drew ?_))); (case side2 => exact HC0.out); rintro e w' ⟨rfl, ⟨nd, rfl⟩⟩; (try first | exact ⟨rfl, _, World.drewN_drewN _ _ _⟩ | exact ⟨rfl, _, Eq.trans (World.drewN_drewN _ _ _) (congrArg (World.drewN _) (Nat.add_assoc _ _ _))⟩))); try go_wp2_with (first | (go_at_call 20; (with_reducible refine (platenref01_Last.calls k1 _ _ l0 (wrap64 (((rd_T39 t402 x7_1).f0) + ((rd_T39 t402 x7_1).f1))) t407 _ ?side1 ?side2 A7.out).mono ?_); (case side1 => repeat (first | exact (Kd.C_below HR0.out HB.out) | (with_reducible refine Kd.C_alloc ?_ _) | (with_reducible refine Kd.C_drewN ?_ _) | (with_reducible refine Kd.C_drew ?_))); (case side2 => exact HC0.out); rintro e w' ⟨rfl, ⟨nd, rfl⟩⟩; (try first | exact ⟨rfl, _, World.drewN_drewN _ _ _⟩ | exact ⟨rfl, _, Eq.trans (World.drewN_drewN _ _ _) (congrArg (World.drewN _) (Nat.add_assoc _ _ _))⟩))))
      go_roundg k1
      case measure => have := HK1.out; omega
      case rel => exact ⟨(wrap64 (x7_1 + 1)), (by first | rfl | (simp; done) | (simp [*]; done)), H', ⟨by have := HK1.out; omega⟩, ⟨by (with_reducible repeat (first | apply Kd.R_alloc | apply Kd.R_drewN | apply Kd.R_drew)); exact HO_6.out⟩, ⟨by repeat (first | exact HB.out | apply bA | apply bN | apply bD)⟩⟩
    ·rw [if_neg c6] at H
     exact absurd H (by simp)
   ·rw [if_neg c5] at H
    have c5b0 : decide (x7_1 < (t402.length : Int)) = false := decide_eq_false c5
    clear c5
    simp only [Option.some.injEq, Prod.mk.injEq] at H
    obtain ⟨rfl, rfl⟩ := H
    obtain ⟨Ao11, co11, eo11⟩ := Kd.R_slice HO_6.out
    subst eo11
    go_wp2
    repeat (go_quiet (fail); try go_wp2)
    go_ret2
    exact ⟨by first | rfl | (simp [errW_none, errW_some] <;> rfl) | (simp [*, errW_none, errW_some] <;> rfl), by repeat (first | exact HB.out | apply bA | apply bN | apply bD)⟩

/-! ### platenref19_word: function 44 -/
mutual
def platenref19_word.l0 : Nat → List Int → Int → Int → Int → Bool → Int → Option (Int × Bool)
  | 0, _, _, _, _, _, _ => none
  | k + 1, x0, x1, x2, x3, x10, x11 => if x11 < x3 then (platenref19_word.j1 k x0 x1 x2 x3 x10 x11 x10) else (platenref19_word.j1 k x0 x1 x2 x3 x10 x11 false)
def platenref19_word.j1 : Nat → List Int → Int → Int → Int → Bool → Int → Bool → Option (Int × Bool)
  | 0, _, _, _, _, _, _, _ => none
  | k + 1, x0, x1, x2, x3, x10, x11, x17 => if x17 = true then (if x2 = 119 then ((platenref05_Forward.f k x0 x1).bind fun bt408 => (platenref19_word.l0 k x0 bt408.1 x2 x3 bt408.2 (wrap64 (x11 + 1)))) else (if x2 = 98 then ((platenref05_Back.f k x0 x1).bind fun bt410 => (platenref19_word.l0 k x0 bt410.1 x2 x3 bt410.2 (wrap64 (x11 + 1)))) else ((platenref05_Last.f k x0 x1).bind fun bt412 => (platenref19_word.l0 k x0 bt412.1 x2 x3 bt412.2 (wrap64 (x11 + 1)))))) else (some (x1, x10))
end
def platenref19_word.f (k : Nat) (l0 : List Int) (a1 : Int) (a2 : Int) (a3 : Int) : Option (Int × Bool) := platenref19_word.l0 k l0 a1 a2 a3 true 0
theorem platenref19_word.mono_l : ∀ k, (∀ y0 y1 y2 y3 y4 y5, LeO (platenref19_word.l0 k y0 y1 y2 y3 y4 y5) (platenref19_word.l0 (k + 1) y0 y1 y2 y3 y4 y5)) ∧ (∀ y0 y1 y2 y3 y4 y5 y6, LeO (platenref19_word.j1 k y0 y1 y2 y3 y4 y5 y6) (platenref19_word.j1 (k + 1) y0 y1 y2 y3 y4 y5 y6))
  | 0 => ⟨fun _ _ _ _ _ _ r h => by simp [platenref19_word.l0] at h, fun _ _ _ _ _ _ _ r h => by simp [platenref19_word.j1] at h⟩
  | k + 1 => by
    obtain ⟨ih0, ih1⟩ := platenref19_word.mono_l k
    refine ⟨?_, ?_⟩
    · intro y0 y1 y2 y3 y4 y5
      unfold platenref19_word.l0
      repeat' first
      | (with_reducible exact ih0 _ _ _ _ _ _)
      | (with_reducible exact ih1 _ _ _ _ _ _ _)
      | (with_reducible exact platenref05_Back.mono _ _ _)
      | (with_reducible exact platenref05_Forward.mono _ _ _)
      | (with_reducible exact platenref05_Last.mono _ _ _)
      | (with_reducible exact LeO.refl _)
      | (with_reducible exact LeO.none _)
      | (with_reducible refine LeO.ite ?_ ?_)
      | (with_reducible refine LeO.bind ?_ (fun _ => ?_))
      | exact ih0 _ _ _ _ _ _
      | exact ih1 _ _ _ _ _ _ _
      | exact platenref05_Back.mono _ _ _
      | exact platenref05_Forward.mono _ _ _
      | exact platenref05_Last.mono _ _ _
      | exact LeO.none _
      | refine LeO.ite ?_ ?_
      | refine LeO.bind ?_ (fun _ => ?_)
    · intro y0 y1 y2 y3 y4 y5 y6
      unfold platenref19_word.j1
      repeat' first
      | (with_reducible exact ih0 _ _ _ _ _ _)
      | (with_reducible exact ih1 _ _ _ _ _ _ _)
      | (with_reducible exact platenref05_Back.mono _ _ _)
      | (with_reducible exact platenref05_Forward.mono _ _ _)
      | (with_reducible exact platenref05_Last.mono _ _ _)
      | (with_reducible exact LeO.refl _)
      | (with_reducible exact LeO.none _)
      | (with_reducible refine LeO.ite ?_ ?_)
      | (with_reducible refine LeO.bind ?_ (fun _ => ?_))
      | exact ih0 _ _ _ _ _ _
      | exact ih1 _ _ _ _ _ _ _
      | exact platenref05_Back.mono _ _ _
      | exact platenref05_Forward.mono _ _ _
      | exact platenref05_Last.mono _ _ _
      | exact LeO.none _
      | refine LeO.ite ?_ ?_
      | refine LeO.bind ?_ (fun _ => ?_)
theorem platenref19_word.mono : ∀ a0 a1 a2 a3 k, LeO (platenref19_word.f k a0 a1 a2 a3) (platenref19_word.f (k + 1) a0 a1 a2 a3) := by
  intro a0 a1 a2 a3 k
  obtain ⟨ih0, ih1⟩ := platenref19_word.mono_l k
  unfold platenref19_word.f
  repeat' first
      | (with_reducible exact ih0 _ _ _ _ _ _)
      | (with_reducible exact ih1 _ _ _ _ _ _ _)
      | (with_reducible exact platenref05_Back.mono _ _ _)
      | (with_reducible exact platenref05_Forward.mono _ _ _)
      | (with_reducible exact platenref05_Last.mono _ _ _)
      | (with_reducible exact LeO.refl _)
      | (with_reducible exact LeO.none _)
      | (with_reducible refine LeO.ite ?_ ?_)
      | (with_reducible refine LeO.bind ?_ (fun _ => ?_))
      | exact ih0 _ _ _ _ _ _
      | exact ih1 _ _ _ _ _ _ _
      | exact platenref05_Back.mono _ _ _
      | exact platenref05_Forward.mono _ _ _
      | exact platenref05_Last.mono _ _ _
      | exact LeO.none _
      | refine LeO.ite ?_ ?_
      | refine LeO.bind ?_ (fun _ => ?_)
set_option maxHeartbeats 8000000 in
set_option maxRecDepth 100000 in
theorem platenref19_word.calls (k : Nat) (A0 : Option Addr) (c0 : Nat) (l0 : List Int) (a1 : Int) (a2 : Int) (a3 : Int) (r1 : Int) (r2 : Bool) (w : World) (hr0 : Kd.C (Kd.int .u8) w A0 l0.length l0) (hc0 : l0.length ≤ c0) (h : platenref19_word.f k l0 a1 a2 a3 = some (r1, r2)) :
  Calls Tryd.prog 44 #[.slice A0 l0.length c0, .int .i64 a1, .int .u8 a2, .int .i64 a3] w fun e w' => e = .returned (.tuple #[.int .i64 r1, .bool r2]) ∧ Below w.heap.size w w' := by
 have HR0 := Aside0.mk hr0
 have HC0 := Aside0.mk hc0
 clear hr0 hc0
 have HB := Aside0.mk (Below.refl w.heap.size w)
 have H : (platenref19_word.l0 k l0 a1 a2 a3 true 0) = some (r1, r2) := h
 clear h
 have H' := Aside0.mk H
 clear H
 go_enter Tryd.func44, Tryd.ntmps44
 go_wp2
 go_loopg [1, 10, 11] k (fun kq v1 v10 v11 w' => ∃ (x1_1 : Int) (x10_1 : Bool) (x11_1 : Int), v1 = .int .i64 x1_1 ∧ v10 = .bool x10_1 ∧ v11 = .int .i64 x11_1 ∧ Aside0 (platenref19_word.l0 kq l0 x1_1 a2 a3 x10_1 x11_1 = some (r1, r2)) ∧ Aside0 (kq ≤ k) ∧ Aside0 (Below w.heap.size w w'))
 case atStart => exact ⟨(a1), (true), (0), (by first | rfl | (simp; done) | (simp [*]; done)), (by first | rfl | (simp; done) | (simp [*]; done)), (by first | rfl | (simp; done) | (simp [*]; done)), H', ⟨Nat.le_refl _⟩, ⟨by repeat (first | exact HB.out | apply bA | apply bN | apply bD)⟩⟩
 case round =>
  clear H'
  try clear p2
  try clear c4
  obtain ⟨x1_1, x10_1, x11_1, rfl, rfl, rfl, HA, HK1, HB⟩ := hrel
  cases gk with
  | zero => exact absurd HA.out (by simp [platenref19_word.l0])
  | succ k1 =>
   have H := HA.out
   clear HA
   simp only [platenref19_word.l0] at H
   have HC5 := Aside0.mk H
   clear H
   go_upto_region 3 with (fail)
   go_cut [17] (fun v17 wc => ∃ (kq : Nat) (x17_4 : Bool), v17 = .bool x17_4 ∧ Aside0 (platenref19_word.j1 kq l0 x1_1 a2 a3 x10_1 x11_1 x17_4 = some (r1, r2)) ∧ Aside0 (kq ≤ k1) ∧ Aside0 (Below w.heap.size w wc))
   case first =>
    have H := HC5.out
    clear HC5
    by_cases c6 : x11_1 < a3
    ·rw [if_pos c6] at H
     have c6b0 : decide (x11_1 < a3) = true := decide_eq_true c6
     clear c6
     (first | rw [c6b0] | (simp only [i64_w, i32_w]; rw [c6b0]) | skip)
     have H' := Aside0.mk H
     clear H
     go_wp2
     go_meet
     case rel => exact ⟨_, (x10_1), (by first | rfl | (simp; done) | (simp [*]; done)), H', ⟨by have := HK1.out; first | omega | exact Nat.le_refl _⟩, ⟨by repeat (first | exact HB.out | apply bA | apply bN | apply bD)⟩⟩
    ·rw [if_neg c6] at H
     have c6b0 : decide (x11_1 < a3) = false := decide_eq_false c6
     clear c6
     (first | rw [c6b0] | (simp only [i64_w, i32_w]; rw [c6b0]) | skip)
     have H' := Aside0.mk H
     clear H
     go_wp2
     go_meet
     case rel => exact ⟨_, (false), (by first | rfl | (simp; done) | (simp [*]; done)), H', ⟨by have := HK1.out; first | omega | exact Nat.le_refl _⟩, ⟨by repeat (first | exact HB.out | apply bA | apply bN | apply bD)⟩⟩
   case rest =>
    clear HC5
    try clear p2
    try clear c4
    try clear c6
    try clear c6b0
    try clear p2
    obtain ⟨kq, x17_4, rfl, HA, HJ4, HB⟩ := hcut
    cases kq with
    | zero => exact absurd HA.out (by simp [platenref19_word.j1])
    | succ kj4 =>
     have H := HA.out
     clear HA
     simp only [platenref19_word.j1] at H
     by_cases c7 : x17_4 = true
     ·subst c7
      have H1 : (if a2 = 119 then ((platenref05_Forward.f kj4 l0 x1_1).bind fun bt408 => (platenref19_word.l0 kj4 l0 bt408.1 a2 a3 bt408.2 (wrap64 (x11_1 + 1)))) else (if a2 = 98 then ((platenref05_Back.f kj4 l0 x1_1).bind fun bt410 => (platenref19_word.l0 kj4 l0 bt410.1 a2 a3 bt410.2 (wrap64 (x11_1 + 1)))) else ((platenref05_Last.f kj4 l0 x1_1).bind fun bt412 => (platenref19_word.l0 kj4 l0 bt412.1 a2 a3 bt412.2 (wrap64 (x11_1 + 1)))))) = some (r1, r2) := by rw [if_pos rfl] at H; exact H
      clear H
      have H := H1
      clear H1
      by_cases c8 : a2 = 119
      ·rw [if_pos c8] at H
       have c8b0 : (a2 == 119) = true := beq_iff_eq.mpr c8
       have c8b1 : (a2 != 119) = false := bne_eq_false_iff_eq.mpr c8
       clear c8
       replace H := Option.bind_eq_some_iff.mp H
       obtain ⟨⟨t408, t409⟩, A90, H⟩ := H
       replace H : (platenref19_word.l0 kj4 l0 t408 a2 a3 t409 (wrap64 (x11_1 + 1))) = some (r1, r2) := H
       have A9 := Aside0.mk A90
       clear A90
       have H' := Aside0.mk H
       clear H
       go_wp2_with (first | ((with_reducible refine gate_callee (f := 17) rfl ?_); refine goesL_ (some 32) rfl rfl Tryd.func17 (by kernel_rfl) rfl #[.slice A0 l0.length c0, .int .i64 x1_1] rfl (by (try simp only [List.map_toArray, List.map_cons, List.map_nil]); first | done | rfl | (simp only [List.length_drop, List.length_take]; rfl)) ?_; (with_reducible refine (platenref05_Forward.calls kj4 _ _ l0 x1_1 t408 t409 _ ?side1 ?side2 A9.out).mono ?_); (case side1 => repeat (first | exact (Kd.C_below HR0.out HB.out) | (with_reducible refine Kd.C_alloc ?_ _) | (with_reducible refine Kd.C_drewN ?_ _) | (with_reducible refine Kd.C_drew ?_))); (case side2 => exact HC0.out); rintro e w10 ⟨rfl, hb⟩; refine ⟨_, rfl, ?_⟩; have n0_ := Aside0.mk (below_step (by repeat (first | exact HB.out | apply bA | apply bN | apply bD)) hb); clear HB; have HB := n0_; clear n0_; (try clear hb); (try clear hb2); (try clear hk); (try clear hi)))
       go_roundg kj4
       case measure => have := HK1.out; have := HJ4.out; omega
       case rel => exact ⟨(t408), (t409), (wrap64 (x11_1 + 1)), (by first | rfl | (simp; done) | (simp [*]; done)), (by first | rfl | (simp; done) | (simp [*]; done)), (by first | rfl | (simp; done) | (simp [*]; done)), H', ⟨by have := HK1.out; have := HJ4.out; omega⟩, ⟨by repeat (first | exact HB.out | apply bA | apply bN | apply bD)⟩⟩
      ·rw [if_neg c8] at H
       have c8b0 : (a2 == 119) = false := beq_eq_false_iff_ne.mpr c8
       have c8b1 : (a2 != 119) = true := bne_iff_ne.mpr c8
       by_cases c11 : a2 = 98
       ·rw [if_pos c11] at H
        have c11b0 : (a2 == 98) = true := beq_iff_eq.mpr c11
        have c11b1 : (a2 != 98) = false := bne_eq_false_iff_eq.mpr c11
        clear c11
        replace H := Option.bind_eq_some_iff.mp H
        obtain ⟨⟨t410, t411⟩, A120, H⟩ := H
        replace H : (platenref19_word.l0 kj4 l0 t410 a2 a3 t411 (wrap64 (x11_1 + 1))) = some (r1, r2) := H
        have A12 := Aside0.mk A120
        clear A120
        have H' := Aside0.mk H
        clear H
        go_wp2_with (first | ((with_reducible refine gate_callee (f := 18) rfl ?_); refine goesL_ (some 40) rfl rfl Tryd.func18 (by kernel_rfl) rfl #[.slice A0 l0.length c0, .int .i64 x1_1] rfl (by (try simp only [List.map_toArray, List.map_cons, List.map_nil]); first | done | rfl | (simp only [List.length_drop, List.length_take]; rfl)) ?_; (with_reducible refine (platenref05_Back.calls kj4 _ _ l0 x1_1 t410 t411 _ ?side1 ?side2 A12.out).mono ?_); (case side1 => repeat (first | exact (Kd.C_below HR0.out HB.out) | (with_reducible refine Kd.C_alloc ?_ _) | (with_reducible refine Kd.C_drewN ?_ _) | (with_reducible refine Kd.C_drew ?_))); (case side2 => exact HC0.out); rintro e w13 ⟨rfl, hb⟩; refine ⟨_, rfl, ?_⟩; have n0_ := Aside0.mk (below_step (by repeat (first | exact HB.out | apply bA | apply bN | apply bD)) hb); clear HB; have HB := n0_; clear n0_; (try clear hb); (try clear hb2); (try clear hk); (try clear hi)))
        go_roundg kj4
        case measure => have := HK1.out; have := HJ4.out; omega
        case rel => exact ⟨(t410), (t411), (wrap64 (x11_1 + 1)), (by first | rfl | (simp; done) | (simp [*]; done)), (by first | rfl | (simp; done) | (simp [*]; done)), (by first | rfl | (simp; done) | (simp [*]; done)), H', ⟨by have := HK1.out; have := HJ4.out; omega⟩, ⟨by repeat (first | exact HB.out | apply bA | apply bN | apply bD)⟩⟩
       ·rw [if_neg c11] at H
        have c11b0 : (a2 == 98) = false := beq_eq_false_iff_ne.mpr c11
        have c11b1 : (a2 != 98) = true := bne_iff_ne.mpr c11
        replace H := Option.bind_eq_some_iff.mp H
        obtain ⟨⟨t412, t413⟩, A140, H⟩ := H
        replace H : (platenref19_word.l0 kj4 l0 t412 a2 a3 t413 (wrap64 (x11_1 + 1))) = some (r1, r2) := H
        have A14 := Aside0.mk A140
        clear A140
        have H' := Aside0.mk H
        clear H
        go_wp2_with (first | ((with_reducible refine gate_callee (f := 19) rfl ?_); refine goesL_ (some 24) rfl rfl Tryd.func19 (by kernel_rfl) rfl #[.slice A0 l0.length c0, .int .i64 x1_1] rfl (by (try simp only [List.map_toArray, List.map_cons, List.map_nil]); first | done | rfl | (simp only [List.length_drop, List.length_take]; rfl)) ?_; (with_reducible refine (platenref05_Last.calls kj4 _ _ l0 x1_1 t412 t413 _ ?side1 ?side2 A14.out).mono ?_); (case side1 => repeat (first | exact (Kd.C_below HR0.out HB.out) | (with_reducible refine Kd.C_alloc ?_ _) | (with_reducible refine Kd.C_drewN ?_ _) | (with_reducible refine Kd.C_drew ?_))); (case side2 => exact HC0.out); rintro e w15 ⟨rfl, hb⟩; refine ⟨_, rfl, ?_⟩; have n0_ := Aside0.mk (below_step (by repeat (first | exact HB.out | apply bA | apply bN | apply bD)) hb); clear HB; have HB := n0_; clear n0_; (try clear hb); (try clear hb2); (try clear hk); (try clear hi)))
        go_roundg kj4
        case measure => have := HK1.out; have := HJ4.out; omega
        case rel => exact ⟨(t412), (t413), (wrap64 (x11_1 + 1)), (by first | rfl | (simp; done) | (simp [*]; done)), (by first | rfl | (simp; done) | (simp [*]; done)), (by first | rfl | (simp; done) | (simp [*]; done)), H', ⟨by have := HK1.out; have := HJ4.out; omega⟩, ⟨by repeat (first | exact HB.out | apply bA | apply bN | apply bD)⟩⟩
     ·replace c7 := Bool.eq_false_iff.mpr c7
      subst c7
      have H1 : (some (x1_1, x10_1)) = some (r1, r2) := by rw [if_neg (show ¬ (false = true) by decide)] at H; exact H
      clear H
      have H := H1
      clear H1
      simp only [Option.some.injEq, Prod.mk.injEq] at H
      obtain ⟨rfl, rfl⟩ := H
      go_wp2
      go_ret2
      exact ⟨by first | rfl | (simp [errW_none, errW_some] <;> rfl) | (simp [*, errW_none, errW_some] <;> rfl), by repeat (first | exact HB.out | apply bA | apply bN | apply bD)⟩

/-! ### platenref03_Bare: function 78 -/
def platenref03_Bare.f (k : Nat) (l0 : List Int) : Option (Bool) := (platenref03_Indent.f k l0).bind fun t414 => (some (t414 == (l0.length : Int)))
theorem platenref03_Bare.mono : ∀ a0 k, LeO (platenref03_Bare.f k a0) (platenref03_Bare.f (k + 1) a0) := by
  intro a0 k
  unfold platenref03_Bare.f
  repeat' first
      | (with_reducible exact platenref03_Indent.mono _ _)
      | (with_reducible exact LeO.refl _)
      | (with_reducible exact LeO.none _)
      | (with_reducible refine LeO.ite ?_ ?_)
      | (with_reducible refine LeO.bind ?_ (fun _ => ?_))
      | exact platenref03_Indent.mono _ _
      | exact LeO.none _
      | refine LeO.ite ?_ ?_
      | refine LeO.bind ?_ (fun _ => ?_)
set_option maxHeartbeats 8000000 in
set_option maxRecDepth 100000 in
theorem platenref03_Bare.calls (k : Nat) (A0 : Option Addr) (c0 : Nat) (l0 : List Int) (r : Bool) (w : World) (hr0 : Kd.C (Kd.int .u8) w A0 l0.length l0) (hc0 : l0.length ≤ c0) (h : platenref03_Bare.f k l0 = some r) :
    Calls Tryd.prog 78 #[.slice A0 l0.length c0] w fun e w' => e = .returned (.bool r) ∧ Drawn0 w w' := by
  have HR0 := Aside0.mk hr0
  have HC0 := Aside0.mk hc0
  clear hr0 hc0
  have H : ((platenref03_Indent.f k l0).bind fun t414 => (some (t414 == (l0.length : Int)))) = some r := h
  clear h
  replace H := Option.bind_eq_some_iff.mp H
  obtain ⟨t414, A20, H⟩ := H
  replace H : (some (t414 == (l0.length : Int))) = some r := H
  have A2 := Aside0.mk A20
  clear A20
  obtain rfl := Option.some.inj H
  go_enter Tryd.func78, Tryd.ntmps78
  go_wp2_with (first | ((with_reducible refine gate_callee (f := 64) rfl ?_); refine goesL_ (some 4) rfl rfl Tryd.func64 (by kernel_rfl) rfl #[.slice A0 l0.length c0] rfl (by (try simp only [List.map_toArray, List.map_cons, List.map_nil]); first | done | rfl | (simp only [List.length_drop, List.length_take]; rfl)) ?_; (with_reducible refine (platenref03_Indent.calls k _ _ l0 t414 _ ?side1 ?side2 A2.out).mono ?_); (case side1 => repeat (first | exact HR0.out | (with_reducible refine Kd.C_alloc ?_ _) | (with_reducible refine Kd.C_drewN ?_ _) | (with_reducible refine Kd.C_drew ?_))); (case side2 => exact HC0.out); rintro e w' ⟨rfl, ⟨nd, rfl⟩⟩; refine ⟨_, rfl, ?_⟩))
  go_ret
  exact ⟨by first | rfl | (simp; done) | (simp [*]; done), by repeat (first | exact Drawn0.refl _ | apply Drawn0.step)⟩

end Go.Proofs.YtloafpnniooliaaDoor.Pa
