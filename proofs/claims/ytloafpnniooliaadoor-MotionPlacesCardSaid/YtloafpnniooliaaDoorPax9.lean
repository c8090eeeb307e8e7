-- Laid by a program of this claim's own (wip/tools/mkprint.py, ext.py): walks of the functions that the statements reach.
import Derived.Test.YtloafpnniooliaaDoorPax0
import Derived.Test.YtloafpnniooliaaDoorPax4
import Derived.Test.YtloafpnniooliaaDoorPax5
import Derived.Test.YtloafpnniooliaaDoorPax6
import Derived.Test.YtloafpnniooliaaDoorPax7
import Derived.Test.YtloafpnniooliaaDoorPax8
namespace Go.Proofs.YtloafpnniooliaaDoor.Pa
open Go.RowKit Go.Proofs.YtloafpnniooliaaDoor.Ext Go.Proofs.YtloafpnniooliaaDoorW.PrintWords Go.Proofs.YtloafpnniooliaaDoorW.PrintLast Go.Proofs.YtloafpnniooliaaDoorW.PrintMore
attribute [local go_sem] max2_int min2_int max_two min_two max_three min_three max_four min_four   -- for this text's walks alone
set_option linter.unusedVariables false
set_option linter.unusedSimpArgs false

/-! ### motion_step: function 24 -/
mutual
def motion_step.j0 : Nat → List Int → Int → Int → Int → Bool → Int → Int → Int → Option (Int × Int)
  | 0, _, _, _, _, _, _, _, _ => none
  | k + 1, x0, x1, x3, x13, x14, x235000, x235001, x235002 => if x14 = true then ((motion_within.f k x0 x1 x235000 x235001 x235002).bind fun bt235 => (if bt235.2 = true then (some (bt235.1, 0)) else (some (0, 2)))) else (if x13 = 106 then (motion_step.j1 k x0 x1 x3 x13 (x13 == 106) x235000 x235001 x235002) else (if x13 = 107 then (motion_step.j1 k x0 x1 x3 x13 (x13 == 107) x235000 x235001 x235002) else (motion_step.j1 k x0 x1 x3 x13 (x13 == 36) x235000 x235001 x235002)))
def motion_step.j1 : Nat → List Int → Int → Int → Int → Bool → Int → Int → Int → Option (Int × Int)
  | 0, _, _, _, _, _, _, _, _ => none
  | k + 1, x0, x1, x3, x13, x26, x235000, x235001, x235002 => if x26 = true then ((motion_down.f k x0 x1 x235000 x235001 x235002 x3).bind fun bt237 => (if bt237.2 = true then (some (bt237.1, 0)) else (some (0, 2)))) else (if x13 = 119 then ((words_Forward.f k x0 x1).bind fun bt239 => (if bt239.2 = true then (some (bt239.1, 0)) else (some (0, 2)))) else (if x13 = 98 then ((words_Back.f k x0 x1).bind fun bt241 => (if bt241.2 = true then (some (bt241.1, 0)) else (some (0, 2)))) else (if x13 = 101 then ((words_Last.f k x0 x1).bind fun bt243 => (if bt243.2 = true then (some (bt243.1, 0)) else (some (0, 2)))) else (if x13 = 123 then (motion_step.j2 k x0 x1 x13 (x13 == 123) x235000 x235001 x235002) else (motion_step.j2 k x0 x1 x13 (x13 == 125) x235000 x235001 x235002)))))
def motion_step.j2 : Nat → List Int → Int → Int → Bool → Int → Int → Int → Option (Int × Int)
  | 0, _, _, _, _, _, _, _ => none
  | k + 1, x0, x1, x13, x62, x235000, x235001, x235002 => if x62 = true then ((motion_paragraph.f k x0 x1 x235000 x235001 x235002).bind fun bt245 => (if bt245.2 = true then (some (bt245.1, 0)) else (some (0, 2)))) else (if x13 = 102 then (motion_step.j3 k x0 x1 (x13 == 102) x235000 x235001 x235002) else (motion_step.j3 k x0 x1 (x13 == 116) x235000 x235001 x235002))
def motion_step.j3 : Nat → List Int → Int → Bool → Int → Int → Int → Option (Int × Int)
  | 0, _, _, _, _, _, _ => none
  | k + 1, x0, x1, x72, x235000, x235001, x235002 => if x72 = true then ((motion_find.f k x0 x1 x235000 x235001 x235002).bind fun bt247 => (if bt247.2 = true then (some (bt247.1, 0)) else (some (0, 2)))) else (some (0, 3))
end
def motion_step.f (k : Nat) (l0 : List Int) (a1 : Int) (a2_0 : Int) (a2_1 : Int) (a2_2 : Int) (a3 : Int) : Option (Int × Int) := if a2_0 = 104 then (motion_step.j0 k l0 a1 a3 a2_0 (a2_0 == 104) a2_0 a2_1 a2_2) else (if a2_0 = 108 then (motion_step.j0 k l0 a1 a3 a2_0 (a2_0 == 108) a2_0 a2_1 a2_2) else (if a2_0 = 48 then (motion_step.j0 k l0 a1 a3 a2_0 (a2_0 == 48) a2_0 a2_1 a2_2) else (motion_step.j0 k l0 a1 a3 a2_0 (a2_0 == 94) a2_0 a2_1 a2_2)))
theorem motion_step.mono_l : ∀ k, (∀ y0 y1 y2 y3 y4 y5 y6 y7, LeO (motion_step.j0 k y0 y1 y2 y3 y4 y5 y6 y7) (motion_step.j0 (k + 1) y0 y1 y2 y3 y4 y5 y6 y7)) ∧ (∀ y0 y1 y2 y3 y4 y5 y6 y7, LeO (motion_step.j1 k y0 y1 y2 y3 y4 y5 y6 y7) (motion_step.j1 (k + 1) y0 y1 y2 y3 y4 y5 y6 y7)) ∧ (∀ y0 y1 y2 y3 y4 y5 y6, LeO (motion_step.j2 k y0 y1 y2 y3 y4 y5 y6) (motion_step.j2 (k + 1) y0 y1 y2 y3 y4 y5 y6)) ∧ (∀ y0 y1 y2 y3 y4 y5, LeO (motion_step.j3 k y0 y1 y2 y3 y4 y5) (motion_step.j3 (k + 1) y0 y1 y2 y3 y4 y5))
  | 0 => ⟨fun _ _ _ _ _ _ _ _ r h => by simp [motion_step.j0] at h, fun _ _ _ _ _ _ _ _ r h => by simp [motion_step.j1] at h, fun _ _ _ _ _ _ _ r h => by simp [motion_step.j2] at h, fun _ _ _ _ _ _ r h => by simp [motion_step.j3] at h⟩
  | k + 1 => by
    obtain ⟨ih0, ih1, ih2, ih3⟩ := motion_step.mono_l k
    refine ⟨?_, ?_, ?_, ?_⟩
    · intro y0 y1 y2 y3 y4 y5 y6 y7
      unfold motion_step.j0
      repeat' first
      | (with_reducible exact ih0 _ _ _ _ _ _ _ _)
      | (with_reducible exact ih1 _ _ _ _ _ _ _ _)
      | (with_reducible exact ih2 _ _ _ _ _ _ _)
      | (with_reducible exact ih3 _ _ _ _ _ _)
      | (with_reducible exact motion_down.mono _ _ _ _ _ _ _)
      | (with_reducible exact motion_find.mono _ _ _ _ _ _)
      | (with_reducible exact motion_paragraph.mono _ _ _ _ _ _)
      | (with_reducible exact motion_within.mono _ _ _ _ _ _)
      | (with_reducible exact words_Back.mono _ _ _)
      | (with_reducible exact words_Forward.mono _ _ _)
      | (with_reducible exact words_Last.mono _ _ _)
      | (with_reducible exact LeO.refl _)
      | (with_reducible exact LeO.none _)
      | (with_reducible refine LeO.ite ?_ ?_)
      | (with_reducible refine LeO.bind ?_ (fun _ => ?_))
      | exact ih0 _ _ _ _ _ _ _ _
      | exact ih1 _ _ _ _ _ _ _ _
      | exact ih2 _ _ _ _ _ _ _
      | exact ih3 _ _ _ _ _ _
      | exact motion_down.mono _ _ _ _ _ _ _
      | exact motion_find.mono _ _ _ _ _ _
      | exact motion_paragraph.mono _ _ _ _ _ _
      | exact motion_within.mono _ _ _ _ _ _
      | exact words_Back.mono _ _ _
      | exact words_Forward.mono _ _ _
      | exact words_Last.mono _ _ _
      | exact LeO.none _
      | refine LeO.ite ?_ ?_
      | refine LeO.bind ?_ (fun _ => ?_)
    · intro y0 y1 y2 y3 y4 y5 y6 y7
      unfold motion_step.j1
      repeat' first
      | (with_reducible exact ih0 _ _ _ _ _ _ _ _)
      | (with_reducible exact ih1 _ _ _ _ _ _ _ _)
      | (with_reducible exact ih2 _ _ _ _ _ _ _)
      | (with_reducible exact ih3 _ _ _ _ _ _)
      | (with_reducible exact motion_down.mono _ _ _ _ _ _ _)
      | (with_reducible exact motion_find.mono _ _ _ _ _ _)
      | (with_reducible exact motion_paragraph.mono _ _ _ _ _ _)
      | (with_reducible exact motion_within.mono _ _ _ _ _ _)
      | (with_reducible exact words_Back.mono _ _ _)
      | (with_reducible exact words_Forward.mono _ _ _)
      | (with_reducible exact words_Last.mono _ _ _)
      | (with_reducible exact LeO.refl _)
      | (with_reducible exact LeO.none _)
      | (with_reducible refine LeO.ite ?_ ?_)
      | (with_reducible refine LeO.bind ?_ (fun _ => ?_))
      | exact ih0 _ _ _ _ _ _ _ _
      | exact ih1 _ _ _ _ _ _ _ _
      | exact ih2 _ _ _ _ _ _ _
      | exact ih3 _ _ _ _ _ _
      | exact motion_down.mono _ _ _ _ _ _ _
      | exact motion_find.mono _ _ _ _ _ _
      | exact motion_paragraph.mono _ _ _ _ _ _
      | exact motion_within.mono _ _ _ _ _ _
      | exact words_Back.mono _ _ _
      | exact words_Forward.mono _ _ _
      | exact words_Last.mono _ _ _
      | exact LeO.none _
      | refine LeO.ite ?_ ?_
      | refine LeO.bind ?_ (fun _ => ?_)
    · intro y0 y1 y2 y3 y4 y5 y6
      unfold motion_step.j2
      repeat' first
      | (with_reducible exact ih0 _ _ _ _ _ _ _ _)
      | (with_reducible exact ih1 _ _ _ _ _ _ _ _)
      | (with_reducible exact ih2 _ _ _ _ _ _ _)
      | (with_reducible exact ih3 _ _ _ _ _ _)
      | (with_reducible exact motion_down.mono _ _ _ _ _ _ _)
      | (with_reducible exact motion_find.mono _ _ _ _ _ _)
      | (with_reducible exact motion_paragraph.mono _ _ _ _ _ _)
      | (with_reducible exact motion_within.mono _ _ _ _ _ _)
      | (with_reducible exact words_Back.mono _ _ _)
      | (with_reducible exact words_Forward.mono _ _ _)
      | (with_reducible exact words_Last.mono _ _ _)
      | (with_reducible exact LeO.refl _)
      | (with_reducible exact LeO.none _)
      | (with_reducible refine LeO.ite ?_ ?_)
      | (with_reducible refine LeO.bind ?_ (fun _ => ?_))
      | exact ih0 _ _ _ _ _ _ _ _
      | exact ih1 _ _ _ _ _ _ _ _
      | exact ih2 _ _ _ _ _ _ _
      | exact ih3 _ _ _ _ _ _
      | exact motion_down.mono _ _ _ _ _ _ _
      | exact motion_find.mono _ _ _ _ _ _
      | exact motion_paragraph.mono _ _ _ _ _ _
      | exact motion_within.mono _ _ _ _ _ _
      | exact words_Back.mono _ _ _
      | exact words_Forward.mono _ _ _
      | exact words_Last.mono _ _ _
      | exact LeO.none _
      | refine LeO.ite ?_ ?_
      | refine LeO.bind ?_ (fun _ => ?_)
    · intro y0 y1 y2 y3 y4 y5
      unfold motion_step.j3
      repeat' first
      | (with_reducible exact ih0 _ _ _ _ _ _ _ _)
      | (with_reducible exact ih1 _ _ _ _ _ _ _ _)
      | (with_reducible exact ih2 _ _ _ _ _ _ _)
      | (with_reducible exact ih3 _ _ _ _ _ _)
      | (with_reducible exact motion_down.mono _ _ _ _ _ _ _)
      | (with_reducible exact motion_find.mono _ _ _ _ _ _)
      | (with_reducible exact motion_paragraph.mono _ _ _ _ _ _)
      | (with_reducible exact motion_within.mono _ _ _ _ _ _)
      | (with_reducible exact words_Back.mono _ _ _)
      | (with_reducible exact words_Forward.mono _ _ _)
      | (with_reducible exact words_Last.mono _ _ _)
      | (with_reducible exact LeO.refl _)
      | (with_reducible exact LeO.none _)
      | (with_reducible refine LeO.ite ?_ ?_)
      | (with_reducible refine LeO.bind ?_ (fun _ => ?_))
      | exact ih0 _ _ _ _ _ _ _ _
      | exact ih1 _ _ _ _ _ _ _ _
      | exact ih2 _ _ _ _ _ _ _
      | exact ih3 _ _ _ _ _ _
      | exact motion_down.mono _ _ _ _ _ _ _
      | exact motion_find.mono _ _ _ _ _ _
      | exact motion_paragraph.mono _ _ _ _ _ _
      | exact motion_within.mono _ _ _ _ _ _
      | exact words_Back.mono _ _ _
      | exact words_Forward.mono _ _ _
      | exact words_Last.mono _ _ _
      | exact LeO.none _
      | refine LeO.ite ?_ ?_
      | refine LeO.bind ?_ (fun _ => ?_)
theorem motion_step.mono : ∀ a0 a1 a2 a3 a4 a5 k, LeO (motion_step.f k a0 a1 a2 a3 a4 a5) (motion_step.f (k + 1) a0 a1 a2 a3 a4 a5) := by
  intro a0 a1 a2 a3 a4 a5 k
  obtain ⟨ih0, ih1, ih2, ih3⟩ := motion_step.mono_l k
  unfold motion_step.f
  repeat' first
      | (with_reducible exact ih0 _ _ _ _ _ _ _ _)
      | (with_reducible exact ih1 _ _ _ _ _ _ _ _)
      | (with_reducible exact ih2 _ _ _ _ _ _ _)
      | (with_reducible exact ih3 _ _ _ _ _ _)
      | (with_reducible exact motion_down.mono _ _ _ _ _ _ _)
      | (with_reducible exact motion_find.mono _ _ _ _ _ _)
      | (with_reducible exact motion_paragraph.mono _ _ _ _ _ _)
      | (with_reducible exact motion_within.mono _ _ _ _ _ _)
      | (with_reducible exact words_Back.mono _ _ _)
      | (with_reducible exact words_Forward.mono _ _ _)
      | (with_reducible exact words_Last.mono _ _ _)
      | (with_reducible exact LeO.refl _)
      | (with_reducible exact LeO.none _)
      | (with_reducible refine LeO.ite ?_ ?_)
      | (with_reducible refine LeO.bind ?_ (fun _ => ?_))
      | exact ih0 _ _ _ _ _ _ _ _
      | exact ih1 _ _ _ _ _ _ _ _
      | exact ih2 _ _ _ _ _ _ _
      | exact ih3 _ _ _ _ _ _
      | exact motion_down.mono _ _ _ _ _ _ _
      | exact motion_find.mono _ _ _ _ _ _
      | exact motion_paragraph.mono _ _ _ _ _ _
      | exact motion_within.mono _ _ _ _ _ _
      | exact words_Back.mono _ _ _
      | exact words_Forward.mono _ _ _
      | exact words_Last.mono _ _ _
      | exact LeO.none _
      | refine LeO.ite ?_ ?_
      | refine LeO.bind ?_ (fun _ => ?_)
set_option maxHeartbeats 8000000 in
set_option maxRecDepth 100000 in
theorem motion_step.calls (k : Nat) (A0 : Option Addr) (c0 : Nat) (l0 : List Int) (a1 : Int) (a2_0 : Int) (a2_1 : Int) (a2_2 : Int) (a3 : Int) (r1 : Int) (r2 : Int) (w : World) (hT : Tabs w) (hr0 : Kd.C (Kd.int .u8) w A0 l0.length l0) (hc0 : l0.length ≤ c0) (h : motion_step.f k l0 a1 a2_0 a2_1 a2_2 a3 = some (r1, r2)) :
  Calls Tryd.prog 24 #[.slice A0 l0.length c0, .int .i64 a1, .agg #[.int .u8 a2_0, .int .u8 a2_1, .int .i64 a2_2], .int .i64 a3] w fun e w' => e = .returned (.tuple #[.int .i64 r1, .int .i64 r2]) ∧ Below w.heap.size w w' := by
 have hu30 := Tryd.underlying30
 have HR0 := Aside0.mk hr0
 have HC0 := Aside0.mk hc0
 clear hr0 hc0
 have HB := Aside0.mk (Below.refl w.heap.size w)
 have HT := Aside0.mk hT
 clear hT
 have H : (if a2_0 = 104 then (motion_step.j0 k l0 a1 a3 a2_0 (a2_0 == 104) a2_0 a2_1 a2_2) else (if a2_0 = 108 then (motion_step.j0 k l0 a1 a3 a2_0 (a2_0 == 108) a2_0 a2_1 a2_2) else (if a2_0 = 48 then (motion_step.j0 k l0 a1 a3 a2_0 (a2_0 == 48) a2_0 a2_1 a2_2) else (motion_step.j0 k l0 a1 a3 a2_0 (a2_0 == 94) a2_0 a2_1 a2_2)))) = some (r1, r2) := h
 clear h
 have HC5 := Aside0.mk H
 clear H
 go_enter Tryd.func24, Tryd.ntmps24
 go_upto_if 14 with (first | ((with_reducible refine gate_dst (N := 6) rfl ?_); refine box_event ?hg (N := 6) ?hd (cs := #[.int .u8 a2_0, .int .u8 a2_1, .int .i64 a2_2]) (t := 30) ?hr ?_; (case hd => rfl); (case hg => rfl); (case hr => first | (go_simp; done) | (go_simp; rfl)); intro gb234 hg w6 hbox hb; have n0_ := Aside0.mk (below_step (by repeat (first | exact HB.out | apply bA | apply bN | apply bD)) hb); have n1_ := Aside0.mk (hbox); have n2_ := Aside0.mk ((by rw [hg]; exact (below_size (by repeat (first | exact HB.out | apply bA | apply bN | apply bD))) : w.heap.size ≤ gb234)); have n3_ := Aside0.mk ((by rw [hg]; exact (below_size (by repeat (first | exact HB.out | apply bA | apply bN | apply bD))) : w.heap.size ≤ gb234)); clear HB; have HB := n0_; have BK234 := n1_; have GW234 := n2_; have GE234 := n3_; clear n0_ n1_ n2_ n3_; clear hb hbox hg; have hcz7_0 : w6.cell? ⟨gb234, 0, none⟩ = some (.int .u8 a2_0) := (blk_cell BK234.out 0).trans rfl; have hcz7_1 : w6.cell? ⟨gb234, 1, none⟩ = some (.int .u8 a2_1) := (blk_cell BK234.out 1).trans rfl; have hcz7_2 : w6.cell? ⟨gb234, 2, none⟩ = some (.int .i64 a2_2) := (blk_cell BK234.out 2).trans rfl; have hfz7_0 := blk_frozen BK234.out 0; have hfz7_1 := blk_frozen BK234.out 1; have hfz7_2 := blk_frozen BK234.out 2))
 (try simp only [Act.put, zT, z0, zS])
 go_cut [14] (fun v14 wc => ∃ (kq : Nat) (x14_4 : Bool), v14 = .bool x14_4 ∧ Aside0 (motion_step.j0 kq l0 a1 a3 a2_0 x14_4 a2_0 a2_1 a2_2 = some (r1, r2)) ∧ Aside0 (kq ≤ k) ∧ Aside0 (wc.heap[gb234]? = some (.cells #[.int .u8 a2_0, .int .u8 a2_1, .int .i64 a2_2] 30 (0, 0))) ∧ Aside0 (Below w.heap.size w wc))
 case first =>
  have H := HC5.out
  clear HC5
  by_cases c8 : a2_0 = 104
  ·rw [if_pos c8] at H
   have c8b0 : (a2_0 == 104) = true := beq_iff_eq.mpr c8
   have c8b1 : (a2_0 != 104) = false := bne_eq_false_iff_eq.mpr c8
   clear c8
   (first | rw [c8b0] | (simp only [i64_w, i32_w]; rw [c8b0]) | skip)
   have H' := Aside0.mk H
   clear H
   go_wp2
   go_meet
   case rel => exact ⟨_, ((a2_0 == 104)), (by first | rfl | (simp; done) | (simp [*]; done)), H', ⟨by first | omega | exact Nat.le_refl _⟩, ⟨by (with_reducible repeat (first | refine kN ?_ _ | refine kD ?_ | refine kA ?_ _)); exact BK234.out⟩, ⟨by repeat (first | exact HB.out | apply bA | apply bN | apply bD | refine bS ?_ GE234.out)⟩⟩
  ·rw [if_neg c8] at H
   have c8b0 : (a2_0 == 104) = false := beq_eq_false_iff_ne.mpr c8
   have c8b1 : (a2_0 != 104) = true := bne_iff_ne.mpr c8
   (first | rw [c8b0] | (simp only [i64_w, i32_w]; rw [c8b0]) | skip)
   by_cases c9 : a2_0 = 108
   ·rw [if_pos c9] at H
    have c9b0 : (a2_0 == 108) = true := beq_iff_eq.mpr c9
    have c9b1 : (a2_0 != 108) = false := bne_eq_false_iff_eq.mpr c9
    clear c9
    have H' := Aside0.mk H
    clear H
    go_wp2
    go_meet
    case rel => exact ⟨_, ((a2_0 == 108)), (by first | rfl | (simp; done) | (simp [*]; done)), H', ⟨by first | omega | exact Nat.le_refl _⟩, ⟨by (with_reducible repeat (first | refine kN ?_ _ | refine kD ?_ | refine kA ?_ _)); exact BK234.out⟩, ⟨by repeat (first | exact HB.out | apply bA | apply bN | apply bD | refine bS ?_ GE234.out)⟩⟩
   ·rw [if_neg c9] at H
    have c9b0 : (a2_0 == 108) = false := beq_eq_false_iff_ne.mpr c9
    have c9b1 : (a2_0 != 108) = true := bne_iff_ne.mpr c9
    by_cases c10 : a2_0 = 48
    ·rw [if_pos c10] at H
     have c10b0 : (a2_0 == 48) = true := beq_iff_eq.mpr c10
     have c10b1 : (a2_0 != 48) = false := bne_eq_false_iff_eq.mpr c10
     clear c10
     have H' := Aside0.mk H
     clear H
     go_wp2
     go_meet
     case rel => exact ⟨_, ((a2_0 == 48)), (by first | rfl | (simp; done) | (simp [*]; done)), H', ⟨by first | omega | exact Nat.le_refl _⟩, ⟨by (with_reducible repeat (first | refine kN ?_ _ | refine kD ?_ | refine kA ?_ _)); exact BK234.out⟩, ⟨by repeat (first | exact HB.out | apply bA | apply bN | apply bD | refine bS ?_ GE234.out)⟩⟩
    ·rw [if_neg c10] at H
     have c10b0 : (a2_0 == 48) = false := beq_eq_false_iff_ne.mpr c10
     have c10b1 : (a2_0 != 48) = true := bne_iff_ne.mpr c10
     have H' := Aside0.mk H
     clear H
     go_wp2
     go_meet
     case rel => exact ⟨_, ((a2_0 == 94)), (by first | rfl | (simp; done) | (simp [*]; done)), H', ⟨by first | omega | exact Nat.le_refl _⟩, ⟨by (with_reducible repeat (first | refine kN ?_ _ | refine kD ?_ | refine kA ?_ _)); exact BK234.out⟩, ⟨by repeat (first | exact HB.out | apply bA | apply bN | apply bD | refine bS ?_ GE234.out)⟩⟩
 case rest =>
  clear HC5
  try clear c1
  try clear c2
  try clear p2
  try clear c8
  try clear c8b0
  try clear c8b1
  try clear c9
  try clear c9b0
  try clear c9b1
  try clear c10
  try clear c10b0
  try clear c10b1
  try clear hcz7_0
  try clear hcz7_1
  try clear hcz7_2
  try clear hfz7_0
  try clear hfz7_1
  try clear hfz7_2
  obtain ⟨kq, x14_4, rfl, HA, HJ4, BK234, HB⟩ := hcut
  cases kq with
  | zero => exact absurd HA.out (by simp [motion_step.j0])
  | succ kj4 =>
   have H := HA.out
   clear HA
   simp only [motion_step.j0] at H
   by_cases c11 : x14_4 = true
   ·subst c11
    have H1 : ((motion_within.f kj4 l0 a1 a2_0 a2_1 a2_2).bind fun bt235 => (if bt235.2 = true then (some (bt235.1, 0)) else (some (0, 2)))) = some (r1, r2) := by rw [if_pos rfl] at H; exact H
    clear H
    have H := H1
    clear H1
    replace H := Option.bind_eq_some_iff.mp H
    obtain ⟨⟨t235, t236⟩, A120, H⟩ := H
    replace H : (if t236 = true then (some (t235, 0)) else (some (0, 2))) = some (r1, r2) := H
    have A12 := Aside0.mk A120
    clear A120
    by_cases c13 : t236 = true
    ·subst c13
     have H1 : (some (t235, 0)) = some (r1, r2) := by rw [if_pos rfl] at H; exact H
     clear H
     have H := H1
     clear H1
     simp only [Option.some.injEq, Prod.mk.injEq] at H
     obtain ⟨rfl, rfl⟩ := H
     have hcz14_0 : wc.cell? ⟨gb234, 0, none⟩ = some (.int .u8 a2_0) := (blk_cell BK234.out 0).trans rfl
     have hcz14_1 : wc.cell? ⟨gb234, 1, none⟩ = some (.int .u8 a2_1) := (blk_cell BK234.out 1).trans rfl
     have hcz14_2 : wc.cell? ⟨gb234, 2, none⟩ = some (.int .i64 a2_2) := (blk_cell BK234.out 2).trans rfl
     have hfz14_0 := blk_frozen BK234.out 0
     have hfz14_1 := blk_frozen BK234.out 1
     have hfz14_2 := blk_frozen BK234.out 2
     go_wp2_with (first | ((with_reducible refine gate_callee (f := 35) rfl ?_); refine goesL_ (some 23) rfl rfl Tryd.func35 (by kernel_rfl) rfl #[.slice A0 l0.length c0, .int .i64 a1, .agg #[.int .u8 a2_0, .int .u8 a2_1, .int .i64 a2_2]] rfl (by (try simp only [List.map_toArray, List.map_cons, List.map_nil]); first | done | rfl | (simp only [List.length_drop, List.length_take]; rfl)) ?_; (with_reducible refine (motion_within.calls kj4 _ _ l0 a1 a2_0 a2_1 a2_2 t235 true _ ?side3 ?side1 ?side2 A12.out).mono ?_); (case side1 => repeat (first | exact (Kd.C_below HR0.out HB.out) | (with_reducible refine Kd.C_alloc ?_ _) | (with_reducible refine Kd.C_drewN ?_ _) | (with_reducible refine Kd.C_drew ?_))); (case side2 => exact HC0.out); (case side3 => exact Tabs.below HT.out (by repeat (first | exact HB.out | apply bA | apply bN | apply bD | refine bS ?_ GE234.out))); rintro e w15 ⟨rfl, hb⟩; refine ⟨_, rfl, ?_⟩; have n0_ := Aside0.mk (blk_below (g := gb234) (o := .cells #[.int .u8 a2_0, .int .u8 a2_1, .int .i64 a2_2] 30 (0, 0)) (by (with_reducible repeat (first | refine kN ?_ _ | refine kD ?_ | refine kA ?_ _)); exact BK234.out) hb); have n1_ := Aside0.mk (below_step (by repeat (first | exact HB.out | apply bA | apply bN | apply bD | refine bS ?_ GE234.out)) hb); clear BK234; clear HB; have BK234 := n0_; have HB := n1_; clear n0_ n1_; (try clear hb); (try clear hb2); (try clear hk); (try clear hi)))
     go_ret2
     exact ⟨by first | rfl | (simp [errW_none, errW_some] <;> rfl) | (simp [*, errW_none, errW_some] <;> rfl), by repeat (first | exact HB.out | apply bA | apply bN | apply bD | refine bS ?_ GE234.out)⟩
    ·replace c13 := Bool.eq_false_iff.mpr c13
     subst c13
     have H1 : (some (0, 2)) = some (r1, r2) := by rw [if_neg (show ¬ (false = true) by decide)] at H; exact H
     clear H
     have H := H1
     clear H1
     simp only [Option.some.injEq, Prod.mk.injEq] at H
     obtain ⟨rfl, rfl⟩ := H
     have hcz16_0 : wc.cell? ⟨gb234, 0, none⟩ = some (.int .u8 a2_0) := (blk_cell BK234.out 0).trans rfl
     have hcz16_1 : wc.cell? ⟨gb234, 1, none⟩ = some (.int .u8 a2_1) := (blk_cell BK234.out 1).trans rfl
     have hcz16_2 : wc.cell? ⟨gb234, 2, none⟩ = some (.int .i64 a2_2) := (blk_cell BK234.out 2).trans rfl
     have hfz16_0 := blk_frozen BK234.out 0
     have hfz16_1 := blk_frozen BK234.out 1
     have hfz16_2 := blk_frozen BK234.out 2
     go_wp2_with (first | ((with_reducible refine gate_callee (f := 35) rfl ?_); refine goesL_ (some 23) rfl rfl Tryd.func35 (by kernel_rfl) rfl #[.slice A0 l0.length c0, .int .i64 a1, .agg #[.int .u8 a2_0, .int .u8 a2_1, .int .i64 a2_2]] rfl (by (try simp only [List.map_toArray, List.map_cons, List.map_nil]); first | done | rfl | (simp only [List.length_drop, List.length_take]; rfl)) ?_; (with_reducible refine (motion_within.calls kj4 _ _ l0 a1 a2_0 a2_1 a2_2 t235 false _ ?side3 ?side1 ?side2 A12.out).mono ?_); (case side1 => repeat (first | exact (Kd.C_below HR0.out HB.out) | (with_reducible refine Kd.C_alloc ?_ _) | (with_reducible refine Kd.C_drewN ?_ _) | (with_reducible refine Kd.C_drew ?_))); (case side2 => exact HC0.out); (case side3 => exact Tabs.below HT.out (by repeat (first | exact HB.out | apply bA | apply bN | apply bD | refine bS ?_ GE234.out))); rintro e w17 ⟨rfl, hb⟩; refine ⟨_, rfl, ?_⟩; have n0_ := Aside0.mk (blk_below (g := gb234) (o := .cells #[.int .u8 a2_0, .int .u8 a2_1, .int .i64 a2_2] 30 (0, 0)) (by (with_reducible repeat (first | refine kN ?_ _ | refine kD ?_ | refine kA ?_ _)); exact BK234.out) hb); have n1_ := Aside0.mk (below_step (by repeat (first | exact HB.out | apply bA | apply bN | apply bD | refine bS ?_ GE234.out)) hb); clear BK234; clear HB; have BK234 := n0_; have HB := n1_; clear n0_ n1_; (try clear hb); (try clear hb2); (try clear hk); (try clear hi)))
     go_ret2
     exact ⟨by first | rfl | (simp [errW_none, errW_some] <;> rfl) | (simp [*, errW_none, errW_some] <;> rfl), by repeat (first | exact HB.out | apply bA | apply bN | apply bD | refine bS ?_ GE234.out)⟩
   ·replace c11 := Bool.eq_false_iff.mpr c11
    subst c11
    have H1 : (if a2_0 = 106 then (motion_step.j1 kj4 l0 a1 a3 a2_0 (a2_0 == 106) a2_0 a2_1 a2_2) else (if a2_0 = 107 then (motion_step.j1 kj4 l0 a1 a3 a2_0 (a2_0 == 107) a2_0 a2_1 a2_2) else (motion_step.j1 kj4 l0 a1 a3 a2_0 (a2_0 == 36) a2_0 a2_1 a2_2))) = some (r1, r2) := by rw [if_neg (show ¬ (false = true) by decide)] at H; exact H
    clear H
    have H := H1
    clear H1
    have HC18 := Aside0.mk H
    clear H
    go_upto_if 26 with (fail)
    go_cut [26] (fun v26 wc => ∃ (kq : Nat) (x26_17 : Bool), v26 = .bool x26_17 ∧ Aside0 (motion_step.j1 kq l0 a1 a3 a2_0 x26_17 a2_0 a2_1 a2_2 = some (r1, r2)) ∧ Aside0 (kq ≤ kj4) ∧ Aside0 (wc.heap[gb234]? = some (.cells #[.int .u8 a2_0, .int .u8 a2_1, .int .i64 a2_2] 30 (0, 0))) ∧ Aside0 (Below w.heap.size w wc))
    case first =>
     have H := HC18.out
     clear HC18
     by_cases c19 : a2_0 = 106
     ·rw [if_pos c19] at H
      have c19b0 : (a2_0 == 106) = true := beq_iff_eq.mpr c19
      have c19b1 : (a2_0 != 106) = false := bne_eq_false_iff_eq.mpr c19
      clear c19
      (first | rw [c19b0] | (simp only [i64_w, i32_w]; rw [c19b0]) | skip)
      have H' := Aside0.mk H
      clear H
      go_wp2
      go_meet
      case rel => exact ⟨_, ((a2_0 == 106)), (by first | rfl | (simp; done) | (simp [*]; done)), H', ⟨by have := HJ4.out; first | omega | exact Nat.le_refl _⟩, ⟨by (with_reducible repeat (first | refine kN ?_ _ | refine kD ?_ | refine kA ?_ _)); exact BK234.out⟩, ⟨by repeat (first | exact HB.out | apply bA | apply bN | apply bD | refine bS ?_ GE234.out)⟩⟩
     ·rw [if_neg c19] at H
      have c19b0 : (a2_0 == 106) = false := beq_eq_false_iff_ne.mpr c19
      have c19b1 : (a2_0 != 106) = true := bne_iff_ne.mpr c19
      (first | rw [c19b0] | (simp only [i64_w, i32_w]; rw [c19b0]) | skip)
      by_cases c20 : a2_0 = 107
      ·rw [if_pos c20] at H
       have c20b0 : (a2_0 == 107) = true := beq_iff_eq.mpr c20
       have c20b1 : (a2_0 != 107) = false := bne_eq_false_iff_eq.mpr c20
       clear c20
       have H' := Aside0.mk H
       clear H
       go_wp2
       go_meet
       case rel => exact ⟨_, ((a2_0 == 107)), (by first | rfl | (simp; done) | (simp [*]; done)), H', ⟨by have := HJ4.out; first | omega | exact Nat.le_refl _⟩, ⟨by (with_reducible repeat (first | refine kN ?_ _ | refine kD ?_ | refine kA ?_ _)); exact BK234.out⟩, ⟨by repeat (first | exact HB.out | apply bA | apply bN | apply bD | refine bS ?_ GE234.out)⟩⟩
      ·rw [if_neg c20] at H
       have c20b0 : (a2_0 == 107) = false := beq_eq_false_iff_ne.mpr c20
       have c20b1 : (a2_0 != 107) = true := bne_iff_ne.mpr c20
       have H' := Aside0.mk H
       clear H
       go_wp2
       go_meet
       case rel => exact ⟨_, ((a2_0 == 36)), (by first | rfl | (simp; done) | (simp [*]; done)), H', ⟨by have := HJ4.out; first | omega | exact Nat.le_refl _⟩, ⟨by (with_reducible repeat (first | refine kN ?_ _ | refine kD ?_ | refine kA ?_ _)); exact BK234.out⟩, ⟨by repeat (first | exact HB.out | apply bA | apply bN | apply bD | refine bS ?_ GE234.out)⟩⟩
    case rest =>
     clear HC18
     try clear c1
     try clear c2
     try clear p2
     try clear c3
     try clear c8
     try clear c8b0
     try clear c8b1
     try clear c9
     try clear c9b0
     try clear c9b1
     try clear c10
     try clear c10b0
     try clear c10b1
     try clear c11
     try clear c13
     try clear c19
     try clear c19b0
     try clear c19b1
     try clear c20
     try clear c20b0
     try clear c20b1
     try clear hcz14_0
     try clear hcz14_1
     try clear hcz14_2
     try clear hcz16_0
     try clear hcz16_1
     try clear hcz16_2
     try clear hcz7_0
     try clear hcz7_1
     try clear hcz7_2
     try clear hfz14_0
     try clear hfz14_1
     try clear hfz14_2
     try clear hfz16_0
     try clear hfz16_1
     try clear hfz16_2
     try clear hfz7_0
     try clear hfz7_1
     try clear hfz7_2
     try clear p2
     obtain ⟨kq, x26_17, rfl, HA, HJ17, BK234, HB⟩ := hcut
     cases kq with
     | zero => exact absurd HA.out (by simp [motion_step.j1])
     | succ kj17 =>
      have H := HA.out
      clear HA
      simp only [motion_step.j1] at H
      by_cases c21 : x26_17 = true
      ·subst c21
       have H1 : ((motion_down.f kj17 l0 a1 a2_0 a2_1 a2_2 a3).bind fun bt237 => (if bt237.2 = true then (some (bt237.1, 0)) else (some (0, 2)))) = some (r1, r2) := by rw [if_pos rfl] at H; exact H
       clear H
       have H := H1
       clear H1
       replace H := Option.bind_eq_some_iff.mp H
       obtain ⟨⟨t237, t238⟩, A220, H⟩ := H
       replace H : (if t238 = true then (some (t237, 0)) else (some (0, 2))) = some (r1, r2) := H
       have A22 := Aside0.mk A220
       clear A220
       by_cases c23 : t238 = true
       ·subst c23
        have H1 : (some (t237, 0)) = some (r1, r2) := by rw [if_pos rfl] at H; exact H
        clear H
        have H := H1
        clear H1
        simp only [Option.some.injEq, Prod.mk.injEq] at H
        obtain ⟨rfl, rfl⟩ := H
        have hcz24_0 : wc.cell? ⟨gb234, 0, none⟩ = some (.int .u8 a2_0) := (blk_cell BK234.out 0).trans rfl
        have hcz24_1 : wc.cell? ⟨gb234, 1, none⟩ = some (.int .u8 a2_1) := (blk_cell BK234.out 1).trans rfl
        have hcz24_2 : wc.cell? ⟨gb234, 2, none⟩ = some (.int .i64 a2_2) := (blk_cell BK234.out 2).trans rfl
        have hfz24_0 := blk_frozen BK234.out 0
        have hfz24_1 := blk_frozen BK234.out 1
        have hfz24_2 := blk_frozen BK234.out 2
        go_wp2_with (first | ((with_reducible refine gate_callee (f := 36) rfl ?_); refine goesL_ (some 35) rfl rfl Tryd.func36 (by kernel_rfl) rfl #[.slice A0 l0.length c0, .int .i64 a1, .agg #[.int .u8 a2_0, .int .u8 a2_1, .int .i64 a2_2], .int .i64 a3] rfl (by (try simp only [List.map_toArray, List.map_cons, List.map_nil]); first | done | rfl | (simp only [List.length_drop, List.length_take]; rfl)) ?_; (with_reducible refine (motion_down.calls kj17 _ _ l0 a1 a2_0 a2_1 a2_2 a3 t237 true _ ?side3 ?side1 ?side2 A22.out).mono ?_); (case side1 => repeat (first | exact (Kd.C_below HR0.out HB.out) | (with_reducible refine Kd.C_alloc ?_ _) | (with_reducible refine Kd.C_drewN ?_ _) | (with_reducible refine Kd.C_drew ?_))); (case side2 => exact HC0.out); (case side3 => exact Tabs.below HT.out (by repeat (first | exact HB.out | apply bA | apply bN | apply bD | refine bS ?_ GE234.out))); rintro e w25 ⟨rfl, hb⟩; refine ⟨_, rfl, ?_⟩; have n0_ := Aside0.mk (blk_below (g := gb234) (o := .cells #[.int .u8 a2_0, .int .u8 a2_1, .int .i64 a2_2] 30 (0, 0)) (by (with_reducible repeat (first | refine kN ?_ _ | refine kD ?_ | refine kA ?_ _)); exact BK234.out) hb); have n1_ := Aside0.mk (below_step (by repeat (first | exact HB.out | apply bA | apply bN | apply bD | refine bS ?_ GE234.out)) hb); clear BK234; clear HB; have BK234 := n0_; have HB := n1_; clear n0_ n1_; (try clear hb); (try clear hb2); (try clear hk); (try clear hi)))
        go_ret2
        exact ⟨by first | rfl | (simp [errW_none, errW_some] <;> rfl) | (simp [*, errW_none, errW_some] <;> rfl), by repeat (first | exact HB.out | apply bA | apply bN | apply bD | refine bS ?_ GE234.out)⟩
       ·replace c23 := Bool.eq_false_iff.mpr c23
        subst c23
        have H1 : (some (0, 2)) = some (r1, r2) := by rw [if_neg (show ¬ (false = true) by decide)] at H; exact H
        clear H
        have H := H1
        clear H1
        simp only [Option.some.injEq, Prod.mk.injEq] at H
        obtain ⟨rfl, rfl⟩ := H
        have hcz26_0 : wc.cell? ⟨gb234, 0, none⟩ = some (.int .u8 a2_0) := (blk_cell BK234.out 0).trans rfl
        have hcz26_1 : wc.cell? ⟨gb234, 1, none⟩ = some (.int .u8 a2_1) := (blk_cell BK234.out 1).trans rfl
        have hcz26_2 : wc.cell? ⟨gb234, 2, none⟩ = some (.int .i64 a2_2) := (blk_cell BK234.out 2).trans rfl
        have hfz26_0 := blk_frozen BK234.out 0
        have hfz26_1 := blk_frozen BK234.out 1
        have hfz26_2 := blk_frozen BK234.out 2
        go_wp2_with (first | ((with_reducible refine gate_callee (f := 36) rfl ?_); refine goesL_ (some 35) rfl rfl Tryd.func36 (by kernel_rfl) rfl #[.slice A0 l0.length c0, .int .i64 a1, .agg #[.int .u8 a2_0, .int .u8 a2_1, .int .i64 a2_2], .int .i64 a3] rfl (by (try simp only [List.map_toArray, List.map_cons, List.map_nil]); first | done | rfl | (simp only [List.length_drop, List.length_take]; rfl)) ?_; (with_reducible refine (motion_down.calls kj17 _ _ l0 a1 a2_0 a2_1 a2_2 a3 t237 false _ ?side3 ?side1 ?side2 A22.out).mono ?_); (case side1 => repeat (first | exact (Kd.C_below HR0.out HB.out) | (with_reducible refine Kd.C_alloc ?_ _) | (with_reducible refine Kd.C_drewN ?_ _) | (with_reducible refine Kd.C_drew ?_))); (case side2 => exact HC0.out); (case side3 => exact Tabs.below HT.out (by repeat (first | exact HB.out | apply bA | apply bN | apply bD | refine bS ?_ GE234.out))); rintro e w27 ⟨rfl, hb⟩; refine ⟨_, rfl, ?_⟩; have n0_ := Aside0.mk (blk_below (g := gb234) (o := .cells #[.int .u8 a2_0, .int .u8 a2_1, .int .i64 a2_2] 30 (0, 0)) (by (with_reducible repeat (first | refine kN ?_ _ | refine kD ?_ | refine kA ?_ _)); exact BK234.out) hb); have n1_ := Aside0.mk (below_step (by repeat (first | exact HB.out | apply bA | apply bN | apply bD | refine bS ?_ GE234.out)) hb); clear BK234; clear HB; have BK234 := n0_; have HB := n1_; clear n0_ n1_; (try clear hb); (try clear hb2); (try clear hk); (try clear hi)))
        go_ret2
        exact ⟨by first | rfl | (simp [errW_none, errW_some] <;> rfl) | (simp [*, errW_none, errW_some] <;> rfl), by repeat (first | exact HB.out | apply bA | apply bN | apply bD | refine bS ?_ GE234.out)⟩
      ·replace c21 := Bool.eq_false_iff.mpr c21
       subst c21
       have H1 : (if a2_0 = 119 then ((words_Forward.f kj17 l0 a1).bind fun bt239 => (if bt239.2 = true then (some (bt239.1, 0)) else (some (0, 2)))) else (if a2_0 = 98 then ((words_Back.f kj17 l0 a1).bind fun bt241 => (if bt241.2 = true then (some (bt241.1, 0)) else (some (0, 2)))) else (if a2_0 = 101 then ((words_Last.f kj17 l0 a1).bind fun bt243 => (if bt243.2 = true then (some (bt243.1, 0)) else (some (0, 2)))) else (if a2_0 = 123 then (motion_step.j2 kj17 l0 a1 a2_0 (a2_0 == 123) a2_0 a2_1 a2_2) else (motion_step.j2 kj17 l0 a1 a2_0 (a2_0 == 125) a2_0 a2_1 a2_2))))) = some (r1, r2) := by rw [if_neg (show ¬ (false = true) by decide)] at H; exact H
       clear H
       have H := H1
       clear H1
       by_cases c28 : a2_0 = 119
       ·rw [if_pos c28] at H
        have c28b0 : (a2_0 == 119) = true := beq_iff_eq.mpr c28
        have c28b1 : (a2_0 != 119) = false := bne_eq_false_iff_eq.mpr c28
        clear c28
        replace H := Option.bind_eq_some_iff.mp H
        obtain ⟨⟨t239, t240⟩, A290, H⟩ := H
        replace H : (if t240 = true then (some (t239, 0)) else (some (0, 2))) = some (r1, r2) := H
        have A29 := Aside0.mk A290
        clear A290
        by_cases c30 : t240 = true
        ·subst c30
         have H1 : (some (t239, 0)) = some (r1, r2) := by rw [if_pos rfl] at H; exact H
         clear H
         have H := H1
         clear H1
         simp only [Option.some.injEq, Prod.mk.injEq] at H
         obtain ⟨rfl, rfl⟩ := H
         go_wp2_with (first | ((with_reducible refine gate_callee (f := 37) rfl ?_); refine goesL_ (some 43) rfl rfl Tryd.func37 (by kernel_rfl) rfl #[.slice A0 l0.length c0, .int .i64 a1] rfl (by (try simp only [List.map_toArray, List.map_cons, List.map_nil]); first | done | rfl | (simp only [List.length_drop, List.length_take]; rfl)) ?_; (with_reducible refine (words_Forward.calls kj17 _ _ l0 a1 t239 true _ ?side1 ?side2 A29.out).mono ?_); (case side1 => repeat (first | exact (Kd.C_below HR0.out HB.out) | (with_reducible refine Kd.C_alloc ?_ _) | (with_reducible refine Kd.C_drewN ?_ _) | (with_reducible refine Kd.C_drew ?_))); (case side2 => exact HC0.out); rintro e w31 ⟨rfl, hb⟩; refine ⟨_, rfl, ?_⟩; have n0_ := Aside0.mk (blk_below (g := gb234) (o := .cells #[.int .u8 a2_0, .int .u8 a2_1, .int .i64 a2_2] 30 (0, 0)) (by (with_reducible repeat (first | refine kN ?_ _ | refine kD ?_ | refine kA ?_ _)); exact BK234.out) hb); have n1_ := Aside0.mk (below_step (by repeat (first | exact HB.out | apply bA | apply bN | apply bD | refine bS ?_ GE234.out)) hb); clear BK234; clear HB; have BK234 := n0_; have HB := n1_; clear n0_ n1_; (try clear hb); (try clear hb2); (try clear hk); (try clear hi)))
         go_ret2
         exact ⟨by first | rfl | (simp [errW_none, errW_some] <;> rfl) | (simp [*, errW_none, errW_some] <;> rfl), by repeat (first | exact HB.out | apply bA | apply bN | apply bD | refine bS ?_ GE234.out)⟩
        ·replace c30 := Bool.eq_false_iff.mpr c30
         subst c30
         have H1 : (some (0, 2)) = some (r1, r2) := by rw [if_neg (show ¬ (false = true) by decide)] at H; exact H
         clear H
         have H := H1
         clear H1
         simp only [Option.some.injEq, Prod.mk.injEq] at H
         obtain ⟨rfl, rfl⟩ := H
         go_wp2_with (first | ((with_reducible refine gate_callee (f := 37) rfl ?_); refine goesL_ (some 43) rfl rfl Tryd.func37 (by kernel_rfl) rfl #[.slice A0 l0.length c0, .int .i64 a1] rfl (by (try simp only [List.map_toArray, List.map_cons, List.map_nil]); first | done | rfl | (simp only [List.length_drop, List.length_take]; rfl)) ?_; (with_reducible refine (words_Forward.calls kj17 _ _ l0 a1 t239 false _ ?side1 ?side2 A29.out).mono ?_); (case side1 => repeat (first | exact (Kd.C_below HR0.out HB.out) | (with_reducible refine Kd.C_alloc ?_ _) | (with_reducible refine Kd.C_drewN ?_ _) | (with_reducible refine Kd.C_drew ?_))); (case side2 => exact HC0.out); rintro e w32 ⟨rfl, hb⟩; refine ⟨_, rfl, ?_⟩; have n0_ := Aside0.mk (blk_below (g := gb234) (o := .cells #[.int .u8 a2_0, .int .u8 a2_1, .int .i64 a2_2] 30 (0, 0)) (by (with_reducible repeat (first | refine kN ?_ _ | refine kD ?_ | refine kA ?_ _)); exact BK234.out) hb); have n1_ := Aside0.mk (below_step (by repeat (first | exact HB.out | apply bA | apply bN | apply bD | refine bS ?_ GE234.out)) hb); clear BK234; clear HB; have BK234 := n0_; have HB := n1_; clear n0_ n1_; (try clear hb); (try clear hb2); (try clear hk); (try clear hi)))
         go_ret2
         exact ⟨by first | rfl | (simp [errW_none, errW_some] <;> rfl) | (simp [*, errW_none, errW_some] <;> rfl), by repeat (first | exact HB.out | apply bA | apply bN | apply bD | refine bS ?_ GE234.out)⟩
       ·rw [if_neg c28] at H
        have c28b0 : (a2_0 == 119) = false := beq_eq_false_iff_ne.mpr c28
        have c28b1 : (a2_0 != 119) = true := bne_iff_ne.mpr c28
        by_cases c33 : a2_0 = 98
        ·rw [if_pos c33] at H
         have c33b0 : (a2_0 == 98) = true := beq_iff_eq.mpr c33
         have c33b1 : (a2_0 != 98) = false := bne_eq_false_iff_eq.mpr c33
         clear c33
         replace H := Option.bind_eq_some_iff.mp H
         obtain ⟨⟨t241, t242⟩, A340, H⟩ := H
         replace H : (if t242 = true then (some (t241, 0)) else (some (0, 2))) = some (r1, r2) := H
         have A34 := Aside0.mk A340
         clear A340
         by_cases c35 : t242 = true
         ·subst c35
          have H1 : (some (t241, 0)) = some (r1, r2) := by rw [if_pos rfl] at H; exact H
          clear H
          have H := H1
          clear H1
          simp only [Option.some.injEq, Prod.mk.injEq] at H
          obtain ⟨rfl, rfl⟩ := H
          go_wp2_with (first | ((with_reducible refine gate_callee (f := 38) rfl ?_); refine goesL_ (some 51) rfl rfl Tryd.func38 (by kernel_rfl) rfl #[.slice A0 l0.length c0, .int .i64 a1] rfl (by (try simp only [List.map_toArray, List.map_cons, List.map_nil]); first | done | rfl | (simp only [List.length_drop, List.length_take]; rfl)) ?_; (with_reducible refine (words_Back.calls kj17 _ _ l0 a1 t241 true _ ?side1 ?side2 A34.out).mono ?_); (case side1 => repeat (first | exact (Kd.C_below HR0.out HB.out) | (with_reducible refine Kd.C_alloc ?_ _) | (with_reducible refine Kd.C_drewN ?_ _) | (with_reducible refine Kd.C_drew ?_))); (case side2 => exact HC0.out); rintro e w36 ⟨rfl, hb⟩; refine ⟨_, rfl, ?_⟩; have n0_ := Aside0.mk (blk_below (g := gb234) (o := .cells #[.int .u8 a2_0, .int .u8 a2_1, .int .i64 a2_2] 30 (0, 0)) (by (with_reducible repeat (first | refine kN ?_ _ | refine kD ?_ | refine kA ?_ _)); exact BK234.out) hb); have n1_ := Aside0.mk (below_step (by repeat (first | exact HB.out | apply bA | apply bN | apply bD | refine bS ?_ GE234.out)) hb); clear BK234; clear HB; have BK234 := n0_; have HB := n1_; clear n0_ n1_; (try clear hb); (try clear hb2); (try clear hk); (try clear hi)))
          go_ret2
          exact ⟨by first | rfl | (simp [errW_none, errW_some] <;> rfl) | (simp [*, errW_none, errW_some] <;> rfl), by repeat (first | exact HB.out | apply bA | apply bN | apply bD | refine bS ?_ GE234.out)⟩
         ·replace c35 := Bool.eq_false_iff.mpr c35
          subst c35
          have H1 : (some (0, 2)) = some (r1, r2) := by rw [if_neg (show ¬ (false = true) by decide)] at H; exact H
          clear H
          have H := H1
          clear H1
          simp only [Option.some.injEq, Prod.mk.injEq] at H
          obtain ⟨rfl, rfl⟩ := H
          go_wp2_with (first | ((with_reducible refine gate_callee (f := 38) rfl ?_); refine goesL_ (some 51) rfl rfl Tryd.func38 (by kernel_rfl) rfl #[.slice A0 l0.length c0, .int .i64 a1] rfl (by (try simp only [List.map_toArray, List.map_cons, List.map_nil]); first | done | rfl | (simp only [List.length_drop, List.length_take]; rfl)) ?_; (with_reducible refine (words_Back.calls kj17 _ _ l0 a1 t241 false _ ?side1 ?side2 A34.out).mono ?_); (case side1 => repeat (first | exact (Kd.C_below HR0.out HB.out) | (with_reducible refine Kd.C_alloc ?_ _) | (with_reducible refine Kd.C_drewN ?_ _) | (with_reducible refine Kd.C_drew ?_))); (case side2 => exact HC0.out); rintro e w37 ⟨rfl, hb⟩; refine ⟨_, rfl, ?_⟩; have n0_ := Aside0.mk (blk_below (g := gb234) (o := .cells #[.int .u8 a2_0, .int .u8 a2_1, .int .i64 a2_2] 30 (0, 0)) (by (with_reducible repeat (first | refine kN ?_ _ | refine kD ?_ | refine kA ?_ _)); exact BK234.out) hb); have n1_ := Aside0.mk (below_step (by repeat (first | exact HB.out | apply bA | apply bN | apply bD | refine bS ?_ GE234.out)) hb); clear BK234; clear HB; have BK234 := n0_; have HB := n1_; clear n0_ n1_; (try clear hb); (try clear hb2); (try clear hk); (try clear hi)))
          go_ret2
          exact ⟨by first | rfl | (simp [errW_none, errW_some] <;> rfl) | (simp [*, errW_none, errW_some] <;> rfl), by repeat (first | exact HB.out | apply bA | apply bN | apply bD | refine bS ?_ GE234.out)⟩
        ·rw [if_neg c33] at H
         have c33b0 : (a2_0 == 98) = false := beq_eq_false_iff_ne.mpr c33
         have c33b1 : (a2_0 != 98) = true := bne_iff_ne.mpr c33
         by_cases c38 : a2_0 = 101
         ·rw [if_pos c38] at H
          have c38b0 : (a2_0 == 101) = true := beq_iff_eq.mpr c38
          have c38b1 : (a2_0 != 101) = false := bne_eq_false_iff_eq.mpr c38
          clear c38
          replace H := Option.bind_eq_some_iff.mp H
          obtain ⟨⟨t243, t244⟩, A390, H⟩ := H
          replace H : (if t244 = true then (some (t243, 0)) else (some (0, 2))) = some (r1, r2) := H
          have A39 := Aside0.mk A390
          clear A390
          by_cases c40 : t244 = true
          ·subst c40
           have H1 : (some (t243, 0)) = some (r1, r2) := by rw [if_pos rfl] at H; exact H
           clear H
           have H := H1
           clear H1
           simp only [Option.some.injEq, Prod.mk.injEq] at H
           obtain ⟨rfl, rfl⟩ := H
           go_wp2_with (first | ((with_reducible refine gate_callee (f := 39) rfl ?_); refine goesL_ (some 59) rfl rfl Tryd.func39 (by kernel_rfl) rfl #[.slice A0 l0.length c0, .int .i64 a1] rfl (by (try simp only [List.map_toArray, List.map_cons, List.map_nil]); first | done | rfl | (simp only [List.length_drop, List.length_take]; rfl)) ?_; (with_reducible refine (words_Last.calls kj17 _ _ l0 a1 t243 true _ ?side3 ?side1 ?side2 A39.out).mono ?_); (case side1 => repeat (first | exact (Kd.C_below HR0.out HB.out) | (with_reducible refine Kd.C_alloc ?_ _) | (with_reducible refine Kd.C_drewN ?_ _) | (with_reducible refine Kd.C_drew ?_))); (case side2 => exact HC0.out); (case side3 => exact Tabs.below HT.out (by repeat (first | exact HB.out | apply bA | apply bN | apply bD | refine bS ?_ GE234.out))); rintro e w41 ⟨rfl, hb⟩; refine ⟨_, rfl, ?_⟩; have n0_ := Aside0.mk (blk_below (g := gb234) (o := .cells #[.int .u8 a2_0, .int .u8 a2_1, .int .i64 a2_2] 30 (0, 0)) (by (with_reducible repeat (first | refine kN ?_ _ | refine kD ?_ | refine kA ?_ _)); exact BK234.out) hb); have n1_ := Aside0.mk (below_step (by repeat (first | exact HB.out | apply bA | apply bN | apply bD | refine bS ?_ GE234.out)) hb); clear BK234; clear HB; have BK234 := n0_; have HB := n1_; clear n0_ n1_; (try clear hb); (try clear hb2); (try clear hk); (try clear hi)))
           go_ret2
           exact ⟨by first | rfl | (simp [errW_none, errW_some] <;> rfl) | (simp [*, errW_none, errW_some] <;> rfl), by repeat (first | exact HB.out | apply bA | apply bN | apply bD | refine bS ?_ GE234.out)⟩
          ·replace c40 := Bool.eq_false_iff.mpr c40
           subst c40
           have H1 : (some (0, 2)) = some (r1, r2) := by rw [if_neg (show ¬ (false = true) by decide)] at H; exact H
           clear H
           have H := H1
           clear H1
           simp only [Option.some.injEq, Prod.mk.injEq] at H
           obtain ⟨rfl, rfl⟩ := H
           go_wp2_with (first | ((with_reducible refine gate_callee (f := 39) rfl ?_); refine goesL_ (some 59) rfl rfl Tryd.func39 (by kernel_rfl) rfl #[.slice A0 l0.length c0, .int .i64 a1] rfl (by (try simp only [List.map_toArray, List.map_cons, List.map_nil]); first | done | rfl | (simp only [List.length_drop, List.length_take]; rfl)) ?_; (with_reducible refine (words_Last.calls kj17 _ _ l0 a1 t243 false _ ?side3 ?side1 ?side2 A39.out).mono ?_); (case side1 => repeat (first | exact (Kd.C_below HR0.out HB.out) | (with_reducible refine Kd.C_alloc ?_ _) | (with_reducible refine Kd.C_drewN ?_ _) | (with_reducible refine Kd.C_drew ?_))); (case side2 => exact HC0.out); (case side3 => exact Tabs.below HT.out (by repeat (first | exact HB.out | apply bA | apply bN | apply bD | refine bS ?_ GE234.out))); rintro e w42 ⟨rfl, hb⟩; refine ⟨_, rfl, ?_⟩; have n0_ := Aside0.mk (blk_below (g := gb234) (o := .cells #[.int .u8 a2_0, .int .u8 a2_1, .int .i64 a2_2] 30 (0, 0)) (by (with_reducible repeat (first | refine kN ?_ _ | refine kD ?_ | refine kA ?_ _)); exact BK234.out) hb); have n1_ := Aside0.mk (below_step (by repeat (first | exact HB.out | apply bA | apply bN | apply bD | refine bS ?_ GE234.out)) hb); clear BK234; clear HB; have BK234 := n0_; have HB := n1_; clear n0_ n1_; (try clear hb); (try clear hb2); (try clear hk); (try clear hi)))
           go_ret2
           exact ⟨by first | rfl | (simp [errW_none, errW_some] <;> rfl) | (simp [*, errW_none, errW_some] <;> rfl), by repeat (first | exact HB.out | apply bA | apply bN | apply bD | refine bS ?_ GE234.out)⟩
         ·rw [if_neg c38] at H
          have c38b0 : (a2_0 == 101) = false := beq_eq_false_iff_ne.mpr c38
          have c38b1 : (a2_0 != 101) = true := bne_iff_ne.mpr c38
          have HC43 := Aside0.mk H
          clear H
          go_upto_if 62 with (fail)
          go_cut [62] (fun v62 wc => ∃ (kq : Nat) (x62_42 : Bool), v62 = .bool x62_42 ∧ Aside0 (motion_step.j2 kq l0 a1 a2_0 x62_42 a2_0 a2_1 a2_2 = some (r1, r2)) ∧ Aside0 (kq ≤ kj17) ∧ Aside0 (wc.heap[gb234]? = some (.cells #[.int .u8 a2_0, .int .u8 a2_1, .int .i64 a2_2] 30 (0, 0))) ∧ Aside0 (Below w.heap.size w wc))
          case first =>
           have H := HC43.out
           clear HC43
           by_cases c44 : a2_0 = 123
           ·rw [if_pos c44] at H
            have c44b0 : (a2_0 == 123) = true := beq_iff_eq.mpr c44
            have c44b1 : (a2_0 != 123) = false := bne_eq_false_iff_eq.mpr c44
            clear c44
            (first | rw [c44b0] | (simp only [i64_w, i32_w]; rw [c44b0]) | skip)
            have H' := Aside0.mk H
            clear H
            go_wp2
            go_meet
            case rel => exact ⟨_, ((a2_0 == 123)), (by first | rfl | (simp; done) | (simp [*]; done)), H', ⟨by have := HJ4.out; have := HJ17.out; first | omega | exact Nat.le_refl _⟩, ⟨by (with_reducible repeat (first | refine kN ?_ _ | refine kD ?_ | refine kA ?_ _)); exact BK234.out⟩, ⟨by repeat (first | exact HB.out | apply bA | apply bN | apply bD | refine bS ?_ GE234.out)⟩⟩
           ·rw [if_neg c44] at H
            have c44b0 : (a2_0 == 123) = false := beq_eq_false_iff_ne.mpr c44
            have c44b1 : (a2_0 != 123) = true := bne_iff_ne.mpr c44
            (first | rw [c44b0] | (simp only [i64_w, i32_w]; rw [c44b0]) | skip)
            have H' := Aside0.mk H
            clear H
            go_wp2
            go_meet
            case rel => exact ⟨_, ((a2_0 == 125)), (by first | rfl | (simp; done) | (simp [*]; done)), H', ⟨by have := HJ4.out; have := HJ17.out; first | omega | exact Nat.le_refl _⟩, ⟨by (with_reducible repeat (first | refine kN ?_ _ | refine kD ?_ | refine kA ?_ _)); exact BK234.out⟩, ⟨by repeat (first | exact HB.out | apply bA | apply bN | apply bD | refine bS ?_ GE234.out)⟩⟩
          case rest =>
           clear HC43
           try clear c1
           try clear c2
           try clear p2
           try clear c3
           try clear c4
           try clear c8
           try clear c8b0
           try clear c8b1
           try clear c9
           try clear c9b0
           try clear c9b1
           try clear c10
           try clear c10b0
           try clear c10b1
           try clear c11
           try clear c13
           try clear c19
           try clear c19b0
           try clear c19b1
           try clear c20
           try clear c20b0
           try clear c20b1
           try clear c21
           try clear c23
           try clear c24
           try clear c28
           try clear c28b0
           try clear c28b1
           try clear c30
           try clear c33
           try clear c33b0
           try clear c33b1
           try clear c35
           try clear c36
           try clear c37
           try clear c38
           try clear c38b0
           try clear c38b1
           try clear c39
           try clear c40
           try clear c44
           try clear c44b0
           try clear c44b1
           try clear hcz14_0
           try clear hcz14_1
           try clear hcz14_2
           try clear hcz16_0
           try clear hcz16_1
           try clear hcz16_2
           try clear hcz24_0
           try clear hcz24_1
           try clear hcz24_2
           try clear hcz26_0
           try clear hcz26_1
           try clear hcz26_2
           try clear hcz7_0
           try clear hcz7_1
           try clear hcz7_2
           try clear hfz14_0
           try clear hfz14_1
           try clear hfz14_2
           try clear hfz16_0
           try clear hfz16_1
           try clear hfz16_2
           try clear hfz24_0
           try clear hfz24_1
           try clear hfz24_2
           try clear hfz26_0
           try clear hfz26_1
           try clear hfz26_2
           try clear hfz7_0
           try clear hfz7_1
           try clear hfz7_2
           try clear p2
           obtain ⟨kq, x62_42, rfl, HA, HJ42, BK234, HB⟩ := hcut
           cases kq with
           | zero => exact absurd HA.out (by simp [motion_step.j2])
           | succ kj42 =>
            have H := HA.out
            clear HA
            simp only [motion_step.j2] at H
            by_cases c45 : x62_42 = true
            ·subst c45
             have H1 : ((motion_paragraph.f kj42 l0 a1 a2_0 a2_1 a2_2).bind fun bt245 => (if bt245.2 = true then (some (bt245.1, 0)) else (some (0, 2)))) = some (r1, r2) := by rw [if_pos rfl] at H; exact H
             clear H
             have H := H1
             clear H1
             replace H := Option.bind_eq_some_iff.mp H
             obtain ⟨⟨t245, t246⟩, A460, H⟩ := H
             replace H : (if t246 = true then (some (t245, 0)) else (some (0, 2))) = some (r1, r2) := H
             have A46 := Aside0.mk A460
             clear A460
             by_cases c47 : t246 = true
             ·subst c47
              have H1 : (some (t245, 0)) = some (r1, r2) := by rw [if_pos rfl] at H; exact H
              clear H
              have H := H1
              clear H1
              simp only [Option.some.injEq, Prod.mk.injEq] at H
              obtain ⟨rfl, rfl⟩ := H
              have hcz48_0 : wc.cell? ⟨gb234, 0, none⟩ = some (.int .u8 a2_0) := (blk_cell BK234.out 0).trans rfl
              have hcz48_1 : wc.cell? ⟨gb234, 1, none⟩ = some (.int .u8 a2_1) := (blk_cell BK234.out 1).trans rfl
              have hcz48_2 : wc.cell? ⟨gb234, 2, none⟩ = some (.int .i64 a2_2) := (blk_cell BK234.out 2).trans rfl
              have hfz48_0 := blk_frozen BK234.out 0
              have hfz48_1 := blk_frozen BK234.out 1
              have hfz48_2 := blk_frozen BK234.out 2
              go_wp2_with (first | ((with_reducible refine gate_callee (f := 40) rfl ?_); refine goesL_ (some 69) rfl rfl Tryd.func40 (by kernel_rfl) rfl #[.slice A0 l0.length c0, .int .i64 a1, .agg #[.int .u8 a2_0, .int .u8 a2_1, .int .i64 a2_2]] rfl (by (try simp only [List.map_toArray, List.map_cons, List.map_nil]); first | done | rfl | (simp only [List.length_drop, List.length_take]; rfl)) ?_; (with_reducible refine (motion_paragraph.calls kj42 _ _ l0 a1 a2_0 a2_1 a2_2 t245 true _ ?side1 ?side2 A46.out).mono ?_); (case side1 => repeat (first | exact (Kd.C_below HR0.out HB.out) | (with_reducible refine Kd.C_alloc ?_ _) | (with_reducible refine Kd.C_drewN ?_ _) | (with_reducible refine Kd.C_drew ?_))); (case side2 => exact HC0.out); rintro e w49 ⟨rfl, hb⟩; refine ⟨_, rfl, ?_⟩; have n0_ := Aside0.mk (blk_below (g := gb234) (o := .cells #[.int .u8 a2_0, .int .u8 a2_1, .int .i64 a2_2] 30 (0, 0)) (by (with_reducible repeat (first | refine kN ?_ _ | refine kD ?_ | refine kA ?_ _)); exact BK234.out) hb); have n1_ := Aside0.mk (below_step (by repeat (first | exact HB.out | apply bA | apply bN | apply bD | refine bS ?_ GE234.out)) hb); clear BK234; clear HB; have BK234 := n0_; have HB := n1_; clear n0_ n1_; (try clear hb); (try clear hb2); (try clear hk); (try clear hi)))
              go_ret2
              exact ⟨by first | rfl | (simp [errW_none, errW_some] <;> rfl) | (simp [*, errW_none, errW_some] <;> rfl), by repeat (first | exact HB.out | apply bA | apply bN | apply bD | refine bS ?_ GE234.out)⟩
             ·replace c47 := Bool.eq_false_iff.mpr c47
              subst c47
              have H1 : (some (0, 2)) = some (r1, r2) := by rw [if_neg (show ¬ (false = true) by decide)] at H; exact H
              clear H
              have H := H1
              clear H1
              simp only [Option.some.injEq, Prod.mk.injEq] at H
              obtain ⟨rfl, rfl⟩ := H
              have hcz50_0 : wc.cell? ⟨gb234, 0, none⟩ = some (.int .u8 a2_0) := (blk_cell BK234.out 0).trans rfl
              have hcz50_1 : wc.cell? ⟨gb234, 1, none⟩ = some (.int .u8 a2_1) := (blk_cell BK234.out 1).trans rfl
              have hcz50_2 : wc.cell? ⟨gb234, 2, none⟩ = some (.int .i64 a2_2) := (blk_cell BK234.out 2).trans rfl
              have hfz50_0 := blk_frozen BK234.out 0
              have hfz50_1 := blk_frozen BK234.out 1
              have hfz50_2 := blk_frozen BK234.out 2
              go_wp2_with (first | ((with_reducible refine gate_callee (f := 40) rfl ?_); refine goesL_ (some 69) rfl rfl Tryd.func40 (by kernel_rfl) rfl #[.slice A0 l0.length c0, .int .i64 a1, .agg #[.int .u8 a2_0, .int .u8 a2_1, .int .i64 a2_2]] rfl (by (try simp only [List.map_toArray, List.map_cons, List.map_nil]); first | done | rfl | (simp only [List.length_drop, List.length_take]; rfl)) ?_; (with_reducible refine (motion_paragraph.calls kj42 _ _ l0 a1 a2_0 a2_1 a2_2 t245 false _ ?side1 ?side2 A46.out).mono ?_); (case side1 => repeat (first | exact (Kd.C_below HR0.out HB.out) | (with_reducible refine Kd.C_alloc ?_ _) | (with_reducible refine Kd.C_drewN ?_ _) | (with_reducible refine Kd.C_drew ?_))); (case side2 => exact HC0.out); rintro e w51 ⟨rfl, hb⟩; refine ⟨_, rfl, ?_⟩; have n0_ := Aside0.mk (blk_below (g := gb234) (o := .cells #[.int .u8 a2_0, .int .u8 a2_1, .int .i64 a2_2] 30 (0, 0)) (by (with_reducible repeat (first | refine kN ?_ _ | refine kD ?_ | refine kA ?_ _)); exact BK234.out) hb); have n1_ := Aside0.mk (below_step (by repeat (first | exact HB.out | apply bA | apply bN | apply bD | refine bS ?_ GE234.out)) hb); clear BK234; clear HB; have BK234 := n0_; have HB := n1_; clear n0_ n1_; (try clear hb); (try clear hb2); (try clear hk); (try clear hi)))
              go_ret2
              exact ⟨by first | rfl | (simp [errW_none, errW_some] <;> rfl) | (simp [*, errW_none, errW_some] <;> rfl), by repeat (first | exact HB.out | apply bA | apply bN | apply bD | refine bS ?_ GE234.out)⟩
            ·replace c45 := Bool.eq_false_iff.mpr c45
             subst c45
             have H1 : (if a2_0 = 102 then (motion_step.j3 kj42 l0 a1 (a2_0 == 102) a2_0 a2_1 a2_2) else (motion_step.j3 kj42 l0 a1 (a2_0 == 116) a2_0 a2_1 a2_2)) = some (r1, r2) := by rw [if_neg (show ¬ (false = true) by decide)] at H; exact H
             clear H
             have H := H1
             clear H1
             have HC52 := Aside0.mk H
             clear H
             go_upto_if 72 with (fail)
             go_cut [72] (fun v72 wc => ∃ (kq : Nat) (x72_51 : Bool), v72 = .bool x72_51 ∧ Aside0 (motion_step.j3 kq l0 a1 x72_51 a2_0 a2_1 a2_2 = some (r1, r2)) ∧ Aside0 (kq ≤ kj42) ∧ Aside0 (wc.heap[gb234]? = some (.cells #[.int .u8 a2_0, .int .u8 a2_1, .int .i64 a2_2] 30 (0, 0))) ∧ Aside0 (Below w.heap.size w wc))
             case first =>
              have H := HC52.out
              clear HC52
              by_cases c53 : a2_0 = 102
              ·rw [if_pos c53] at H
               have c53b0 : (a2_0 == 102) = true := beq_iff_eq.mpr c53
               have c53b1 : (a2_0 != 102) = false := bne_eq_false_iff_eq.mpr c53
               clear c53
               (first | rw [c53b0] | (simp only [i64_w, i32_w]; rw [c53b0]) | skip)
               have H' := Aside0.mk H
               clear H
               go_wp2
               go_meet
               case rel => exact ⟨_, ((a2_0 == 102)), (by first | rfl | (simp; done) | (simp [*]; done)), H', ⟨by have := HJ4.out; have := HJ17.out; have := HJ42.out; first | omega | exact Nat.le_refl _⟩, ⟨by (with_reducible repeat (first | refine kN ?_ _ | refine kD ?_ | refine kA ?_ _)); exact BK234.out⟩, ⟨by repeat (first | exact HB.out | apply bA | apply bN | apply bD | refine bS ?_ GE234.out)⟩⟩
              ·rw [if_neg c53] at H
               have c53b0 : (a2_0 == 102) = false := beq_eq_false_iff_ne.mpr c53
               have c53b1 : (a2_0 != 102) = true := bne_iff_ne.mpr c53
               (first | rw [c53b0] | (simp only [i64_w, i32_w]; rw [c53b0]) | skip)
               have H' := Aside0.mk H
               clear H
               go_wp2
               go_meet
               case rel => exact ⟨_, ((a2_0 == 116)), (by first | rfl | (simp; done) | (simp [*]; done)), H', ⟨by have := HJ4.out; have := HJ17.out; have := HJ42.out; first | omega | exact Nat.le_refl _⟩, ⟨by (with_reducible repeat (first | refine kN ?_ _ | refine kD ?_ | refine kA ?_ _)); exact BK234.out⟩, ⟨by repeat (first | exact HB.out | apply bA | apply bN | apply bD | refine bS ?_ GE234.out)⟩⟩
             case rest =>
              clear HC52
              try clear c1
              try clear c2
              try clear p2
              try clear c3
              try clear c4
              try clear c5
              try clear c8
              try clear c8b0
              try clear c8b1
              try clear c9
              try clear c9b0
              try clear c9b1
              try clear c10
              try clear c10b0
              try clear c10b1
              try clear c11
              try clear c13
              try clear c19
              try clear c19b0
              try clear c19b1
              try clear c20
              try clear c20b0
              try clear c20b1
              try clear c21
              try clear c23
              try clear c24
              try clear c28
              try clear c28b0
              try clear c28b1
              try clear c30
              try clear c33
              try clear c33b0
              try clear c33b1
              try clear c35
              try clear c36
              try clear c37
              try clear c38
              try clear c38b0
              try clear c38b1
              try clear c39
              try clear c40
              try clear c44
              try clear c44b0
              try clear c44b1
              try clear c45
              try clear c47
              try clear c53
              try clear c53b0
              try clear c53b1
              try clear hcz14_0
              try clear hcz14_1
              try clear hcz14_2
              try clear hcz16_0
              try clear hcz16_1
              try clear hcz16_2
              try clear hcz24_0
              try clear hcz24_1
              try clear hcz24_2
              try clear hcz26_0
              try clear hcz26_1
              try clear hcz26_2
              try clear hcz48_0
              try clear hcz48_1
              try clear hcz48_2
              try clear hcz50_0
              try clear hcz50_1
              try clear hcz50_2
              try clear hcz7_0
              try clear hcz7_1
              try clear hcz7_2
              try clear hfz14_0
              try clear hfz14_1
              try clear hfz14_2
              try clear hfz16_0
              try clear hfz16_1
              try clear hfz16_2
              try clear hfz24_0
              try clear hfz24_1
              try clear hfz24_2
              try clear hfz26_0
              try clear hfz26_1
              try clear hfz26_2
              try clear hfz48_0
              try clear hfz48_1
              try clear hfz48_2
              try clear hfz50_0
              try clear hfz50_1
              try clear hfz50_2
              try clear hfz7_0
              try clear hfz7_1
              try clear hfz7_2
              try clear p2
              obtain ⟨kq, x72_51, rfl, HA, HJ51, BK234, HB⟩ := hcut
              cases kq with
              | zero => exact absurd HA.out (by simp [motion_step.j3])
              | succ kj51 =>
               have H := HA.out
               clear HA
               simp only [motion_step.j3] at H
               by_cases c54 : x72_51 = true
               ·subst c54
                have H1 : ((motion_find.f kj51 l0 a1 a2_0 a2_1 a2_2).bind fun bt247 => (if bt247.2 = true then (some (bt247.1, 0)) else (some (0, 2)))) = some (r1, r2) := by rw [if_pos rfl] at H; exact H
                clear H
                have H := H1
                clear H1
                replace H := Option.bind_eq_some_iff.mp H
                obtain ⟨⟨t247, t248⟩, A550, H⟩ := H
                replace H : (if t248 = true then (some (t247, 0)) else (some (0, 2))) = some (r1, r2) := H
                have A55 := Aside0.mk A550
                clear A550
                by_cases c56 : t248 = true
                ·subst c56
                 have H1 : (some (t247, 0)) = some (r1, r2) := by rw [if_pos rfl] at H; exact H
                 clear H
                 have H := H1
                 clear H1
                 simp only [Option.some.injEq, Prod.mk.injEq] at H
                 obtain ⟨rfl, rfl⟩ := H
                 have hcz57_0 : wc.cell? ⟨gb234, 0, none⟩ = some (.int .u8 a2_0) := (blk_cell BK234.out 0).trans rfl
                 have hcz57_1 : wc.cell? ⟨gb234, 1, none⟩ = some (.int .u8 a2_1) := (blk_cell BK234.out 1).trans rfl
                 have hcz57_2 : wc.cell? ⟨gb234, 2, none⟩ = some (.int .i64 a2_2) := (blk_cell BK234.out 2).trans rfl
                 have hfz57_0 := blk_frozen BK234.out 0
                 have hfz57_1 := blk_frozen BK234.out 1
                 have hfz57_2 := blk_frozen BK234.out 2
                 go_wp2_with (first | ((with_reducible refine gate_callee (f := 41) rfl ?_); refine goesL_ (some 79) rfl rfl Tryd.func41 (by kernel_rfl) rfl #[.slice A0 l0.length c0, .int .i64 a1, .agg #[.int .u8 a2_0, .int .u8 a2_1, .int .i64 a2_2]] rfl (by (try simp only [List.map_toArray, List.map_cons, List.map_nil]); first | done | rfl | (simp only [List.length_drop, List.length_take]; rfl)) ?_; (with_reducible refine (motion_find.calls kj51 _ _ l0 a1 a2_0 a2_1 a2_2 t247 true _ ?side3 ?side1 ?side2 A55.out).mono ?_); (case side1 => repeat (first | exact (Kd.C_below HR0.out HB.out) | (with_reducible refine Kd.C_alloc ?_ _) | (with_reducible refine Kd.C_drewN ?_ _) | (with_reducible refine Kd.C_drew ?_))); (case side2 => exact HC0.out); (case side3 => exact Tabs.below HT.out (by repeat (first | exact HB.out | apply bA | apply bN | apply bD | refine bS ?_ GE234.out))); rintro e w58 ⟨rfl, hb⟩; refine ⟨_, rfl, ?_⟩; have n0_ := Aside0.mk (blk_below (g := gb234) (o := .cells #[.int .u8 a2_0, .int .u8 a2_1, .int .i64 a2_2] 30 (0, 0)) (by (with_reducible repeat (first | refine kN ?_ _ | refine kD ?_ | refine kA ?_ _)); exact BK234.out) hb); have n1_ := Aside0.mk (below_step (by repeat (first | exact HB.out | apply bA | apply bN | apply bD | refine bS ?_ GE234.out)) hb); clear BK234; clear HB; have BK234 := n0_; have HB := n1_; clear n0_ n1_; (try clear hb); (try clear hb2); (try clear hk); (try clear hi)))
                 go_ret2
                 exact ⟨by first | rfl | (simp [errW_none, errW_some] <;> rfl) | (simp [*, errW_none, errW_some] <;> rfl), by repeat (first | exact HB.out | apply bA | apply bN | apply bD | refine bS ?_ GE234.out)⟩
                ·replace c56 := Bool.eq_false_iff.mpr c56
                 subst c56
                 have H1 : (some (0, 2)) = some (r1, r2) := by rw [if_neg (show ¬ (false = true) by decide)] at H; exact H
                 clear H
                 have H := H1
                 clear H1
                 simp only [Option.some.injEq, Prod.mk.injEq] at H
                 obtain ⟨rfl, rfl⟩ := H
                 have hcz59_0 : wc.cell? ⟨gb234, 0, none⟩ = some (.int .u8 a2_0) := (blk_cell BK234.out 0).trans rfl
                 have hcz59_1 : wc.cell? ⟨gb234, 1, none⟩ = some (.int .u8 a2_1) := (blk_cell BK234.out 1).trans rfl
                 have hcz59_2 : wc.cell? ⟨gb234, 2, none⟩ = some (.int .i64 a2_2) := (blk_cell BK234.out 2).trans rfl
                 have hfz59_0 := blk_frozen BK234.out 0
                 have hfz59_1 := blk_frozen BK234.out 1
                 have hfz59_2 := blk_frozen BK234.out 2
                 go_wp2_with (first | ((with_reducible refine gate_callee (f := 41) rfl ?_); refine goesL_ (some 79) rfl rfl Tryd.func41 (by kernel_rfl) rfl #[.slice A0 l0.length c0, .int .i64 a1, .agg #[.int .u8 a2_0, .int .u8 a2_1, .int .i64 a2_2]] rfl (by (try simp only [List.map_toArray, List.map_cons, List.map_nil]); first | done | rfl | (simp only [List.length_drop, List.length_take]; rfl)) ?_; (with_reducible refine (motion_find.calls kj51 _ _ l0 a1 a2_0 a2_1 a2_2 t247 false _ ?side3 ?side1 ?side2 A55.out).mono ?_); (case side1 => repeat (first | exact (Kd.C_below HR0.out HB.out) | (with_reducible refine Kd.C_alloc ?_ _) | (with_reducible refine Kd.C_drewN ?_ _) | (with_reducible refine Kd.C_drew ?_))); (case side2 => exact HC0.out); (case side3 => exact Tabs.below HT.out (by repeat (first | exact HB.out | apply bA | apply bN | apply bD | refine bS ?_ GE234.out))); rintro e w60 ⟨rfl, hb⟩; refine ⟨_, rfl, ?_⟩; have n0_ := Aside0.mk (blk_below (g := gb234) (o := .cells #[.int .u8 a2_0, .int .u8 a2_1, .int .i64 a2_2] 30 (0, 0)) (by (with_reducible repeat (first | refine kN ?_ _ | refine kD ?_ | refine kA ?_ _)); exact BK234.out) hb); have n1_ := Aside0.mk (below_step (by repeat (first | exact HB.out | apply bA | apply bN | apply bD | refine bS ?_ GE234.out)) hb); clear BK234; clear HB; have BK234 := n0_; have HB := n1_; clear n0_ n1_; (try clear hb); (try clear hb2); (try clear hk); (try clear hi)))
                 go_ret2
                 exact ⟨by first | rfl | (simp [errW_none, errW_some] <;> rfl) | (simp [*, errW_none, errW_some] <;> rfl), by repeat (first | exact HB.out | apply bA | apply bN | apply bD | refine bS ?_ GE234.out)⟩
               ·replace c54 := Bool.eq_false_iff.mpr c54
                subst c54
                have H1 : (some (0, 3)) = some (r1, r2) := by rw [if_neg (show ¬ (false = true) by decide)] at H; exact H
                clear H
                have H := H1
                clear H1
                simp only [Option.some.injEq, Prod.mk.injEq] at H
                obtain ⟨rfl, rfl⟩ := H
                go_wp2
                go_ret2
                exact ⟨by first | rfl | (simp [errW_none, errW_some] <;> rfl) | (simp [*, errW_none, errW_some] <;> rfl), by repeat (first | exact HB.out | apply bA | apply bN | apply bD | refine bS ?_ GE234.out)⟩

end Go.Proofs.YtloafpnniooliaaDoor.Pa
