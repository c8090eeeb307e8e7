-- Laid by a program of this claim's own (wip/tools/mkprint.py, ext.py): walks of the functions that the statements reach.
import Derived.Test.YtloafpnniooliaaDoorPax0
import Derived.Test.YtloafpnniooliaaDoorPax2
import Derived.Test.YtloafpnniooliaaDoorPax3
import Derived.Test.YtloafpnniooliaaDoorPax9
namespace Go.Proofs.YtloafpnniooliaaDoor.Pa
open Go.RowKit Go.Proofs.YtloafpnniooliaaDoor.Ext Go.Proofs.YtloafpnniooliaaDoorW.PrintWords Go.Proofs.YtloafpnniooliaaDoorW.PrintLast Go.Proofs.YtloafpnniooliaaDoorW.PrintMore
attribute [local go_sem] max2_int min2_int max_two min_two max_three min_three max_four min_four   -- for this text's walks alone
set_option linter.unusedVariables false
set_option linter.unusedSimpArgs false

/-! ### motion_Go: function 10 -/
mutual
def motion_Go.j0 : Nat → List Int → Int → Int → Bool → Int → Int → Int → Option (Int × Bool × Bool × Int)
  | 0, _, _, _, _, _, _, _ => none
  | k + 1, x0, x1, x3, x23, x250000, x250001, x250002 => if x23 = true then ((motion_line.f k x0 x250000 x250001 x250002).bind fun bt252 => (some (bt252.1, bt252.2.1, bt252.2.2.1, bt252.2.2.2))) else (if x250000 = 106 then (motion_Go.j1 k x0 x3 x250000 (x250000 == 106) x250000 x250001 x250002 x1 false false) else (motion_Go.j1 k x0 x3 x250000 (x250000 == 107) x250000 x250001 x250002 x1 false false))
def motion_Go.j2 : Nat → List Int → Int → Int → Int → Int → Int → Bool → Bool → Option (Int × Bool × Bool × Int)
  | 0, _, _, _, _, _, _, _, _ => none
  | k + 1, x0, x3, x250000, x250001, x250002, x257000, x257001, x257002 => (motion_times.f x250000 x250001 x250002).bind fun t257 => (motion_Go.l0 k x0 x3 t257 0 x250000 x250001 x250002 x257000 x257001 x257002)
def motion_Go.l0 : Nat → List Int → Int → Int → Int → Int → Int → Int → Int → Bool → Bool → Option (Int × Bool × Bool × Int)
  | 0, _, _, _, _, _, _, _, _, _, _ => none
  | k + 1, x0, x3, x43, x44, x250000, x250001, x250002, x257000, x257001, x257002 => if x44 < x43 then ((motion_step.f k x0 x257000 x250000 x250001 x250002 x3).bind fun bt258 => (if bt258.2 = 0 then (motion_Go.l0 k x0 x3 x43 (wrap64 (x44 + 1)) x250000 x250001 x250002 bt258.1 x257001 x257002) else (some (0, false, false, bt258.2)))) else (some (x257000, x257001, x257002, 0))
def motion_Go.j1 : Nat → List Int → Int → Int → Bool → Int → Int → Int → Int → Bool → Bool → Option (Int × Bool × Bool × Int)
  | 0, _, _, _, _, _, _, _, _, _, _ => none
  | k + 1, x0, x3, x32, x33, x250000, x250001, x250002, x257000, x257001, x257002 => if x33 = true then (motion_Go.j2 k x0 x3 x250000 x250001 x250002 x257000 true x257002) else (if x32 = 101 then (motion_Go.j2 k x0 x3 x250000 x250001 x250002 x257000 x257001 true) else (if x32 = 102 then (motion_Go.j2 k x0 x3 x250000 x250001 x250002 x257000 x257001 true) else (if x32 = 116 then (motion_Go.j2 k x0 x3 x250000 x250001 x250002 x257000 x257001 true) else (motion_Go.j2 k x0 x3 x250000 x250001 x250002 x257000 x257001 x257002))))
end
def motion_Go.f (k : Nat) (l0 : List Int) (a1 : Int) (a2_0 : Int) (a2_1 : Int) (a2_2 : Int) (a3 : Int) : Option (Int × Bool × Bool × Int) := (glyph_Floor.f k l0 a1).bind fun t251 => (if a2_0 = 71 then (motion_Go.j0 k l0 t251 a3 true a2_0 a2_1 a2_2) else (motion_Go.j0 k l0 t251 a3 (a2_0 == 103) a2_0 a2_1 a2_2))
theorem motion_Go.mono_l : ∀ k, (∀ y0 y1 y2 y3 y4 y5 y6, LeO (motion_Go.j0 k y0 y1 y2 y3 y4 y5 y6) (motion_Go.j0 (k + 1) y0 y1 y2 y3 y4 y5 y6)) ∧ (∀ y0 y1 y2 y3 y4 y5 y6 y7, LeO (motion_Go.j2 k y0 y1 y2 y3 y4 y5 y6 y7) (motion_Go.j2 (k + 1) y0 y1 y2 y3 y4 y5 y6 y7)) ∧ (∀ y0 y1 y2 y3 y4 y5 y6 y7 y8 y9, LeO (motion_Go.l0 k y0 y1 y2 y3 y4 y5 y6 y7 y8 y9) (motion_Go.l0 (k + 1) y0 y1 y2 y3 y4 y5 y6 y7 y8 y9)) ∧ (∀ y0 y1 y2 y3 y4 y5 y6 y7 y8 y9, LeO (motion_Go.j1 k y0 y1 y2 y3 y4 y5 y6 y7 y8 y9) (motion_Go.j1 (k + 1) y0 y1 y2 y3 y4 y5 y6 y7 y8 y9))
  | 0 => ⟨fun _ _ _ _ _ _ _ r h => by simp [motion_Go.j0] at h, fun _ _ _ _ _ _ _ _ r h => by simp [motion_Go.j2] at h, fun _ _ _ _ _ _ _ _ _ _ r h => by simp [motion_Go.l0] at h, fun _ _ _ _ _ _ _ _ _ _ r h => by simp [motion_Go.j1] at h⟩
  | k + 1 => by
    obtain ⟨ih0, ih1, ih2, ih3⟩ := motion_Go.mono_l k
    refine ⟨?_, ?_, ?_, ?_⟩
    · intro y0 y1 y2 y3 y4 y5 y6
      unfold motion_Go.j0
      repeat' first
      | (with_reducible exact ih0 _ _ _ _ _ _ _)
      | (with_reducible exact ih1 _ _ _ _ _ _ _ _)
      | (with_reducible exact ih2 _ _ _ _ _ _ _ _ _ _)
      | (with_reducible exact ih3 _ _ _ _ _ _ _ _ _ _)
      | (with_reducible exact glyph_Floor.mono _ _ _)
      | (with_reducible exact motion_line.mono _ _ _ _ _)
      | (with_reducible exact motion_step.mono _ _ _ _ _ _ _)
      | (with_reducible exact LeO.refl _)
      | (with_reducible exact LeO.none _)
      | (with_reducible refine LeO.ite ?_ ?_)
      | (with_reducible refine LeO.bind ?_ (fun _ => ?_))
      | exact ih0 _ _ _ _ _ _ _
      | exact ih1 _ _ _ _ _ _ _ _
      | exact ih2 _ _ _ _ _ _ _ _ _ _
      | exact ih3 _ _ _ _ _ _ _ _ _ _
      | exact glyph_Floor.mono _ _ _
      | exact motion_line.mono _ _ _ _ _
      | exact motion_step.mono _ _ _ _ _ _ _
      | exact LeO.none _
      | refine LeO.ite ?_ ?_
      | refine LeO.bind ?_ (fun _ => ?_)
    · intro y0 y1 y2 y3 y4 y5 y6 y7
      unfold motion_Go.j2
      repeat' first
      | (with_reducible exact ih0 _ _ _ _ _ _ _)
      | (with_reducible exact ih1 _ _ _ _ _ _ _ _)
      | (with_reducible exact ih2 _ _ _ _ _ _ _ _ _ _)
      | (with_reducible exact ih3 _ _ _ _ _ _ _ _ _ _)
      | (with_reducible exact glyph_Floor.mono _ _ _)
      | (with_reducible exact motion_line.mono _ _ _ _ _)
      | (with_reducible exact motion_step.mono _ _ _ _ _ _ _)
      | (with_reducible exact LeO.refl _)
      | (with_reducible exact LeO.none _)
      | (with_reducible refine LeO.ite ?_ ?_)
      | (with_reducible refine LeO.bind ?_ (fun _ => ?_))
      | exact ih0 _ _ _ _ _ _ _
      | exact ih1 _ _ _ _ _ _ _ _
      | exact ih2 _ _ _ _ _ _ _ _ _ _
      | exact ih3 _ _ _ _ _ _ _ _ _ _
      | exact glyph_Floor.mono _ _ _
      | exact motion_line.mono _ _ _ _ _
      | exact motion_step.mono _ _ _ _ _ _ _
      | exact LeO.none _
      | refine LeO.ite ?_ ?_
      | refine LeO.bind ?_ (fun _ => ?_)
    · intro y0 y1 y2 y3 y4 y5 y6 y7 y8 y9
      unfold motion_Go.l0
      repeat' first
      | (with_reducible exact ih0 _ _ _ _ _ _ _)
      | (with_reducible exact ih1 _ _ _ _ _ _ _ _)
      | (with_reducible exact ih2 _ _ _ _ _ _ _ _ _ _)
      | (with_reducible exact ih3 _ _ _ _ _ _ _ _ _ _)
      | (with_reducible exact glyph_Floor.mono _ _ _)
      | (with_reducible exact motion_line.mono _ _ _ _ _)
      | (with_reducible exact motion_step.mono _ _ _ _ _ _ _)
      | (with_reducible exact LeO.refl _)
      | (with_reducible exact LeO.none _)
      | (with_reducible refine LeO.ite ?_ ?_)
      | (with_reducible refine LeO.bind ?_ (fun _ => ?_))
      | exact ih0 _ _ _ _ _ _ _
      | exact ih1 _ _ _ _ _ _ _ _
      | exact ih2 _ _ _ _ _ _ _ _ _ _
      | exact ih3 _ _ _ _ _ _ _ _ _ _
      | exact glyph_Floor.mono _ _ _
      | exact motion_line.mono _ _ _ _ _
      | exact motion_step.mono _ _ _ _ _ _ _
      | exact LeO.none _
      | refine LeO.ite ?_ ?_
      | refine LeO.bind ?_ (fun _ => ?_)
    · intro y0 y1 y2 y3 y4 y5 y6 y7 y8 y9
      unfold motion_Go.j1
      repeat' first
      | (with_reducible exact ih0 _ _ _ _ _ _ _)
      | (with_reducible exact ih1 _ _ _ _ _ _ _ _)
      | (with_reducible exact ih2 _ _ _ _ _ _ _ _ _ _)
      | (with_reducible exact ih3 _ _ _ _ _ _ _ _ _ _)
      | (with_reducible exact glyph_Floor.mono _ _ _)
      | (with_reducible exact motion_line.mono _ _ _ _ _)
      | (with_reducible exact motion_step.mono _ _ _ _ _ _ _)
      | (with_reducible exact LeO.refl _)
      | (with_reducible exact LeO.none _)
      | (with_reducible refine LeO.ite ?_ ?_)
      | (with_reducible refine LeO.bind ?_ (fun _ => ?_))
      | exact ih0 _ _ _ _ _ _ _
      | exact ih1 _ _ _ _ _ _ _ _
      | exact ih2 _ _ _ _ _ _ _ _ _ _
      | exact ih3 _ _ _ _ _ _ _ _ _ _
      | exact glyph_Floor.mono _ _ _
      | exact motion_line.mono _ _ _ _ _
      | exact motion_step.mono _ _ _ _ _ _ _
      | exact LeO.none _
      | refine LeO.ite ?_ ?_
      | refine LeO.bind ?_ (fun _ => ?_)
theorem motion_Go.mono : ∀ a0 a1 a2 a3 a4 a5 k, LeO (motion_Go.f k a0 a1 a2 a3 a4 a5) (motion_Go.f (k + 1) a0 a1 a2 a3 a4 a5) := by
  intro a0 a1 a2 a3 a4 a5 k
  obtain ⟨ih0, ih1, ih2, ih3⟩ := motion_Go.mono_l k
  unfold motion_Go.f
  repeat' first
      | (with_reducible exact ih0 _ _ _ _ _ _ _)
      | (with_reducible exact ih1 _ _ _ _ _ _ _ _)
      | (with_reducible exact ih2 _ _ _ _ _ _ _ _ _ _)
      | (with_reducible exact ih3 _ _ _ _ _ _ _ _ _ _)
      | (with_reducible exact glyph_Floor.mono _ _ _)
      | (with_reducible exact motion_line.mono _ _ _ _ _)
      | (with_reducible exact motion_step.mono _ _ _ _ _ _ _)
      | (with_reducible exact LeO.refl _)
      | (with_reducible exact LeO.none _)
      | (with_reducible refine LeO.ite ?_ ?_)
      | (with_reducible refine LeO.bind ?_ (fun _ => ?_))
      | exact ih0 _ _ _ _ _ _ _
      | exact ih1 _ _ _ _ _ _ _ _
      | exact ih2 _ _ _ _ _ _ _ _ _ _
      | exact ih3 _ _ _ _ _ _ _ _ _ _
      | exact glyph_Floor.mono _ _ _
      | exact motion_line.mono _ _ _ _ _
      | exact motion_step.mono _ _ _ _ _ _ _
      | exact LeO.none _
      | refine LeO.ite ?_ ?_
      | refine LeO.bind ?_ (fun _ => ?_)
set_option maxHeartbeats 8000000 in
set_option maxRecDepth 100000 in
theorem motion_Go.calls (k : Nat) (A0 : Option Addr) (c0 : Nat) (l0 : List Int) (a1 : Int) (a2_0 : Int) (a2_1 : Int) (a2_2 : Int) (a3 : Int) (r1 : Int) (r2 : Bool) (r3 : Bool) (r4 : Int) (w : World) (hT : Tabs w) (hr0 : Kd.C (Kd.int .u8) w A0 l0.length l0) (hc0 : l0.length ≤ c0) (h : motion_Go.f k l0 a1 a2_0 a2_1 a2_2 a3 = some (r1, r2, r3, r4)) :
  Calls Tryd.prog 10 #[.slice A0 l0.length c0, .int .i64 a1, .agg #[.int .u8 a2_0, .int .u8 a2_1, .int .i64 a2_2], .int .i64 a3] w fun e w' => e = .returned (.tuple #[.agg #[.int .i64 r1, .bool r2, .bool r3], .int .i64 r4]) ∧ Below w.heap.size w w' := by
 have hu30 := Tryd.underlying30
 have hu25 := Tryd.underlying25
 have HR0 := Aside0.mk hr0
 have HC0 := Aside0.mk hc0
 clear hr0 hc0
 have HB := Aside0.mk (Below.refl w.heap.size w)
 have HT := Aside0.mk hT
 clear hT
 have H : ((glyph_Floor.f k l0 a1).bind fun t251 => (if a2_0 = 71 then (motion_Go.j0 k l0 t251 a3 true a2_0 a2_1 a2_2) else (motion_Go.j0 k l0 t251 a3 (a2_0 == 103) a2_0 a2_1 a2_2))) = some (r1, r2, r3, r4) := h
 clear h
 replace H := Option.bind_eq_some_iff.mp H
 obtain ⟨t251, A50, H⟩ := H
 replace H : (if a2_0 = 71 then (motion_Go.j0 k l0 t251 a3 true a2_0 a2_1 a2_2) else (motion_Go.j0 k l0 t251 a3 (a2_0 == 103) a2_0 a2_1 a2_2)) = some (r1, r2, r3, r4) := H
 have A5 := Aside0.mk A50
 clear A50
 have HC6 := Aside0.mk H
 clear H
 go_enter Tryd.func10, Tryd.ntmps10
 go_upto_region 2 with (first | ((with_reducible refine gate_dst (N := 6) rfl ?_); refine box_event ?hg (N := 6) ?hd (cs := #[.int .u8 a2_0, .int .u8 a2_1, .int .i64 a2_2]) (t := 30) ?hr ?_; (case hd => rfl); (case hg => rfl); (case hr => first | (go_simp; done) | (go_simp; rfl)); intro gb249 hg w7 hbox hb; have n0_ := Aside0.mk (below_step (by repeat (first | exact HB.out | apply bA | apply bN | apply bD)) hb); have n1_ := Aside0.mk (hbox); have n2_ := Aside0.mk ((by rw [hg]; exact (below_size (by repeat (first | exact HB.out | apply bA | apply bN | apply bD))) : w.heap.size ≤ gb249)); have n3_ := Aside0.mk ((by rw [hg]; exact (below_size (by repeat (first | exact HB.out | apply bA | apply bN | apply bD))) : w.heap.size ≤ gb249)); clear HB; have HB := n0_; have BK249 := n1_; have GW249 := n2_; have GE249 := n3_; clear n0_ n1_ n2_ n3_; clear hb hbox hg) | ((with_reducible refine gate_dst (N := 8) rfl ?_); refine box_event ?hg (N := 8) ?hd (cs := #[.int .i64 0, .bool false, .bool false]) (t := 25) ?hr ?_; (case hd => rfl); (case hg => rfl); (case hr => first | (go_simp; done) | (go_simp; rfl)); intro gb250 hg w8 hbox hb; have n0_ := Aside0.mk (blk_below (g := gb249) (o := .cells #[.int .u8 a2_0, .int .u8 a2_1, .int .i64 a2_2] 30 (0, 0)) (by (with_reducible repeat (first | refine kN ?_ _ | refine kD ?_ | refine kA ?_ _)); exact BK249.out) hb); have n1_ := Aside0.mk (below_step (by repeat (first | exact HB.out | apply bA | apply bN | apply bD | refine bS ?_ GE249.out)) hb); have n2_ := Aside0.mk (hbox); have n3_ := Aside0.mk ((by rw [hg]; exact (below_size (by repeat (first | exact HB.out | apply bA | apply bN | apply bD | refine bS ?_ GE249.out))) : w.heap.size ≤ gb250)); have n4_ := Aside0.mk ((by rw [hg]; exact (below_size (by repeat (first | exact HB.out | apply bA | apply bN | apply bD | refine bS ?_ GE249.out))) : w.heap.size ≤ gb250)); have n5_ := Aside0.mk ((by rw [hg]; exact Nat.ne_of_lt (blk_lt (g := gb249) (o := .cells #[.int .u8 a2_0, .int .u8 a2_1, .int .i64 a2_2] 30 (0, 0)) (by (with_reducible repeat (first | refine kN ?_ _ | refine kD ?_ | refine kA ?_ _)); exact BK249.out)) : gb249 ≠ gb250)); have n6_ := Aside0.mk ((by rw [hg]; exact Nat.ne_of_gt (blk_lt (g := gb249) (o := .cells #[.int .u8 a2_0, .int .u8 a2_1, .int .i64 a2_2] 30 (0, 0)) (by (with_reducible repeat (first | refine kN ?_ _ | refine kD ?_ | refine kA ?_ _)); exact BK249.out)) : gb250 ≠ gb249)); clear BK249; clear HB; have BK249 := n0_; have HB := n1_; have BK250 := n2_; have GW250 := n3_; have GE250 := n4_; have NB249_250 := n5_; have NB250_249 := n6_; clear n0_ n1_ n2_ n3_ n4_ n5_ n6_; clear hb hbox hg) | ((with_reducible refine gate_callee (f := 21) rfl ?_); refine goesL_ (some 15) rfl rfl Tryd.func21 (by kernel_rfl) rfl #[.slice A0 l0.length c0, .int .i64 a1] rfl (by (try simp only [List.map_toArray, List.map_cons, List.map_nil]); first | done | rfl | (simp only [List.length_drop, List.length_take]; rfl)) ?_; (with_reducible refine (glyph_Floor.calls k _ _ l0 a1 t251 _ ?side3 ?side1 ?side2 A5.out).mono ?_); (case side1 => repeat (first | exact (Kd.C_below HR0.out HB.out) | (with_reducible refine Kd.C_alloc ?_ _) | (with_reducible refine Kd.C_drewN ?_ _) | (with_reducible refine Kd.C_drew ?_))); (case side2 => exact HC0.out); (case side3 => exact Tabs.below HT.out (by repeat (first | (with_reducible first | exact HB.out | apply below_alloc | apply pw_below_drewN | apply below_drew1 | refine below_set ?_ GE249.out | refine below_set ?_ GE250.out) | exact HB.out))); rintro e w9 ⟨rfl, hb⟩; refine ⟨_, rfl, ?_⟩; have n0_ := Aside0.mk (blk_below (g := gb249) (o := .cells #[.int .u8 a2_0, .int .u8 a2_1, .int .i64 a2_2] 30 (0, 0)) (by (with_reducible repeat (first | refine kN ?_ _ | refine kD ?_ | refine kA ?_ _)); exact BK249.out) hb); have n1_ := Aside0.mk (blk_below (g := gb250) (o := .cells #[.int .i64 0, .bool false, .bool false] 25 (0, 0)) (by (with_reducible repeat (first | refine kN ?_ _ | refine kD ?_ | refine kA ?_ _)); exact BK250.out) hb); have n2_ := Aside0.mk (below_step (by repeat (first | (with_reducible first | exact HB.out | apply below_alloc | apply pw_below_drewN | apply below_drew1 | refine below_set ?_ GE249.out | refine below_set ?_ GE250.out) | exact HB.out)) hb); clear BK249; clear BK250; clear HB; have BK249 := n0_; have BK250 := n1_; have HB := n2_; clear n0_ n1_ n2_; (try clear hb); (try clear hb2); (try clear hk); (try clear hi)))
 (try simp only [Act.put, zT, z0, zS])
 go_cut [23] (fun v23 wc => ∃ (kq : Nat) (x23_5 : Bool), v23 = .bool x23_5 ∧ Aside0 (motion_Go.j0 kq l0 t251 a3 x23_5 a2_0 a2_1 a2_2 = some (r1, r2, r3, r4)) ∧ Aside0 (kq ≤ k) ∧ Aside0 (wc.heap[gb249]? = some (.cells #[.int .u8 a2_0, .int .u8 a2_1, .int .i64 a2_2] 30 (0, 0))) ∧ Aside0 (wc.heap[gb250]? = some (.cells #[.int .i64 0, .bool false, .bool false] 25 (0, 0))) ∧ Aside0 (Below w.heap.size w wc))
 case first =>
  have H := HC6.out
  clear HC6
  by_cases c10 : a2_0 = 71
  ·rw [if_pos c10] at H
   have c10b0 : (a2_0 == 71) = true := beq_iff_eq.mpr c10
   have c10b1 : (a2_0 != 71) = false := bne_eq_false_iff_eq.mpr c10
   clear c10
   (first | rw [c10b0] | (simp only [i64_w, i32_w]; rw [c10b0]) | skip)
   have H' := Aside0.mk H
   clear H
   have hnb11 := NB249_250.out
   have hnc11 := NB250_249.out
   have hcz12_0 : w9.cell? ⟨gb249, 0, none⟩ = some (.int .u8 a2_0) := (blk_cell BK249.out 0).trans rfl
   have hcz12_1 : w9.cell? ⟨gb249, 1, none⟩ = some (.int .u8 a2_1) := (blk_cell BK249.out 1).trans rfl
   have hcz12_2 : w9.cell? ⟨gb249, 2, none⟩ = some (.int .i64 a2_2) := (blk_cell BK249.out 2).trans rfl
   have hfz12_0 := blk_frozen BK249.out 0
   have hfz12_1 := blk_frozen BK249.out 1
   have hfz12_2 := blk_frozen BK249.out 2
   go_wp2
   go_meet
   case rel => exact ⟨_, (true), (by first | rfl | (simp; done) | (simp [*]; done)), H', ⟨by first | omega | exact Nat.le_refl _⟩, ⟨by (with_reducible repeat (first | refine kN ?_ _ | refine kD ?_ | refine kA ?_ _)); exact BK249.out⟩, ⟨by (with_reducible repeat (first | refine kN ?_ _ | refine kD ?_ | refine kA ?_ _)); exact BK250.out⟩, ⟨by repeat (first | (with_reducible first | exact HB.out | apply below_alloc | apply pw_below_drewN | apply below_drew1 | refine below_set ?_ GE249.out | refine below_set ?_ GE250.out) | exact HB.out)⟩⟩
  ·rw [if_neg c10] at H
   have c10b0 : (a2_0 == 71) = false := beq_eq_false_iff_ne.mpr c10
   have c10b1 : (a2_0 != 71) = true := bne_iff_ne.mpr c10
   (first | rw [c10b0] | (simp only [i64_w, i32_w]; rw [c10b0]) | skip)
   have H' := Aside0.mk H
   clear H
   have hnb13 := NB249_250.out
   have hnc13 := NB250_249.out
   have hcz14_0 : w9.cell? ⟨gb249, 0, none⟩ = some (.int .u8 a2_0) := (blk_cell BK249.out 0).trans rfl
   have hcz14_1 : w9.cell? ⟨gb249, 1, none⟩ = some (.int .u8 a2_1) := (blk_cell BK249.out 1).trans rfl
   have hcz14_2 : w9.cell? ⟨gb249, 2, none⟩ = some (.int .i64 a2_2) := (blk_cell BK249.out 2).trans rfl
   have hfz14_0 := blk_frozen BK249.out 0
   have hfz14_1 := blk_frozen BK249.out 1
   have hfz14_2 := blk_frozen BK249.out 2
   go_wp2
   go_meet
   case rel => exact ⟨_, ((a2_0 == 103)), (by first | rfl | (simp; done) | (simp [*]; done)), H', ⟨by first | omega | exact Nat.le_refl _⟩, ⟨by (with_reducible repeat (first | refine kN ?_ _ | refine kD ?_ | refine kA ?_ _)); exact BK249.out⟩, ⟨by (with_reducible repeat (first | refine kN ?_ _ | refine kD ?_ | refine kA ?_ _)); exact BK250.out⟩, ⟨by repeat (first | (with_reducible first | exact HB.out | apply below_alloc | apply pw_below_drewN | apply below_drew1 | refine below_set ?_ GE249.out | refine below_set ?_ GE250.out) | exact HB.out)⟩⟩
 case rest =>
  clear HC6
  try clear c1
  try clear c2
  try clear p2
  try clear c10
  try clear c10b0
  try clear c10b1
  try clear c11
  try clear c13
  try clear hcz12_0
  try clear hcz12_1
  try clear hcz12_2
  try clear hcz14_0
  try clear hcz14_1
  try clear hcz14_2
  try clear hfz12_0
  try clear hfz12_1
  try clear hfz12_2
  try clear hfz14_0
  try clear hfz14_1
  try clear hfz14_2
  obtain ⟨kq, x23_5, rfl, HA, HJ5, BK249, BK250, HB⟩ := hcut
  cases kq with
  | zero => exact absurd HA.out (by simp [motion_Go.j0])
  | succ kj5 =>
   have H := HA.out
   clear HA
   simp only [motion_Go.j0] at H
   by_cases c15 : x23_5 = true
   ·subst c15
    have H1 : ((motion_line.f kj5 l0 a2_0 a2_1 a2_2).bind fun bt252 => (some (bt252.1, bt252.2.1, bt252.2.2.1, bt252.2.2.2))) = some (r1, r2, r3, r4) := by rw [if_pos rfl] at H; exact H
    clear H
    have H := H1
    clear H1
    replace H := Option.bind_eq_some_iff.mp H
    obtain ⟨⟨t252, t253, t254, t255⟩, A160, H⟩ := H
    replace H : (some (t252, t253, t254, t255)) = some (r1, r2, r3, r4) := H
    have A16 := Aside0.mk A160
    clear A160
    simp only [Option.some.injEq, Prod.mk.injEq] at H
    obtain ⟨rfl, rfl, rfl, rfl⟩ := H
    have hnb17 := NB249_250.out
    have hnc17 := NB250_249.out
    have hcz18_0 : wc.cell? ⟨gb249, 0, none⟩ = some (.int .u8 a2_0) := (blk_cell BK249.out 0).trans rfl
    have hcz18_1 : wc.cell? ⟨gb249, 1, none⟩ = some (.int .u8 a2_1) := (blk_cell BK249.out 1).trans rfl
    have hcz18_2 : wc.cell? ⟨gb249, 2, none⟩ = some (.int .i64 a2_2) := (blk_cell BK249.out 2).trans rfl
    have hfz18_0 := blk_frozen BK249.out 0
    have hfz18_1 := blk_frozen BK249.out 1
    have hfz18_2 := blk_frozen BK249.out 2
    go_wp2_with (first | ((with_reducible refine gate_callee (f := 22) rfl ?_); refine goesL_ (some 26) rfl rfl Tryd.func22 (by kernel_rfl) rfl #[.slice A0 l0.length c0, .agg #[.int .u8 a2_0, .int .u8 a2_1, .int .i64 a2_2]] rfl (by (try simp only [List.map_toArray, List.map_cons, List.map_nil]); first | done | rfl | (simp only [List.length_drop, List.length_take]; rfl)) ?_; (with_reducible refine (motion_line.calls kj5 _ _ l0 a2_0 a2_1 a2_2 t252 t253 t254 t255 _ ?side1 ?side2 A16.out).mono ?_); (case side1 => repeat (first | exact (Kd.C_below HR0.out HB.out) | (with_reducible refine Kd.C_alloc ?_ _) | (with_reducible refine Kd.C_drewN ?_ _) | (with_reducible refine Kd.C_drew ?_))); (case side2 => exact HC0.out); rintro e w19 ⟨rfl, hb⟩; refine ⟨_, rfl, ?_⟩; have n0_ := Aside0.mk (blk_below (g := gb249) (o := .cells #[.int .u8 a2_0, .int .u8 a2_1, .int .i64 a2_2] 30 (0, 0)) (by (with_reducible repeat (first | refine kN ?_ _ | refine kD ?_ | refine kA ?_ _)); exact BK249.out) hb); have n1_ := Aside0.mk (blk_below (g := gb250) (o := .cells #[.int .i64 0, .bool false, .bool false] 25 (0, 0)) (by (with_reducible repeat (first | refine kN ?_ _ | refine kD ?_ | refine kA ?_ _)); exact BK250.out) hb); have n2_ := Aside0.mk (below_step (by repeat (first | (with_reducible first | exact HB.out | apply below_alloc | apply pw_below_drewN | apply below_drew1 | refine below_set ?_ GE249.out | refine below_set ?_ GE250.out) | exact HB.out)) hb); clear BK249; clear BK250; clear HB; have BK249 := n0_; have BK250 := n1_; have HB := n2_; clear n0_ n1_ n2_; (try clear hb); (try clear hb2); (try clear hk); (try clear hi); have hcz20_0 : w19.cell? ⟨gb250, 0, none⟩ = some (.int .i64 0) := (blk_cell BK250.out 0).trans rfl; have hcz20_1 : w19.cell? ⟨gb250, 1, none⟩ = some (.bool false) := (blk_cell BK250.out 1).trans rfl; have hcz20_2 : w19.cell? ⟨gb250, 2, none⟩ = some (.bool false) := (blk_cell BK250.out 2).trans rfl; have hfz20_0 := blk_frozen BK250.out 0; have hfz20_1 := blk_frozen BK250.out 1; have hfz20_2 := blk_frozen BK250.out 2))
    refine bodyPost_ret (results_ct rfl _ _ gb250 25 #[.int .i64 t252, .bool t253, .bool t254] (0, 0) _ rfl (by (with_reducible repeat (first | refine kN ?_ _ | refine kD ?_ | refine kA ?_ _)); refine blk_put (cs := #[.int .i64 t252, .bool t253, .bool false]) ?_ 2 _ rfl; (with_reducible repeat (first | refine kN ?_ _ | refine kD ?_ | refine kA ?_ _)); refine blk_put (cs := #[.int .i64 t252, .bool false, .bool false]) ?_ 1 _ rfl; (with_reducible repeat (first | refine kN ?_ _ | refine kD ?_ | refine kA ?_ _)); refine blk_put (cs := #[.int .i64 0, .bool false, .bool false]) ?_ 0 _ rfl; (with_reducible repeat (first | refine kN ?_ _ | refine kD ?_ | refine kA ?_ _)); exact BK250.out) Tryd.underlying25 rfl (by kernel_rfl)) rfl ?_
    exact ⟨by first | rfl | (simp [errW_none, errW_some] <;> rfl) | (simp [*, errW_none, errW_some] <;> rfl), by repeat (first | (with_reducible first | exact HB.out | apply below_alloc | apply pw_below_drewN | apply below_drew1 | refine below_set ?_ GE249.out | refine below_set ?_ GE250.out) | exact HB.out)⟩
   ·replace c15 := Bool.eq_false_iff.mpr c15
    subst c15
    have H1 : (if a2_0 = 106 then (motion_Go.j1 kj5 l0 a3 a2_0 (a2_0 == 106) a2_0 a2_1 a2_2 t251 false false) else (motion_Go.j1 kj5 l0 a3 a2_0 (a2_0 == 107) a2_0 a2_1 a2_2 t251 false false)) = some (r1, r2, r3, r4) := by rw [if_neg (show ¬ (false = true) by decide)] at H; exact H
    clear H
    have H := H1
    clear H1
    have HC21 := Aside0.mk H
    clear H
    go_upto_block 0 with (first | ((with_reducible refine gate_dst (N := 10) rfl ?_); refine box_event ?hg (N := 10) ?hd (cs := #[.int .i64 0, .bool false, .bool false]) (t := 25) ?hr ?_; (case hd => rfl); (case hg => rfl); (case hr => first | (go_simp; done) | (go_simp; rfl)); intro gb256 hg w22 hbox hb; have n0_ := Aside0.mk (blk_below (g := gb249) (o := .cells #[.int .u8 a2_0, .int .u8 a2_1, .int .i64 a2_2] 30 (0, 0)) (by (with_reducible repeat (first | refine kN ?_ _ | refine kD ?_ | refine kA ?_ _)); exact BK249.out) hb); have n1_ := Aside0.mk (blk_below (g := gb250) (o := .cells #[.int .i64 0, .bool false, .bool false] 25 (0, 0)) (by (with_reducible repeat (first | refine kN ?_ _ | refine kD ?_ | refine kA ?_ _)); exact BK250.out) hb); have n2_ := Aside0.mk (below_step (by repeat (first | (with_reducible first | exact HB.out | apply below_alloc | apply pw_below_drewN | apply below_drew1 | refine below_set ?_ GE249.out | refine below_set ?_ GE250.out) | exact HB.out)) hb); have n3_ := Aside0.mk (hbox); have n4_ := Aside0.mk ((by rw [hg]; exact (below_size (by repeat (first | (with_reducible first | exact HB.out | apply below_alloc | apply pw_below_drewN | apply below_drew1 | refine below_set ?_ GE249.out | refine below_set ?_ GE250.out) | exact HB.out))) : w.heap.size ≤ gb256)); have n5_ := Aside0.mk ((by rw [hg]; exact (below_size (by repeat (first | (with_reducible first | exact HB.out | apply below_alloc | apply pw_below_drewN | apply below_drew1 | refine below_set ?_ GE249.out | refine below_set ?_ GE250.out) | exact HB.out))) : w.heap.size ≤ gb256)); have n6_ := Aside0.mk ((by rw [hg]; exact Nat.ne_of_lt (blk_lt (g := gb249) (o := .cells #[.int .u8 a2_0, .int .u8 a2_1, .int .i64 a2_2] 30 (0, 0)) (by (with_reducible repeat (first | refine kN ?_ _ | refine kD ?_ | refine kA ?_ _)); exact BK249.out)) : gb249 ≠ gb256)); have n7_ := Aside0.mk ((by rw [hg]; exact Nat.ne_of_gt (blk_lt (g := gb249) (o := .cells #[.int .u8 a2_0, .int .u8 a2_1, .int .i64 a2_2] 30 (0, 0)) (by (with_reducible repeat (first | refine kN ?_ _ | refine kD ?_ | refine kA ?_ _)); exact BK249.out)) : gb256 ≠ gb249)); have n8_ := Aside0.mk ((by rw [hg]; exact Nat.ne_of_lt (blk_lt (g := gb250) (o := .cells #[.int .i64 0, .bool false, .bool false] 25 (0, 0)) (by (with_reducible repeat (first | refine kN ?_ _ | refine kD ?_ | refine kA ?_ _)); exact BK250.out)) : gb250 ≠ gb256)); have n9_ := Aside0.mk ((by rw [hg]; exact Nat.ne_of_gt (blk_lt (g := gb250) (o := .cells #[.int .i64 0, .bool false, .bool false] 25 (0, 0)) (by (with_reducible repeat (first | refine kN ?_ _ | refine kD ?_ | refine kA ?_ _)); exact BK250.out)) : gb256 ≠ gb250)); clear BK249; clear BK250; clear HB; have BK249 := n0_; have BK250 := n1_; have HB := n2_; have BK256 := n3_; have GW256 := n4_; have GE256 := n5_; have NB249_256 := n6_; have NB256_249 := n7_; have NB250_256 := n8_; have NB256_250 := n9_; clear n0_ n1_ n2_ n3_ n4_ n5_ n6_ n7_ n8_ n9_; clear hb hbox hg; have hnb23 := NB256_249.out; have hnc23 := NB249_256.out; have hnb24 := NB256_250.out; have hnc24 := NB250_256.out; have hcz25_0 : w22.cell? ⟨gb256, 0, none⟩ = some (.int .i64 0) := (blk_cell BK256.out 0).trans rfl; have hcz25_1 : w22.cell? ⟨gb256, 1, none⟩ = some (.bool false) := (blk_cell BK256.out 1).trans rfl; have hcz25_2 : w22.cell? ⟨gb256, 2, none⟩ = some (.bool false) := (blk_cell BK256.out 2).trans rfl; have hfz25_0 := blk_frozen BK256.out 0; have hfz25_1 := blk_frozen BK256.out 1; have hfz25_2 := blk_frozen BK256.out 2; have hnb26 := NB249_250.out; have hnc26 := NB250_249.out; have hcz27_0 : w22.cell? ⟨gb249, 0, none⟩ = some (.int .u8 a2_0) := (blk_cell BK249.out 0).trans rfl; have hcz27_1 : w22.cell? ⟨gb249, 1, none⟩ = some (.int .u8 a2_1) := (blk_cell BK249.out 1).trans rfl; have hcz27_2 : w22.cell? ⟨gb249, 2, none⟩ = some (.int .i64 a2_2) := (blk_cell BK249.out 2).trans rfl; have hfz27_0 := blk_frozen BK249.out 0; have hfz27_1 := blk_frozen BK249.out 1; have hfz27_2 := blk_frozen BK249.out 2))
    (try simp only [Act.put, zT, z0, zS])
    go_cut [] (fun wc => ∃ (kq : Nat) (x257001_20 : Bool) (x257002_20 : Bool), Aside0 (motion_Go.j2 kq l0 a3 a2_0 a2_1 a2_2 t251 x257001_20 x257002_20 = some (r1, r2, r3, r4)) ∧ Aside0 (kq ≤ kj5) ∧ Aside0 (wc.heap[gb249]? = some (.cells #[.int .u8 a2_0, .int .u8 a2_1, .int .i64 a2_2] 30 (0, 0))) ∧ Aside0 (wc.heap[gb250]? = some (.cells #[.int .i64 0, .bool false, .bool false] 25 (0, 0))) ∧ Aside0 (wc.heap[gb256]? = some (.cells #[.int .i64 t251, .bool x257001_20, .bool x257002_20] 25 (0, 0))) ∧ Aside0 (Below w.heap.size w wc))
    case first =>
     have H := HC21.out
     clear HC21
     have HC28 := Aside0.mk H
     clear H
     go_upto_if 33 with (fail)
     go_cut [33] (fun v33 wc => ∃ (kq : Nat) (x33_27 : Bool), v33 = .bool x33_27 ∧ Aside0 (motion_Go.j1 kq l0 a3 a2_0 x33_27 a2_0 a2_1 a2_2 t251 false false = some (r1, r2, r3, r4)) ∧ Aside0 (kq ≤ kj5) ∧ Aside0 (wc.heap[gb249]? = some (.cells #[.int .u8 a2_0, .int .u8 a2_1, .int .i64 a2_2] 30 (0, 0))) ∧ Aside0 (wc.heap[gb250]? = some (.cells #[.int .i64 0, .bool false, .bool false] 25 (0, 0))) ∧ Aside0 (wc.heap[gb256]? = some (.cells #[.int .i64 t251, .bool false, .bool false] 25 (0, 0))) ∧ Aside0 (Below w.heap.size w wc))
     case first =>
      have H := HC28.out
      clear HC28
      by_cases c29 : a2_0 = 106
      ·rw [if_pos c29] at H
       have c29b0 : (a2_0 == 106) = true := beq_iff_eq.mpr c29
       have c29b1 : (a2_0 != 106) = false := bne_eq_false_iff_eq.mpr c29
       clear c29
       (first | rw [c29b0] | (simp only [i64_w, i32_w]; rw [c29b0]) | skip)
       have H' := Aside0.mk H
       clear H
       go_wp2
       go_meet
       case rel => exact ⟨_, ((a2_0 == 106)), (by first | rfl | (simp; done) | (simp [*]; done)), H', ⟨by have := HJ5.out; first | omega | exact Nat.le_refl _⟩, ⟨by (with_reducible repeat (first | refine kN ?_ _ | refine kD ?_ | refine kA ?_ _)); refine blk_far ?_ NB249_256.out _; (with_reducible repeat (first | refine kN ?_ _ | refine kD ?_ | refine kA ?_ _)); refine blk_far ?_ NB249_256.out _; (with_reducible repeat (first | refine kN ?_ _ | refine kD ?_ | refine kA ?_ _)); refine blk_far ?_ NB249_256.out _; (with_reducible repeat (first | refine kN ?_ _ | refine kD ?_ | refine kA ?_ _)); exact BK249.out⟩, ⟨by (with_reducible repeat (first | refine kN ?_ _ | refine kD ?_ | refine kA ?_ _)); refine blk_far ?_ NB250_256.out _; (with_reducible repeat (first | refine kN ?_ _ | refine kD ?_ | refine kA ?_ _)); refine blk_far ?_ NB250_256.out _; (with_reducible repeat (first | refine kN ?_ _ | refine kD ?_ | refine kA ?_ _)); refine blk_far ?_ NB250_256.out _; (with_reducible repeat (first | refine kN ?_ _ | refine kD ?_ | refine kA ?_ _)); exact BK250.out⟩, ⟨by (with_reducible repeat (first | refine kN ?_ _ | refine kD ?_ | refine kA ?_ _)); refine blk_put (cs := #[.int .i64 t251, .bool false, .bool false]) ?_ 2 _ rfl; (with_reducible repeat (first | refine kN ?_ _ | refine kD ?_ | refine kA ?_ _)); refine blk_put (cs := #[.int .i64 t251, .bool false, .bool false]) ?_ 1 _ rfl; (with_reducible repeat (first | refine kN ?_ _ | refine kD ?_ | refine kA ?_ _)); refine blk_put (cs := #[.int .i64 0, .bool false, .bool false]) ?_ 0 _ rfl; (with_reducible repeat (first | refine kN ?_ _ | refine kD ?_ | refine kA ?_ _)); exact BK256.out⟩, ⟨by repeat (first | (with_reducible first | exact HB.out | apply below_alloc | apply pw_below_drewN | apply below_drew1 | refine below_set ?_ GE249.out | refine below_set ?_ GE250.out | refine below_set ?_ GE256.out) | exact HB.out)⟩⟩
      ·rw [if_neg c29] at H
       have c29b0 : (a2_0 == 106) = false := beq_eq_false_iff_ne.mpr c29
       have c29b1 : (a2_0 != 106) = true := bne_iff_ne.mpr c29
       (first | rw [c29b0] | (simp only [i64_w, i32_w]; rw [c29b0]) | skip)
       have H' := Aside0.mk H
       clear H
       go_wp2
       go_meet
       case rel => exact ⟨_, ((a2_0 == 107)), (by first | rfl | (simp; done) | (simp [*]; done)), H', ⟨by have := HJ5.out; first | omega | exact Nat.le_refl _⟩, ⟨by (with_reducible repeat (first | refine kN ?_ _ | refine kD ?_ | refine kA ?_ _)); refine blk_far ?_ NB249_256.out _; (with_reducible repeat (first | refine kN ?_ _ | refine kD ?_ | refine kA ?_ _)); refine blk_far ?_ NB249_256.out _; (with_reducible repeat (first | refine kN ?_ _ | refine kD ?_ | refine kA ?_ _)); refine blk_far ?_ NB249_256.out _; (with_reducible repeat (first | refine kN ?_ _ | refine kD ?_ | refine kA ?_ _)); exact BK249.out⟩, ⟨by (with_reducible repeat (first | refine kN ?_ _ | refine kD ?_ | refine kA ?_ _)); refine blk_far ?_ NB250_256.out _; (with_reducible repeat (first | refine kN ?_ _ | refine kD ?_ | refine kA ?_ _)); refine blk_far ?_ NB250_256.out _; (with_reducible repeat (first | refine kN ?_ _ | refine kD ?_ | refine kA ?_ _)); refine blk_far ?_ NB250_256.out _; (with_reducible repeat (first | refine kN ?_ _ | refine kD ?_ | refine kA ?_ _)); exact BK250.out⟩, ⟨by (with_reducible repeat (first | refine kN ?_ _ | refine kD ?_ | refine kA ?_ _)); refine blk_put (cs := #[.int .i64 t251, .bool false, .bool false]) ?_ 2 _ rfl; (with_reducible repeat (first | refine kN ?_ _ | refine kD ?_ | refine kA ?_ _)); refine blk_put (cs := #[.int .i64 t251, .bool false, .bool false]) ?_ 1 _ rfl; (with_reducible repeat (first | refine kN ?_ _ | refine kD ?_ | refine kA ?_ _)); refine blk_put (cs := #[.int .i64 0, .bool false, .bool false]) ?_ 0 _ rfl; (with_reducible repeat (first | refine kN ?_ _ | refine kD ?_ | refine kA ?_ _)); exact BK256.out⟩, ⟨by repeat (first | (with_reducible first | exact HB.out | apply below_alloc | apply pw_below_drewN | apply below_drew1 | refine below_set ?_ GE249.out | refine below_set ?_ GE250.out | refine below_set ?_ GE256.out) | exact HB.out)⟩⟩
     case rest =>
      clear HC28
      try clear c1
      try clear c2
      try clear p2
      try clear c10
      try clear c10b0
      try clear c10b1
      try clear c11
      try clear c13
      try clear c15
      try clear c17
      try clear c21
      try clear c22
      try clear c23
      try clear c24
      try clear c26
      try clear c29
      try clear c29b0
      try clear c29b1
      try clear hcz12_0
      try clear hcz12_1
      try clear hcz12_2
      try clear hcz14_0
      try clear hcz14_1
      try clear hcz14_2
      try clear hcz18_0
      try clear hcz18_1
      try clear hcz18_2
      try clear hcz20_0
      try clear hcz20_1
      try clear hcz20_2
      try clear hcz25_0
      try clear hcz25_1
      try clear hcz25_2
      try clear hcz27_0
      try clear hcz27_1
      try clear hcz27_2
      try clear hfz12_0
      try clear hfz12_1
      try clear hfz12_2
      try clear hfz14_0
      try clear hfz14_1
      try clear hfz14_2
      try clear hfz18_0
      try clear hfz18_1
      try clear hfz18_2
      try clear hfz20_0
      try clear hfz20_1
      try clear hfz20_2
      try clear hfz25_0
      try clear hfz25_1
      try clear hfz25_2
      try clear hfz27_0
      try clear hfz27_1
      try clear hfz27_2
      try clear p2
      obtain ⟨kq, x33_27, rfl, HA, HJ27, BK249, BK250, BK256, HB⟩ := hcut
      cases kq with
      | zero => exact absurd HA.out (by simp [motion_Go.j1])
      | succ kj27 =>
       have H := HA.out
       clear HA
       simp only [motion_Go.j1] at H
       by_cases c30 : x33_27 = true
       ·subst c30
        have H1 : (motion_Go.j2 kj27 l0 a3 a2_0 a2_1 a2_2 t251 true false) = some (r1, r2, r3, r4) := by rw [if_pos rfl] at H; exact H
        clear H
        have H := H1
        clear H1
        have H' := Aside0.mk H
        clear H
        have hnb31 := NB256_249.out
        have hnc31 := NB249_256.out
        have hnb32 := NB256_250.out
        have hnc32 := NB250_256.out
        have hcz33_0 : wc.cell? ⟨gb256, 0, none⟩ = some (.int .i64 t251) := (blk_cell BK256.out 0).trans rfl
        have hcz33_1 : wc.cell? ⟨gb256, 1, none⟩ = some (.bool false) := (blk_cell BK256.out 1).trans rfl
        have hcz33_2 : wc.cell? ⟨gb256, 2, none⟩ = some (.bool false) := (blk_cell BK256.out 2).trans rfl
        have hfz33_0 := blk_frozen BK256.out 0
        have hfz33_1 := blk_frozen BK256.out 1
        have hfz33_2 := blk_frozen BK256.out 2
        go_wp2
        go_meet
        case rel => exact ⟨_, (true), (false), H', ⟨by have := HJ5.out; have := HJ27.out; first | omega | exact Nat.le_refl _⟩, ⟨by (with_reducible repeat (first | refine kN ?_ _ | refine kD ?_ | refine kA ?_ _)); refine blk_far ?_ NB249_256.out _; (with_reducible repeat (first | refine kN ?_ _ | refine kD ?_ | refine kA ?_ _)); exact BK249.out⟩, ⟨by (with_reducible repeat (first | refine kN ?_ _ | refine kD ?_ | refine kA ?_ _)); refine blk_far ?_ NB250_256.out _; (with_reducible repeat (first | refine kN ?_ _ | refine kD ?_ | refine kA ?_ _)); exact BK250.out⟩, ⟨by (with_reducible repeat (first | refine kN ?_ _ | refine kD ?_ | refine kA ?_ _)); refine blk_put (cs := #[.int .i64 t251, .bool false, .bool false]) ?_ 1 _ rfl; (with_reducible repeat (first | refine kN ?_ _ | refine kD ?_ | refine kA ?_ _)); exact BK256.out⟩, ⟨by repeat (first | (with_reducible first | exact HB.out | apply below_alloc | apply pw_below_drewN | apply below_drew1 | refine below_set ?_ GE249.out | refine below_set ?_ GE250.out | refine below_set ?_ GE256.out) | exact HB.out)⟩⟩
       ·replace c30 := Bool.eq_false_iff.mpr c30
        subst c30
        have H1 : (if a2_0 = 101 then (motion_Go.j2 kj27 l0 a3 a2_0 a2_1 a2_2 t251 false true) else (if a2_0 = 102 then (motion_Go.j2 kj27 l0 a3 a2_0 a2_1 a2_2 t251 false true) else (if a2_0 = 116 then (motion_Go.j2 kj27 l0 a3 a2_0 a2_1 a2_2 t251 false true) else (motion_Go.j2 kj27 l0 a3 a2_0 a2_1 a2_2 t251 false false)))) = some (r1, r2, r3, r4) := by rw [if_neg (show ¬ (false = true) by decide)] at H; exact H
        clear H
        have H := H1
        clear H1
        by_cases c34 : a2_0 = 101
        ·rw [if_pos c34] at H
         have c34b0 : (a2_0 == 101) = true := beq_iff_eq.mpr c34
         have c34b1 : (a2_0 != 101) = false := bne_eq_false_iff_eq.mpr c34
         clear c34
         have H' := Aside0.mk H
         clear H
         have hnb35 := NB256_249.out
         have hnc35 := NB249_256.out
         have hnb36 := NB256_250.out
         have hnc36 := NB250_256.out
         have hcz37_0 : wc.cell? ⟨gb256, 0, none⟩ = some (.int .i64 t251) := (blk_cell BK256.out 0).trans rfl
         have hcz37_1 : wc.cell? ⟨gb256, 1, none⟩ = some (.bool false) := (blk_cell BK256.out 1).trans rfl
         have hcz37_2 : wc.cell? ⟨gb256, 2, none⟩ = some (.bool false) := (blk_cell BK256.out 2).trans rfl
         have hfz37_0 := blk_frozen BK256.out 0
         have hfz37_1 := blk_frozen BK256.out 1
         have hfz37_2 := blk_frozen BK256.out 2
         go_wp2
         go_meet
         case rel => exact ⟨_, (false), (true), H', ⟨by have := HJ5.out; have := HJ27.out; first | omega | exact Nat.le_refl _⟩, ⟨by (with_reducible repeat (first | refine kN ?_ _ | refine kD ?_ | refine kA ?_ _)); refine blk_far ?_ NB249_256.out _; (with_reducible repeat (first | refine kN ?_ _ | refine kD ?_ | refine kA ?_ _)); exact BK249.out⟩, ⟨by (with_reducible repeat (first | refine kN ?_ _ | refine kD ?_ | refine kA ?_ _)); refine blk_far ?_ NB250_256.out _; (with_reducible repeat (first | refine kN ?_ _ | refine kD ?_ | refine kA ?_ _)); exact BK250.out⟩, ⟨by (with_reducible repeat (first | refine kN ?_ _ | refine kD ?_ | refine kA ?_ _)); refine blk_put (cs := #[.int .i64 t251, .bool false, .bool false]) ?_ 2 _ rfl; (with_reducible repeat (first | refine kN ?_ _ | refine kD ?_ | refine kA ?_ _)); exact BK256.out⟩, ⟨by repeat (first | (with_reducible first | exact HB.out | apply below_alloc | apply pw_below_drewN | apply below_drew1 | refine below_set ?_ GE249.out | refine below_set ?_ GE250.out | refine below_set ?_ GE256.out) | exact HB.out)⟩⟩
        ·rw [if_neg c34] at H
         have c34b0 : (a2_0 == 101) = false := beq_eq_false_iff_ne.mpr c34
         have c34b1 : (a2_0 != 101) = true := bne_iff_ne.mpr c34
         by_cases c38 : a2_0 = 102
         ·rw [if_pos c38] at H
          have c38b0 : (a2_0 == 102) = true := beq_iff_eq.mpr c38
          have c38b1 : (a2_0 != 102) = false := bne_eq_false_iff_eq.mpr c38
          clear c38
          have H' := Aside0.mk H
          clear H
          have hnb39 := NB256_249.out
          have hnc39 := NB249_256.out
          have hnb40 := NB256_250.out
          have hnc40 := NB250_256.out
          have hcz41_0 : wc.cell? ⟨gb256, 0, none⟩ = some (.int .i64 t251) := (blk_cell BK256.out 0).trans rfl
          have hcz41_1 : wc.cell? ⟨gb256, 1, none⟩ = some (.bool false) := (blk_cell BK256.out 1).trans rfl
          have hcz41_2 : wc.cell? ⟨gb256, 2, none⟩ = some (.bool false) := (blk_cell BK256.out 2).trans rfl
          have hfz41_0 := blk_frozen BK256.out 0
          have hfz41_1 := blk_frozen BK256.out 1
          have hfz41_2 := blk_frozen BK256.out 2
          go_wp2
          go_meet
          case rel => exact ⟨_, (false), (true), H', ⟨by have := HJ5.out; have := HJ27.out; first | omega | exact Nat.le_refl _⟩, ⟨by (with_reducible repeat (first | refine kN ?_ _ | refine kD ?_ | refine kA ?_ _)); refine blk_far ?_ NB249_256.out _; (with_reducible repeat (first | refine kN ?_ _ | refine kD ?_ | refine kA ?_ _)); exact BK249.out⟩, ⟨by (with_reducible repeat (first | refine kN ?_ _ | refine kD ?_ | refine kA ?_ _)); refine blk_far ?_ NB250_256.out _; (with_reducible repeat (first | refine kN ?_ _ | refine kD ?_ | refine kA ?_ _)); exact BK250.out⟩, ⟨by (with_reducible repeat (first | refine kN ?_ _ | refine kD ?_ | refine kA ?_ _)); refine blk_put (cs := #[.int .i64 t251, .bool false, .bool false]) ?_ 2 _ rfl; (with_reducible repeat (first | refine kN ?_ _ | refine kD ?_ | refine kA ?_ _)); exact BK256.out⟩, ⟨by repeat (first | (with_reducible first | exact HB.out | apply below_alloc | apply pw_below_drewN | apply below_drew1 | refine below_set ?_ GE249.out | refine below_set ?_ GE250.out | refine below_set ?_ GE256.out) | exact HB.out)⟩⟩
         ·rw [if_neg c38] at H
          have c38b0 : (a2_0 == 102) = false := beq_eq_false_iff_ne.mpr c38
          have c38b1 : (a2_0 != 102) = true := bne_iff_ne.mpr c38
          by_cases c42 : a2_0 = 116
          ·rw [if_pos c42] at H
           have c42b0 : (a2_0 == 116) = true := beq_iff_eq.mpr c42
           have c42b1 : (a2_0 != 116) = false := bne_eq_false_iff_eq.mpr c42
           clear c42
           have H' := Aside0.mk H
           clear H
           have hnb43 := NB256_249.out
           have hnc43 := NB249_256.out
           have hnb44 := NB256_250.out
           have hnc44 := NB250_256.out
           have hcz45_0 : wc.cell? ⟨gb256, 0, none⟩ = some (.int .i64 t251) := (blk_cell BK256.out 0).trans rfl
           have hcz45_1 : wc.cell? ⟨gb256, 1, none⟩ = some (.bool false) := (blk_cell BK256.out 1).trans rfl
           have hcz45_2 : wc.cell? ⟨gb256, 2, none⟩ = some (.bool false) := (blk_cell BK256.out 2).trans rfl
           have hfz45_0 := blk_frozen BK256.out 0
           have hfz45_1 := blk_frozen BK256.out 1
           have hfz45_2 := blk_frozen BK256.out 2
           go_wp2
           go_meet
           case rel => exact ⟨_, (false), (true), H', ⟨by have := HJ5.out; have := HJ27.out; first | omega | exact Nat.le_refl _⟩, ⟨by (with_reducible repeat (first | refine kN ?_ _ | refine kD ?_ | refine kA ?_ _)); refine blk_far ?_ NB249_256.out _; (with_reducible repeat (first | refine kN ?_ _ | refine kD ?_ | refine kA ?_ _)); exact BK249.out⟩, ⟨by (with_reducible repeat (first | refine kN ?_ _ | refine kD ?_ | refine kA ?_ _)); refine blk_far ?_ NB250_256.out _; (with_reducible repeat (first | refine kN ?_ _ | refine kD ?_ | refine kA ?_ _)); exact BK250.out⟩, ⟨by (with_reducible repeat (first | refine kN ?_ _ | refine kD ?_ | refine kA ?_ _)); refine blk_put (cs := #[.int .i64 t251, .bool false, .bool false]) ?_ 2 _ rfl; (with_reducible repeat (first | refine kN ?_ _ | refine kD ?_ | refine kA ?_ _)); exact BK256.out⟩, ⟨by repeat (first | (with_reducible first | exact HB.out | apply below_alloc | apply pw_below_drewN | apply below_drew1 | refine below_set ?_ GE249.out | refine below_set ?_ GE250.out | refine below_set ?_ GE256.out) | exact HB.out)⟩⟩
          ·rw [if_neg c42] at H
           have c42b0 : (a2_0 == 116) = false := beq_eq_false_iff_ne.mpr c42
           have c42b1 : (a2_0 != 116) = true := bne_iff_ne.mpr c42
           have H' := Aside0.mk H
           clear H
           go_wp2
           go_meet
           case rel => exact ⟨_, (false), (false), H', ⟨by have := HJ5.out; have := HJ27.out; first | omega | exact Nat.le_refl _⟩, ⟨by (with_reducible repeat (first | refine kN ?_ _ | refine kD ?_ | refine kA ?_ _)); exact BK249.out⟩, ⟨by (with_reducible repeat (first | refine kN ?_ _ | refine kD ?_ | refine kA ?_ _)); exact BK250.out⟩, ⟨by (with_reducible repeat (first | refine kN ?_ _ | refine kD ?_ | refine kA ?_ _)); exact BK256.out⟩, ⟨by repeat (first | (with_reducible first | exact HB.out | apply below_alloc | apply pw_below_drewN | apply below_drew1 | refine below_set ?_ GE249.out | refine below_set ?_ GE250.out | refine below_set ?_ GE256.out) | exact HB.out)⟩⟩
    case rest =>
     clear HC21
     try clear c1
     try clear c2
     try clear p2
     try clear c3
     try clear c4
     try clear c10
     try clear c10b0
     try clear c10b1
     try clear c11
     try clear c13
     try clear c15
     try clear c17
     try clear c21
     try clear c22
     try clear c23
     try clear c24
     try clear c26
     try clear c29
     try clear c29b0
     try clear c29b1
     try clear c30
     try clear c31
     try clear c32
     try clear c34
     try clear c34b0
     try clear c34b1
     try clear c35
     try clear c36
     try clear c38
     try clear c38b0
     try clear c38b1
     try clear c39
     try clear c40
     try clear c42
     try clear c42b0
     try clear c42b1
     try clear c43
     try clear c44
     try clear hcz12_0
     try clear hcz12_1
     try clear hcz12_2
     try clear hcz14_0
     try clear hcz14_1
     try clear hcz14_2
     try clear hcz18_0
     try clear hcz18_1
     try clear hcz18_2
     try clear hcz20_0
     try clear hcz20_1
     try clear hcz20_2
     try clear hcz25_0
     try clear hcz25_1
     try clear hcz25_2
     try clear hcz27_0
     try clear hcz27_1
     try clear hcz27_2
     try clear hcz33_0
     try clear hcz33_1
     try clear hcz33_2
     try clear hcz37_0
     try clear hcz37_1
     try clear hcz37_2
     try clear hcz41_0
     try clear hcz41_1
     try clear hcz41_2
     try clear hcz45_0
     try clear hcz45_1
     try clear hcz45_2
     try clear hfz12_0
     try clear hfz12_1
     try clear hfz12_2
     try clear hfz14_0
     try clear hfz14_1
     try clear hfz14_2
     try clear hfz18_0
     try clear hfz18_1
     try clear hfz18_2
     try clear hfz20_0
     try clear hfz20_1
     try clear hfz20_2
     try clear hfz25_0
     try clear hfz25_1
     try clear hfz25_2
     try clear hfz27_0
     try clear hfz27_1
     try clear hfz27_2
     try clear hfz33_0
     try clear hfz33_1
     try clear hfz33_2
     try clear hfz37_0
     try clear hfz37_1
     try clear hfz37_2
     try clear hfz41_0
     try clear hfz41_1
     try clear hfz41_2
     try clear hfz45_0
     try clear hfz45_1
     try clear hfz45_2
     try clear p2
     obtain ⟨kq, x257001_20, x257002_20, HA, HJ20, BK249, BK250, BK256, HB⟩ := hcut
     cases kq with
     | zero => exact absurd HA.out (by simp [motion_Go.j2])
     | succ kj20 =>
      have H := HA.out
      clear HA
      simp only [motion_Go.j2] at H
      replace H := Option.bind_eq_some_iff.mp H
      obtain ⟨t257, A460, H⟩ := H
      replace H : (motion_Go.l0 kj20 l0 a3 t257 0 a2_0 a2_1 a2_2 t251 x257001_20 x257002_20) = some (r1, r2, r3, r4) := H
      have A46 := Aside0.mk A460
      clear A460
      have H' := Aside0.mk H
      clear H
      have hnb47 := NB249_250.out
      have hnc47 := NB250_249.out
      have hnb48 := NB249_256.out
      have hnc48 := NB256_249.out
      have hcz49_0 : wc.cell? ⟨gb249, 0, none⟩ = some (.int .u8 a2_0) := (blk_cell BK249.out 0).trans rfl
      have hcz49_1 : wc.cell? ⟨gb249, 1, none⟩ = some (.int .u8 a2_1) := (blk_cell BK249.out 1).trans rfl
      have hcz49_2 : wc.cell? ⟨gb249, 2, none⟩ = some (.int .i64 a2_2) := (blk_cell BK249.out 2).trans rfl
      have hfz49_0 := blk_frozen BK249.out 0
      have hfz49_1 := blk_frozen BK249.out 1
      have hfz49_2 := blk_frozen BK249.out 2
      go_wp2_with (first | ((with_reducible refine gate_callee (f := 23) rfl ?_); refine goesL_ (some 43) rfl rfl Tryd.func23 (by kernel_rfl) rfl #[.agg #[.int .u8 a2_0, .int .u8 a2_1, .int .i64 a2_2]] rfl (by (try simp only [List.map_toArray, List.map_cons, List.map_nil]); first | done | rfl | (simp only [List.length_drop, List.length_take]; rfl)) ?_; (with_reducible refine (motion_times.calls a2_0 a2_1 a2_2 t257 _ A46.out).mono ?_); rintro e w50 ⟨rfl, hb⟩; refine ⟨_, rfl, ?_⟩; have n0_ := Aside0.mk (blk_below (g := gb249) (o := .cells #[.int .u8 a2_0, .int .u8 a2_1, .int .i64 a2_2] 30 (0, 0)) (by (with_reducible repeat (first | refine kN ?_ _ | refine kD ?_ | refine kA ?_ _)); exact BK249.out) hb); have n1_ := Aside0.mk (blk_below (g := gb250) (o := .cells #[.int .i64 0, .bool false, .bool false] 25 (0, 0)) (by (with_reducible repeat (first | refine kN ?_ _ | refine kD ?_ | refine kA ?_ _)); exact BK250.out) hb); have n2_ := Aside0.mk (blk_below (g := gb256) (o := .cells #[.int .i64 t251, .bool x257001_20, .bool x257002_20] 25 (0, 0)) (by (with_reducible repeat (first | refine kN ?_ _ | refine kD ?_ | refine kA ?_ _)); exact BK256.out) hb); have n3_ := Aside0.mk (below_step (by repeat (first | (with_reducible first | exact HB.out | apply below_alloc | apply pw_below_drewN | apply below_drew1 | refine below_set ?_ GE249.out | refine below_set ?_ GE250.out | refine below_set ?_ GE256.out) | exact HB.out)) hb); clear BK249; clear BK250; clear BK256; clear HB; have BK249 := n0_; have BK250 := n1_; have BK256 := n2_; have HB := n3_; clear n0_ n1_ n2_ n3_; (try clear hb); (try clear hb2); (try clear hk); (try clear hi)))
      go_loopg [44] kj20 (fun kq v44 w' => ∃ (x44_3 : Int) (x251000_3 : Int) (x251001_3 : Bool) (x251002_3 : Bool) (x257000_3 : Int), v44 = .int .i64 x44_3 ∧ Aside0 (motion_Go.l0 kq l0 a3 t257 x44_3 a2_0 a2_1 a2_2 x257000_3 x257001_20 x257002_20 = some (r1, r2, r3, r4)) ∧ Aside0 (kq ≤ kj20) ∧ Aside0 (w'.heap[gb249]? = some (.cells #[.int .u8 a2_0, .int .u8 a2_1, .int .i64 a2_2] 30 (0, 0))) ∧ Aside0 (w'.heap[gb250]? = some (.cells #[.int .i64 x251000_3, .bool x251001_3, .bool x251002_3] 25 (0, 0))) ∧ Aside0 (w'.heap[gb256]? = some (.cells #[.int .i64 x257000_3, .bool x257001_20, .bool x257002_20] 25 (0, 0))) ∧ Aside0 (Below w.heap.size w w'))
      case atStart => exact ⟨(0), (0), (false), (false), (t251), (by first | rfl | (simp; done) | (simp [*]; done)), H', ⟨Nat.le_refl _⟩, ⟨by (with_reducible repeat (first | refine kN ?_ _ | refine kD ?_ | refine kA ?_ _)); exact BK249.out⟩, ⟨by (with_reducible repeat (first | refine kN ?_ _ | refine kD ?_ | refine kA ?_ _)); exact BK250.out⟩, ⟨by (with_reducible repeat (first | refine kN ?_ _ | refine kD ?_ | refine kA ?_ _)); exact BK256.out⟩, ⟨by repeat (first | (with_reducible first | exact HB.out | apply below_alloc | apply pw_below_drewN | apply below_drew1 | refine below_set ?_ GE249.out | refine below_set ?_ GE250.out | refine below_set ?_ GE256.out) | exact HB.out)⟩⟩
      case round =>
       clear H'
       try clear c1
       try clear c2
       try clear p2
       try clear c3
       try clear c4
       try clear c10
       try clear c10b0
       try clear c10b1
       try clear c11
       try clear c13
       try clear c15
       try clear c17
       try clear c21
       try clear c22
       try clear c23
       try clear c24
       try clear c26
       try clear c29
       try clear c29b0
       try clear c29b1
       try clear c30
       try clear c31
       try clear c32
       try clear c34
       try clear c34b0
       try clear c34b1
       try clear c35
       try clear c36
       try clear c38
       try clear c38b0
       try clear c38b1
       try clear c39
       try clear c40
       try clear c42
       try clear c42b0
       try clear c42b1
       try clear c43
       try clear c44
       try clear c47
       try clear c48
       try clear hcz12_0
       try clear hcz12_1
       try clear hcz12_2
       try clear hcz14_0
       try clear hcz14_1
       try clear hcz14_2
       try clear hcz18_0
       try clear hcz18_1
       try clear hcz18_2
       try clear hcz20_0
       try clear hcz20_1
       try clear hcz20_2
       try clear hcz25_0
       try clear hcz25_1
       try clear hcz25_2
       try clear hcz27_0
       try clear hcz27_1
       try clear hcz27_2
       try clear hcz33_0
       try clear hcz33_1
       try clear hcz33_2
       try clear hcz37_0
       try clear hcz37_1
       try clear hcz37_2
       try clear hcz41_0
       try clear hcz41_1
       try clear hcz41_2
       try clear hcz45_0
       try clear hcz45_1
       try clear hcz45_2
       try clear hcz49_0
       try clear hcz49_1
       try clear hcz49_2
       try clear hfz12_0
       try clear hfz12_1
       try clear hfz12_2
       try clear hfz14_0
       try clear hfz14_1
       try clear hfz14_2
       try clear hfz18_0
       try clear hfz18_1
       try clear hfz18_2
       try clear hfz20_0
       try clear hfz20_1
       try clear hfz20_2
       try clear hfz25_0
       try clear hfz25_1
       try clear hfz25_2
       try clear hfz27_0
       try clear hfz27_1
       try clear hfz27_2
       try clear hfz33_0
       try clear hfz33_1
       try clear hfz33_2
       try clear hfz37_0
       try clear hfz37_1
       try clear hfz37_2
       try clear hfz41_0
       try clear hfz41_1
       try clear hfz41_2
       try clear hfz45_0
       try clear hfz45_1
       try clear hfz45_2
       try clear hfz49_0
       try clear hfz49_1
       try clear hfz49_2
       try clear p2
       obtain ⟨x44_3, x251000_3, x251001_3, x251002_3, x257000_3, rfl, HA, HK3, BK249, BK250, BK256, HB⟩ := hrel
       cases gk with
       | zero => exact absurd HA.out (by simp [motion_Go.l0])
       | succ k3 =>
        have H := HA.out
        clear HA
        simp only [motion_Go.l0] at H
        by_cases c51 : x44_3 < t257
        ·rw [if_pos c51] at H
         have c51b0 : decide (x44_3 < t257) = true := decide_eq_true c51
         clear c51
         replace H := Option.bind_eq_some_iff.mp H
         obtain ⟨⟨t258, t259⟩, A520, H⟩ := H
         replace H : (if t259 = 0 then (motion_Go.l0 k3 l0 a3 t257 (wrap64 (x44_3 + 1)) a2_0 a2_1 a2_2 t258 x257001_20 x257002_20) else (some (0, false, false, t259))) = some (r1, r2, r3, r4) := H
         have A52 := Aside0.mk A520
         clear A520
         by_cases c53 : t259 = 0
         ·rw [if_pos c53] at H
          have c53b0 : (t259 == 0) = true := beq_iff_eq.mpr c53
          have c53b1 : (t259 != 0) = false := bne_eq_false_iff_eq.mpr c53
          clear c53
          have H' := Aside0.mk H
          clear H
          have hnb54 := NB256_249.out
          have hnc54 := NB249_256.out
          have hnb55 := NB256_250.out
          have hnc55 := NB250_256.out
          have hcz56_0 : wr.cell? ⟨gb256, 0, none⟩ = some (.int .i64 x257000_3) := (blk_cell BK256.out 0).trans rfl
          have hcz56_1 : wr.cell? ⟨gb256, 1, none⟩ = some (.bool x257001_20) := (blk_cell BK256.out 1).trans rfl
          have hcz56_2 : wr.cell? ⟨gb256, 2, none⟩ = some (.bool x257002_20) := (blk_cell BK256.out 2).trans rfl
          have hfz56_0 := blk_frozen BK256.out 0
          have hfz56_1 := blk_frozen BK256.out 1
          have hfz56_2 := blk_frozen BK256.out 2
          have hnb57 := NB249_250.out
          have hnc57 := NB250_249.out
          have hcz58_0 : wr.cell? ⟨gb249, 0, none⟩ = some (.int .u8 a2_0) := (blk_cell BK249.out 0).trans rfl
          have hcz58_1 : wr.cell? ⟨gb249, 1, none⟩ = some (.int .u8 a2_1) := (blk_cell BK249.out 1).trans rfl
          have hcz58_2 : wr.cell? ⟨gb249, 2, none⟩ = some (.int .i64 a2_2) := (blk_cell BK249.out 2).trans rfl
          have hfz58_0 := blk_frozen BK249.out 0
          have hfz58_1 := blk_frozen BK249.out 1
          have hfz58_2 := blk_frozen BK249.out 2
          go_wp2_with (first | ((with_reducible refine gate_callee (f := 24) rfl ?_); refine goesL_ (some 52) rfl rfl Tryd.func24 (by kernel_rfl) rfl #[.slice A0 l0.length c0, .int .i64 x257000_3, .agg #[.int .u8 a2_0, .int .u8 a2_1, .int .i64 a2_2], .int .i64 a3] rfl (by (try simp only [List.map_toArray, List.map_cons, List.map_nil]); first | done | rfl | (simp only [List.length_drop, List.length_take]; rfl)) ?_; (with_reducible refine (motion_step.calls k3 _ _ l0 x257000_3 a2_0 a2_1 a2_2 a3 t258 t259 _ ?side3 ?side1 ?side2 A52.out).mono ?_); (case side1 => repeat (first | exact (Kd.C_below HR0.out HB.out) | (with_reducible refine Kd.C_alloc ?_ _) | (with_reducible refine Kd.C_drewN ?_ _) | (with_reducible refine Kd.C_drew ?_))); (case side2 => exact HC0.out); (case side3 => exact Tabs.below HT.out (by repeat (first | (with_reducible first | exact HB.out | apply below_alloc | apply pw_below_drewN | apply below_drew1 | refine below_set ?_ GE249.out | refine below_set ?_ GE250.out | refine below_set ?_ GE256.out) | exact HB.out))); rintro e w59 ⟨rfl, hb⟩; refine ⟨_, rfl, ?_⟩; have n0_ := Aside0.mk (blk_below (g := gb249) (o := .cells #[.int .u8 a2_0, .int .u8 a2_1, .int .i64 a2_2] 30 (0, 0)) (by (with_reducible repeat (first | refine kN ?_ _ | refine kD ?_ | refine kA ?_ _)); exact BK249.out) hb); have n1_ := Aside0.mk (blk_below (g := gb250) (o := .cells #[.int .i64 x251000_3, .bool x251001_3, .bool x251002_3] 25 (0, 0)) (by (with_reducible repeat (first | refine kN ?_ _ | refine kD ?_ | refine kA ?_ _)); exact BK250.out) hb); have n2_ := Aside0.mk (blk_below (g := gb256) (o := .cells #[.int .i64 x257000_3, .bool x257001_20, .bool x257002_20] 25 (0, 0)) (by (with_reducible repeat (first | refine kN ?_ _ | refine kD ?_ | refine kA ?_ _)); exact BK256.out) hb); have n3_ := Aside0.mk (below_step (by repeat (first | (with_reducible first | exact HB.out | apply below_alloc | apply pw_below_drewN | apply below_drew1 | refine below_set ?_ GE249.out | refine below_set ?_ GE250.out | refine below_set ?_ GE256.out) | exact HB.out)) hb); clear BK249; clear BK250; clear BK256; clear HB; have BK249 := n0_; have BK250 := n1_; have BK256 := n2_; have HB := n3_; clear n0_ n1_ n2_ n3_; (try clear hb); (try clear hb2); (try clear hk); (try clear hi); have hcz60_0 : w59.cell? ⟨gb256, 0, none⟩ = some (.int .i64 x257000_3) := (blk_cell BK256.out 0).trans rfl; have hcz60_1 : w59.cell? ⟨gb256, 1, none⟩ = some (.bool x257001_20) := (blk_cell BK256.out 1).trans rfl; have hcz60_2 : w59.cell? ⟨gb256, 2, none⟩ = some (.bool x257002_20) := (blk_cell BK256.out 2).trans rfl; have hfz60_0 := blk_frozen BK256.out 0; have hfz60_1 := blk_frozen BK256.out 1; have hfz60_2 := blk_frozen BK256.out 2))
          go_roundg k3
          case measure => have := HJ5.out; have := HJ20.out; have := HK3.out; omega
          case rel => exact ⟨(wrap64 (x44_3 + 1)), (x251000_3), (x251001_3), (x251002_3), (t258), (by first | rfl | (simp; done) | (simp [*]; done)), H', ⟨by have := HJ5.out; have := HJ20.out; have := HK3.out; omega⟩, ⟨by (with_reducible repeat (first | refine kN ?_ _ | refine kD ?_ | refine kA ?_ _)); refine blk_far ?_ NB249_256.out _; (with_reducible repeat (first | refine kN ?_ _ | refine kD ?_ | refine kA ?_ _)); exact BK249.out⟩, ⟨by (with_reducible repeat (first | refine kN ?_ _ | refine kD ?_ | refine kA ?_ _)); refine blk_far ?_ NB250_256.out _; (with_reducible repeat (first | refine kN ?_ _ | refine kD ?_ | refine kA ?_ _)); exact BK250.out⟩, ⟨by (with_reducible repeat (first | refine kN ?_ _ | refine kD ?_ | refine kA ?_ _)); refine blk_put (cs := #[.int .i64 x257000_3, .bool x257001_20, .bool x257002_20]) ?_ 0 _ rfl; (with_reducible repeat (first | refine kN ?_ _ | refine kD ?_ | refine kA ?_ _)); exact BK256.out⟩, ⟨by repeat (first | (with_reducible first | exact HB.out | apply below_alloc | apply pw_below_drewN | apply below_drew1 | refine below_set ?_ GE249.out | refine below_set ?_ GE250.out | refine below_set ?_ GE256.out) | exact HB.out)⟩⟩
         ·rw [if_neg c53] at H
          have c53b0 : (t259 == 0) = false := beq_eq_false_iff_ne.mpr c53
          have c53b1 : (t259 != 0) = true := bne_iff_ne.mpr c53
          simp only [Option.some.injEq, Prod.mk.injEq] at H
          obtain ⟨rfl, rfl, rfl, rfl⟩ := H
          have hnb61 := NB256_249.out
          have hnc61 := NB249_256.out
          have hnb62 := NB256_250.out
          have hnc62 := NB250_256.out
          have hcz63_0 : wr.cell? ⟨gb256, 0, none⟩ = some (.int .i64 x257000_3) := (blk_cell BK256.out 0).trans rfl
          have hcz63_1 : wr.cell? ⟨gb256, 1, none⟩ = some (.bool x257001_20) := (blk_cell BK256.out 1).trans rfl
          have hcz63_2 : wr.cell? ⟨gb256, 2, none⟩ = some (.bool x257002_20) := (blk_cell BK256.out 2).trans rfl
          have hfz63_0 := blk_frozen BK256.out 0
          have hfz63_1 := blk_frozen BK256.out 1
          have hfz63_2 := blk_frozen BK256.out 2
          have hnb64 := NB249_250.out
          have hnc64 := NB250_249.out
          have hcz65_0 : wr.cell? ⟨gb249, 0, none⟩ = some (.int .u8 a2_0) := (blk_cell BK249.out 0).trans rfl
          have hcz65_1 : wr.cell? ⟨gb249, 1, none⟩ = some (.int .u8 a2_1) := (blk_cell BK249.out 1).trans rfl
          have hcz65_2 : wr.cell? ⟨gb249, 2, none⟩ = some (.int .i64 a2_2) := (blk_cell BK249.out 2).trans rfl
          have hfz65_0 := blk_frozen BK249.out 0
          have hfz65_1 := blk_frozen BK249.out 1
          have hfz65_2 := blk_frozen BK249.out 2
          go_wp2_with (first | ((with_reducible refine gate_callee (f := 24) rfl ?_); refine goesL_ (some 52) rfl rfl Tryd.func24 (by kernel_rfl) rfl #[.slice A0 l0.length c0, .int .i64 x257000_3, .agg #[.int .u8 a2_0, .int .u8 a2_1, .int .i64 a2_2], .int .i64 a3] rfl (by (try simp only [List.map_toArray, List.map_cons, List.map_nil]); first | done | rfl | (simp only [List.length_drop, List.length_take]; rfl)) ?_; (with_reducible refine (motion_step.calls k3 _ _ l0 x257000_3 a2_0 a2_1 a2_2 a3 t258 t259 _ ?side3 ?side1 ?side2 A52.out).mono ?_); (case side1 => repeat (first | exact (Kd.C_below HR0.out HB.out) | (with_reducible refine Kd.C_alloc ?_ _) | (with_reducible refine Kd.C_drewN ?_ _) | (with_reducible refine Kd.C_drew ?_))); (case side2 => exact HC0.out); (case side3 => exact Tabs.below HT.out (by repeat (first | (with_reducible first | exact HB.out | apply below_alloc | apply pw_below_drewN | apply below_drew1 | refine below_set ?_ GE249.out | refine below_set ?_ GE250.out | refine below_set ?_ GE256.out) | exact HB.out))); rintro e w66 ⟨rfl, hb⟩; refine ⟨_, rfl, ?_⟩; have n0_ := Aside0.mk (blk_below (g := gb249) (o := .cells #[.int .u8 a2_0, .int .u8 a2_1, .int .i64 a2_2] 30 (0, 0)) (by (with_reducible repeat (first | refine kN ?_ _ | refine kD ?_ | refine kA ?_ _)); exact BK249.out) hb); have n1_ := Aside0.mk (blk_below (g := gb250) (o := .cells #[.int .i64 x251000_3, .bool x251001_3, .bool x251002_3] 25 (0, 0)) (by (with_reducible repeat (first | refine kN ?_ _ | refine kD ?_ | refine kA ?_ _)); exact BK250.out) hb); have n2_ := Aside0.mk (blk_below (g := gb256) (o := .cells #[.int .i64 x257000_3, .bool x257001_20, .bool x257002_20] 25 (0, 0)) (by (with_reducible repeat (first | refine kN ?_ _ | refine kD ?_ | refine kA ?_ _)); exact BK256.out) hb); have n3_ := Aside0.mk (below_step (by repeat (first | (with_reducible first | exact HB.out | apply below_alloc | apply pw_below_drewN | apply below_drew1 | refine below_set ?_ GE249.out | refine below_set ?_ GE250.out | refine below_set ?_ GE256.out) | exact HB.out)) hb); clear BK249; clear BK250; clear BK256; clear HB; have BK249 := n0_; have BK250 := n1_; have BK256 := n2_; have HB := n3_; clear n0_ n1_ n2_ n3_; (try clear hb); (try clear hb2); (try clear hk); (try clear hi); have hcz67_0 : w66.cell? ⟨gb250, 0, none⟩ = some (.int .i64 x251000_3) := (blk_cell BK250.out 0).trans rfl; have hcz67_1 : w66.cell? ⟨gb250, 1, none⟩ = some (.bool x251001_3) := (blk_cell BK250.out 1).trans rfl; have hcz67_2 : w66.cell? ⟨gb250, 2, none⟩ = some (.bool x251002_3) := (blk_cell BK250.out 2).trans rfl; have hfz67_0 := blk_frozen BK250.out 0; have hfz67_1 := blk_frozen BK250.out 1; have hfz67_2 := blk_frozen BK250.out 2))
          refine bodyPost_ret (results_ct rfl _ _ gb250 25 #[.int .i64 0, .bool false, .bool false] (0, 0) _ rfl (by (with_reducible repeat (first | refine kN ?_ _ | refine kD ?_ | refine kA ?_ _)); refine blk_put (cs := #[.int .i64 0, .bool false, .bool x251002_3]) ?_ 2 _ rfl; (with_reducible repeat (first | refine kN ?_ _ | refine kD ?_ | refine kA ?_ _)); refine blk_put (cs := #[.int .i64 0, .bool x251001_3, .bool x251002_3]) ?_ 1 _ rfl; (with_reducible repeat (first | refine kN ?_ _ | refine kD ?_ | refine kA ?_ _)); refine blk_put (cs := #[.int .i64 x251000_3, .bool x251001_3, .bool x251002_3]) ?_ 0 _ rfl; (with_reducible repeat (first | refine kN ?_ _ | refine kD ?_ | refine kA ?_ _)); exact BK250.out) Tryd.underlying25 rfl (by kernel_rfl)) rfl ?_
          exact ⟨by first | rfl | (simp [errW_none, errW_some] <;> rfl) | (simp [*, errW_none, errW_some] <;> rfl), by repeat (first | (with_reducible first | exact HB.out | apply below_alloc | apply pw_below_drewN | apply below_drew1 | refine below_set ?_ GE249.out | refine below_set ?_ GE250.out | refine below_set ?_ GE256.out) | exact HB.out)⟩
        ·rw [if_neg c51] at H
         have c51b0 : decide (x44_3 < t257) = false := decide_eq_false c51
         clear c51
         simp only [Option.some.injEq, Prod.mk.injEq] at H
         obtain ⟨rfl, rfl, rfl, rfl⟩ := H
         have hnb68 := NB256_249.out
         have hnc68 := NB249_256.out
         have hnb69 := NB256_250.out
         have hnc69 := NB250_256.out
         have hcz70_0 : wr.cell? ⟨gb256, 0, none⟩ = some (.int .i64 x257000_3) := (blk_cell BK256.out 0).trans rfl
         have hcz70_1 : wr.cell? ⟨gb256, 1, none⟩ = some (.bool x257001_20) := (blk_cell BK256.out 1).trans rfl
         have hcz70_2 : wr.cell? ⟨gb256, 2, none⟩ = some (.bool x257002_20) := (blk_cell BK256.out 2).trans rfl
         have hfz70_0 := blk_frozen BK256.out 0
         have hfz70_1 := blk_frozen BK256.out 1
         have hfz70_2 := blk_frozen BK256.out 2
         have hnb71 := NB250_249.out
         have hnc71 := NB249_250.out
         have hcz72_0 : wr.cell? ⟨gb250, 0, none⟩ = some (.int .i64 x251000_3) := (blk_cell BK250.out 0).trans rfl
         have hcz72_1 : wr.cell? ⟨gb250, 1, none⟩ = some (.bool x251001_3) := (blk_cell BK250.out 1).trans rfl
         have hcz72_2 : wr.cell? ⟨gb250, 2, none⟩ = some (.bool x251002_3) := (blk_cell BK250.out 2).trans rfl
         have hfz72_0 := blk_frozen BK250.out 0
         have hfz72_1 := blk_frozen BK250.out 1
         have hfz72_2 := blk_frozen BK250.out 2
         go_wp2
         refine bodyPost_ret (results_ct rfl _ _ gb250 25 #[.int .i64 x257000_3, .bool x257001_20, .bool x257002_20] (0, 0) _ rfl (by (with_reducible repeat (first | refine kN ?_ _ | refine kD ?_ | refine kA ?_ _)); refine blk_put (cs := #[.int .i64 x257000_3, .bool x257001_20, .bool x251002_3]) ?_ 2 _ rfl; (with_reducible repeat (first | refine kN ?_ _ | refine kD ?_ | refine kA ?_ _)); refine blk_put (cs := #[.int .i64 x257000_3, .bool x251001_3, .bool x251002_3]) ?_ 1 _ rfl; (with_reducible repeat (first | refine kN ?_ _ | refine kD ?_ | refine kA ?_ _)); refine blk_put (cs := #[.int .i64 x251000_3, .bool x251001_3, .bool x251002_3]) ?_ 0 _ rfl; (with_reducible repeat (first | refine kN ?_ _ | refine kD ?_ | refine kA ?_ _)); exact BK250.out) Tryd.underlying25 rfl (by kernel_rfl)) rfl ?_
         exact ⟨by first | rfl | (simp [errW_none, errW_some] <;> rfl) | (simp [*, errW_none, errW_some] <;> rfl), by repeat (first | (with_reducible first | exact HB.out | apply below_alloc | apply pw_below_drewN | apply below_drew1 | refine below_set ?_ GE249.out | refine below_set ?_ GE250.out | refine below_set ?_ GE256.out) | exact HB.out)⟩

end Go.Proofs.YtloafpnniooliaaDoor.Pa
