-- Laid by a program of this claim's own (wip/tools/mkprint.py, ext.py): walks of the functions that the statements reach.
import Derived.Test.YtloafpnniooliaaDoorPax0
import Derived.Test.YtloafpnniooliaaDoorPax2
import Derived.Test.YtloafpnniooliaaDoorPax3
import Derived.Test.YtloafpnniooliaaDoorPax4
namespace Go.Proofs.YtloafpnniooliaaDoor.Pa
open Go.RowKit Go.Proofs.YtloafpnniooliaaDoor.Ext Go.Proofs.YtloafpnniooliaaDoorW.PrintWords Go.Proofs.YtloafpnniooliaaDoorW.PrintLast Go.Proofs.YtloafpnniooliaaDoorW.PrintMore
attribute [local go_sem] max2_int min2_int max_two min_two max_three min_three max_four min_four   -- for this text's walks alone
set_option linter.unusedVariables false
set_option linter.unusedSimpArgs false

/-! ### motion_find: function 41 -/
def motion_find.l0 : Nat → List Int → Int → Int → Int → Int → Int → Int → Int → Int → Option (Int × Bool)
  | 0, _, _, _, _, _, _, _, _, _ => none
  | k + 1, x0, x1, x9, x10, x21, x22, x228000, x228001, x228002 => if x22 < x21 then (if x10 ≥ x9 then (some (0, false)) else (if 0 ≤ (wrap64 (x10 + 1)) then (if (wrap64 (x10 + 1)) ≤ x9 then (if x9 ≤ (x0.length : Int) then ((bytes_IndexByte.f ((x0.take (x9 : Int).toNat).drop ((wrap64 (x10 + 1)) : Int).toNat) x228001).bind fun t231 => (if t231 < 0 then (some (0, false)) else (motion_find.l0 k x0 x1 x9 (wrap64 (x10 + (wrap64 (t231 + 1)))) x21 (wrap64 (x22 + 1)) x228000 x228001 x228002))) else (none)) else (none)) else (none))) else ((glyph_Floor.f k x0 x10).bind fun t232 => (if x228000 = 102 then (some (t232, true)) else ((glyph_Prev.f k x0 t232).bind fun t233 => (some (wrap64 (t232 - t233), decide (t232 > x1))))))
def motion_find.f (k : Nat) (l0 : List Int) (a1 : Int) (a2_0 : Int) (a2_1 : Int) (a2_2 : Int) : Option (Int × Bool) := (motion_span.f k l0 a1).bind fun bt228 => (motion_find.l0 k l0 a1 bt228.2 a1 (mx a2_2 1) 0 a2_0 a2_1 a2_2)
theorem motion_find.mono_l : ∀ k, (∀ y0 y1 y2 y3 y4 y5 y6 y7 y8, LeO (motion_find.l0 k y0 y1 y2 y3 y4 y5 y6 y7 y8) (motion_find.l0 (k + 1) y0 y1 y2 y3 y4 y5 y6 y7 y8))
  | 0 => fun _ _ _ _ _ _ _ _ _ r h => by simp [motion_find.l0] at h
  | k + 1 => by
    have ih0 := motion_find.mono_l k
    · intro y0 y1 y2 y3 y4 y5 y6 y7 y8
      unfold motion_find.l0
      repeat' first
      | (with_reducible exact ih0 _ _ _ _ _ _ _ _ _)
      | (with_reducible exact glyph_Floor.mono _ _ _)
      | (with_reducible exact glyph_Prev.mono _ _ _)
      | (with_reducible exact motion_span.mono _ _ _)
      | (with_reducible exact LeO.refl _)
      | (with_reducible exact LeO.none _)
      | (with_reducible refine LeO.ite ?_ ?_)
      | (with_reducible refine LeO.bind ?_ (fun _ => ?_))
      | exact ih0 _ _ _ _ _ _ _ _ _
      | exact glyph_Floor.mono _ _ _
      | exact glyph_Prev.mono _ _ _
      | exact motion_span.mono _ _ _
      | exact LeO.none _
      | refine LeO.ite ?_ ?_
      | refine LeO.bind ?_ (fun _ => ?_)
theorem motion_find.mono : ∀ a0 a1 a2 a3 a4 k, LeO (motion_find.f k a0 a1 a2 a3 a4) (motion_find.f (k + 1) a0 a1 a2 a3 a4) := by
  intro a0 a1 a2 a3 a4 k
  have ih0 := motion_find.mono_l k
  unfold motion_find.f
  repeat' first
      | (with_reducible exact ih0 _ _ _ _ _ _ _ _ _)
      | (with_reducible exact glyph_Floor.mono _ _ _)
      | (with_reducible exact glyph_Prev.mono _ _ _)
      | (with_reducible exact motion_span.mono _ _ _)
      | (with_reducible exact LeO.refl _)
      | (with_reducible exact LeO.none _)
      | (with_reducible refine LeO.ite ?_ ?_)
      | (with_reducible refine LeO.bind ?_ (fun _ => ?_))
      | exact ih0 _ _ _ _ _ _ _ _ _
      | exact glyph_Floor.mono _ _ _
      | exact glyph_Prev.mono _ _ _
      | exact motion_span.mono _ _ _
      | exact LeO.none _
      | refine LeO.ite ?_ ?_
      | refine LeO.bind ?_ (fun _ => ?_)
set_option maxHeartbeats 8000000 in
set_option maxRecDepth 100000 in
theorem motion_find.calls (k : Nat) (A0 : Option Addr) (c0 : Nat) (l0 : List Int) (a1 : Int) (a2_0 : Int) (a2_1 : Int) (a2_2 : Int) (r1 : Int) (r2 : Bool) (w : World) (hT : Tabs w) (hr0 : Kd.C (Kd.int .u8) w A0 l0.length l0) (hc0 : l0.length ≤ c0) (h : motion_find.f k l0 a1 a2_0 a2_1 a2_2 = some (r1, r2)) :
  Calls Tryd.prog 41 #[.slice A0 l0.length c0, .int .i64 a1, .agg #[.int .u8 a2_0, .int .u8 a2_1, .int .i64 a2_2]] w fun e w' => e = .returned (.tuple #[.int .i64 r1, .bool r2]) ∧ Below w.heap.size w w' := by
 have hu30 := Tryd.underlying30
 have HR0 := Aside0.mk hr0
 have HC0 := Aside0.mk hc0
 clear hr0 hc0
 have HB := Aside0.mk (Below.refl w.heap.size w)
 have HT := Aside0.mk hT
 clear hT
 have H : ((motion_span.f k l0 a1).bind fun bt228 => (motion_find.l0 k l0 a1 bt228.2 a1 (mx a2_2 1) 0 a2_0 a2_1 a2_2)) = some (r1, r2) := h
 clear h
 replace H := Option.bind_eq_some_iff.mp H
 obtain ⟨⟨t228, t229⟩, A40, H⟩ := H
 replace H : (motion_find.l0 k l0 a1 t229 a1 (mx a2_2 1) 0 a2_0 a2_1 a2_2) = some (r1, r2) := H
 have A4 := Aside0.mk A40
 clear A40
 obtain ⟨ji5, hji5⟩ : ∃ j_ : Int, (mx a2_2 1) = j_ := ⟨_, rfl⟩
 replace H : (motion_find.l0 k l0 a1 t229 a1 ji5 0 a2_0 a2_1 a2_2) = some (r1, r2) := by first | (rw [hji5] at H; exact H) | (simp only [hji5] at H ⊢; exact H)
 (try rw [hji5] at A4)
 (try (have hji5l : 1 ≤ ji5 := by (rw [← hji5]; unfold mx; (repeat' split) <;> omega)))
 (try (have hji5m : 0 ≤ ji5 := by omega))
 have hji5_ : (if a2_2 < 1 then 1 else a2_2) = ji5 := hji5
 have H' := Aside0.mk H
 clear H
 go_enter Tryd.func41, Tryd.ntmps41
 go_wp2_with (first | ((with_reducible refine gate_dst (N := 5) rfl ?_); refine box_event ?hg (N := 5) ?hd (cs := #[.int .u8 a2_0, .int .u8 a2_1, .int .i64 a2_2]) (t := 30) ?hr ?_; (case hd => rfl); (case hg => rfl); (case hr => first | (go_simp; done) | (go_simp; rfl)); intro gb227 hg w6 hbox hb; have n0_ := Aside0.mk (below_step (by repeat (first | exact HB.out | apply bA | apply bN | apply bD)) hb); have n1_ := Aside0.mk (hbox); have n2_ := Aside0.mk ((by rw [hg]; exact (below_size (by repeat (first | exact HB.out | apply bA | apply bN | apply bD))) : w.heap.size ≤ gb227)); have n3_ := Aside0.mk ((by rw [hg]; exact (below_size (by repeat (first | exact HB.out | apply bA | apply bN | apply bD))) : w.heap.size ≤ gb227)); clear HB; have HB := n0_; have BK227 := n1_; have GW227 := n2_; have GE227 := n3_; clear n0_ n1_ n2_ n3_; clear hb hbox hg) | (go_at_call 55; (with_reducible refine (motion_span.calls k _ _ l0 a1 t228 t229 _ ?side1 ?side2 A4.out).mono ?_); (case side1 => repeat (first | exact (Kd.C_below HR0.out HB.out) | (with_reducible refine Kd.C_alloc ?_ _) | (with_reducible refine Kd.C_drewN ?_ _) | (with_reducible refine Kd.C_drew ?_))); (case side2 => exact HC0.out); rintro e w7 ⟨rfl, hb⟩; have n0_ := Aside0.mk (blk_below (g := gb227) (o := .cells #[.int .u8 a2_0, .int .u8 a2_1, .int .i64 a2_2] 30 (0, 0)) (by (with_reducible repeat (first | refine kN ?_ _ | refine kD ?_ | refine kA ?_ _)); exact BK227.out) hb); have n1_ := Aside0.mk (below_step (by repeat (first | exact HB.out | apply bA | apply bN | apply bD | refine bS ?_ GE227.out)) hb); clear BK227; clear HB; have BK227 := n0_; have HB := n1_; clear n0_ n1_; (try clear hb); (try clear hb2); (try clear hk); (try clear hi); have hcz8_0 : w7.cell? ⟨gb227, 0, none⟩ = some (.int .u8 a2_0) := (blk_cell BK227.out 0).trans rfl; have hcz8_1 : w7.cell? ⟨gb227, 1, none⟩ = some (.int .u8 a2_1) := (blk_cell BK227.out 1).trans rfl; have hcz8_2 : w7.cell? ⟨gb227, 2, none⟩ = some (.int .i64 a2_2) := (blk_cell BK227.out 2).trans rfl; have hfz8_0 := blk_frozen BK227.out 0; have hfz8_1 := blk_frozen BK227.out 1; have hfz8_2 := blk_frozen BK227.out 2))
 repeat (go_quiet (first | ((with_reducible refine gate_dst (N := 5) rfl ?_); refine box_event ?hg (N := 5) ?hd (cs := #[.int .u8 a2_0, .int .u8 a2_1, .int .i64 a2_2]) (t := 30) ?hr ?_; (case hd => rfl); (case hg => rfl); (case hr => first | (go_simp; done) | (go_simp; rfl)); intro gb227 hg w6 hbox hb; have n0_ := Aside0.mk (below_step (by repeat (first | exact HB.out | apply bA | apply bN | apply bD)) hb); have n1_ := Aside0.mk (hbox); have n2_ := Aside0.mk ((by rw [hg]; exact (below_size (by repeat (first | exact HB.out | apply bA | apply bN | apply bD))) : w.heap.size ≤ gb227)); have n3_ := Aside0.mk ((by rw [hg]; exact (below_size (by repeat (first | exact HB.out | apply bA | apply bN | apply bD))) : w.heap.size ≤ gb227)); clear HB; have HB := n0_; have BK227 := n1_; have GW227 := n2_; have GE227 := n3_; clear n0_ n1_ n2_ n3_; clear hb hbox hg) | (go_at_call 55; (with_reducible refine (motion_span.calls k _ _ l0 a1 t228 t229 _ ?side1 ?side2 A4.out).mono ?_); (case side1 => repeat (first | exact (Kd.C_below HR0.out HB.out) | (with_reducible refine Kd.C_alloc ?_ _) | (with_reducible refine Kd.C_drewN ?_ _) | (with_reducible refine Kd.C_drew ?_))); (case side2 => exact HC0.out); rintro e w7 ⟨rfl, hb⟩; have n0_ := Aside0.mk (blk_below (g := gb227) (o := .cells #[.int .u8 a2_0, .int .u8 a2_1, .int .i64 a2_2] 30 (0, 0)) (by (with_reducible repeat (first | refine kN ?_ _ | refine kD ?_ | refine kA ?_ _)); exact BK227.out) hb); have n1_ := Aside0.mk (below_step (by repeat (first | exact HB.out | apply bA | apply bN | apply bD | refine bS ?_ GE227.out)) hb); clear BK227; clear HB; have BK227 := n0_; have HB := n1_; clear n0_ n1_; (try clear hb); (try clear hb2); (try clear hk); (try clear hi); have hcz8_0 : w7.cell? ⟨gb227, 0, none⟩ = some (.int .u8 a2_0) := (blk_cell BK227.out 0).trans rfl; have hcz8_1 : w7.cell? ⟨gb227, 1, none⟩ = some (.int .u8 a2_1) := (blk_cell BK227.out 1).trans rfl; have hcz8_2 : w7.cell? ⟨gb227, 2, none⟩ = some (.int .i64 a2_2) := (blk_cell BK227.out 2).trans rfl; have hfz8_0 := blk_frozen BK227.out 0; have hfz8_1 := blk_frozen BK227.out 1; have hfz8_2 := blk_frozen BK227.out 2)); try go_wp2_with (first | ((with_reducible refine gate_dst (N := 5) rfl ?_); refine box_event ?hg (N := 5) ?hd (cs := #[.int .u8 a2_0, .int .u8 a2_1, .int .i64 a2_2]) (t := 30) ?hr ?_; (case hd => rfl); (case hg => rfl); (case hr => first | (go_simp; done) | (go_simp; rfl)); intro gb227 hg w6 hbox hb; have n0_ := Aside0.mk (below_step (by repeat (first | exact HB.out | apply bA | apply bN | apply bD)) hb); have n1_ := Aside0.mk (hbox); have n2_ := Aside0.mk ((by rw [hg]; exact (below_size (by repeat (first | exact HB.out | apply bA | apply bN | apply bD))) : w.heap.size ≤ gb227)); have n3_ := Aside0.mk ((by rw [hg]; exact (below_size (by repeat (first | exact HB.out | apply bA | apply bN | apply bD))) : w.heap.size ≤ gb227)); clear HB; have HB := n0_; have BK227 := n1_; have GW227 := n2_; have GE227 := n3_; clear n0_ n1_ n2_ n3_; clear hb hbox hg) | (go_at_call 55; (with_reducible refine (motion_span.calls k _ _ l0 a1 t228 t229 _ ?side1 ?side2 A4.out).mono ?_); (case side1 => repeat (first | exact (Kd.C_below HR0.out HB.out) | (with_reducible refine Kd.C_alloc ?_ _) | (with_reducible refine Kd.C_drewN ?_ _) | (with_reducible refine Kd.C_drew ?_))); (case side2 => exact HC0.out); rintro e w7 ⟨rfl, hb⟩; have n0_ := Aside0.mk (blk_below (g := gb227) (o := .cells #[.int .u8 a2_0, .int .u8 a2_1, .int .i64 a2_2] 30 (0, 0)) (by (with_reducible repeat (first | refine kN ?_ _ | refine kD ?_ | refine kA ?_ _)); exact BK227.out) hb); have n1_ := Aside0.mk (below_step (by repeat (first | exact HB.out | apply bA | apply bN | apply bD | refine bS ?_ GE227.out)) hb); clear BK227; clear HB; have BK227 := n0_; have HB := n1_; clear n0_ n1_; (try clear hb); (try clear hb2); (try clear hk); (try clear hi); have hcz8_0 : w7.cell? ⟨gb227, 0, none⟩ = some (.int .u8 a2_0) := (blk_cell BK227.out 0).trans rfl; have hcz8_1 : w7.cell? ⟨gb227, 1, none⟩ = some (.int .u8 a2_1) := (blk_cell BK227.out 1).trans rfl; have hcz8_2 : w7.cell? ⟨gb227, 2, none⟩ = some (.int .i64 a2_2) := (blk_cell BK227.out 2).trans rfl; have hfz8_0 := blk_frozen BK227.out 0; have hfz8_1 := blk_frozen BK227.out 1; have hfz8_2 := blk_frozen BK227.out 2)))
 go_loopg [10, 22] k (fun kq v10 v22 w' => ∃ (x10_1 : Int) (x22_1 : Int), v10 = .int .i64 x10_1 ∧ v22 = .int .i64 x22_1 ∧ Aside0 (motion_find.l0 kq l0 a1 t229 x10_1 ji5 x22_1 a2_0 a2_1 a2_2 = some (r1, r2)) ∧ Aside0 (kq ≤ k) ∧ Aside0 (w'.heap[gb227]? = some (.cells #[.int .u8 a2_0, .int .u8 a2_1, .int .i64 a2_2] 30 (0, 0))) ∧ Aside0 (Below w.heap.size w w'))
 case atStart => exact ⟨(a1), (0), (by first | rfl | (simp; done) | (simp [*]; done)), (by first | rfl | (simp; done) | (simp [*]; done)), H', ⟨Nat.le_refl _⟩, ⟨by (with_reducible repeat (first | refine kN ?_ _ | refine kD ?_ | refine kA ?_ _)); exact BK227.out⟩, ⟨by repeat (first | exact HB.out | apply bA | apply bN | apply bD | refine bS ?_ GE227.out)⟩⟩
 case round =>
  clear H'
  try clear p2
  try clear c4
  try clear hcz8_0
  try clear hcz8_1
  try clear hcz8_2
  try clear hfz8_0
  try clear hfz8_1
  try clear hfz8_2
  obtain ⟨x10_1, x22_1, rfl, rfl, HA, HK1, BK227, HB⟩ := hrel
  cases gk with
  | zero => exact absurd HA.out (by simp [motion_find.l0])
  | succ k1 =>
   have H := HA.out
   clear HA
   simp only [motion_find.l0] at H
   by_cases c9 : x22_1 < ji5
   ·rw [if_pos c9] at H
    have c9b0 : decide (x22_1 < ji5) = true := decide_eq_true c9
    clear c9
    by_cases c10 : x10_1 ≥ t229
    ·rw [if_pos c10] at H
     have c10b0 : decide (t229 ≤ x10_1) = true := decide_eq_true c10
     clear c10
     simp only [Option.some.injEq, Prod.mk.injEq] at H
     obtain ⟨rfl, rfl⟩ := H
     go_wp2
     repeat (go_quiet (fail); try go_wp2)
     go_ret2
     exact ⟨by first | rfl | (simp [errW_none, errW_some] <;> rfl) | (simp only [← hji5]; first | rfl | (simp [errW_none, errW_some] <;> rfl)) | (simp [*, errW_none, errW_some] <;> rfl), by repeat (first | exact HB.out | apply bA | apply bN | apply bD | refine bS ?_ GE227.out)⟩
    ·rw [if_neg c10] at H
     have c10b0 : decide (t229 ≤ x10_1) = false := decide_eq_false c10
     clear c10
     obtain ⟨ji11, hji11⟩ : ∃ j_ : Int, (wrap64 (x10_1 + 1)) = j_ := ⟨_, rfl⟩
     replace H : (if 0 ≤ (ji11) then (if (ji11) ≤ t229 then (if t229 ≤ (l0.length : Int) then ((bytes_IndexByte.f ((l0.take (t229 : Int).toNat).drop ((ji11) : Int).toNat) a2_1).bind fun t231 => (if t231 < 0 then (some (0, false)) else (motion_find.l0 k1 l0 a1 t229 (wrap64 (x10_1 + (wrap64 (t231 + 1)))) ji5 (wrap64 (x22_1 + 1)) a2_0 a2_1 a2_2))) else (none)) else (none)) else (none)) = some (r1, r2) := by first | (rw [hji11] at H; exact H) | (simp only [hji11] at H ⊢; exact H)
     have hji11w : (IntKind.i64.wrap (x10_1 + 1)) = ji11 := (i64_w _).trans hji11
     by_cases c12 : 0 ≤ (ji11)
     ·rw [if_pos c12] at H
      have c12b0 := eq_true c12
      have c12b1 : decide (0 ≤ (ji11)) = true := decide_eq_true c12
      clear c12
      by_cases c13 : (ji11) ≤ t229
      ·rw [if_pos c13] at H
       have c13b0 := eq_true c13
       have c13b1 : decide ((ji11) ≤ t229) = true := decide_eq_true c13
       clear c13
       by_cases c14 : t229 ≤ (l0.length : Int)
       ·rw [if_pos c14] at H
        have c14b0 := eq_true c14
        have c14b1 : decide (t229 ≤ (l0.length : Int)) = true := decide_eq_true c14
        clear c14
        replace H := Option.bind_eq_some_iff.mp H
        obtain ⟨t231, A150, H⟩ := H
        replace H : (if t231 < 0 then (some (0, false)) else (motion_find.l0 k1 l0 a1 t229 (wrap64 (x10_1 + (wrap64 (t231 + 1)))) ji5 (wrap64 (x22_1 + 1)) a2_0 a2_1 a2_2)) = some (r1, r2) := H
        have A15 := Aside0.mk A150
        clear A150
        by_cases c16 : t231 < 0
        ·rw [if_pos c16] at H
         have c16b0 : decide (t231 < 0) = true := decide_eq_true c16
         clear c16
         simp only [Option.some.injEq, Prod.mk.injEq] at H
         obtain ⟨rfl, rfl⟩ := H
         obtain ⟨i017, hi017, _, hsz17, _⟩ := info_parts info5
         obtain ⟨A17, hcut17, hA17, hC17⟩ := print_mid_of (P := Tryd.prog) (Value.int .u8) 0 22 5 .i64 .i64 Tryd.underlying22 hi017 hsz17 A0 c0 l0 (ji11) t229 (of_decide_eq_true (by first | (with_reducible assumption) | assumption)) (by first | omega | exact of_decide_eq_true (by first | (with_reducible assumption) | assumption)) (of_decide_eq_true (by first | (with_reducible assumption) | assumption)) HC0.out
         have HR230 := Aside0.mk (Kd.C_of_reads (h1 := fun _ => rfl) (hA17 _ (Kd.reads_of_C HR0.out)))
         have HC230 := Aside0.mk hC17
         clear hA17 hC17 hi017 hsz17
         have hcz18_0 : wr.cell? ⟨gb227, 0, none⟩ = some (.int .u8 a2_0) := (blk_cell BK227.out 0).trans rfl
         have hcz18_1 : wr.cell? ⟨gb227, 1, none⟩ = some (.int .u8 a2_1) := (blk_cell BK227.out 1).trans rfl
         have hcz18_2 : wr.cell? ⟨gb227, 2, none⟩ = some (.int .i64 a2_2) := (blk_cell BK227.out 2).trans rfl
         have hfz18_0 := blk_frozen BK227.out 0
         have hfz18_1 := blk_frozen BK227.out 1
         have hfz18_2 := blk_frozen BK227.out 2
         go_wp2_with (first | (go_at_call 53; refine calls_of_args (args' := #[.slice A17 ((l0.take (t229 : Int).toNat).drop ((ji11) : Int).toNat).length (c0 - (ji11).toNat), .int .u8 a2_1]) (by first | (rw [show ((l0.take (t229 : Int).toNat).drop ((ji11) : Int).toNat).length = (t229.toNat - (ji11).toNat) from (by rw [List.length_drop, List.length_take]; have h_ : (t229 : Int) ≤ (l0.length : Int) := of_decide_eq_true (by first | (with_reducible assumption) | assumption); omega)] <;> rfl) | rfl) ?_; (with_reducible refine (bytes_IndexByte.calls _ _ ((l0.take (t229 : Int).toNat).drop ((ji11) : Int).toNat) a2_1 t231 _ ?side1 ?side2 A15.out).mono ?_); (case side1 => repeat (first | exact (Kd.C_below HR230.out HB.out) | (with_reducible refine Kd.C_alloc ?_ _) | (with_reducible refine Kd.C_drewN ?_ _) | (with_reducible refine Kd.C_drew ?_))); (case side2 => exact HC230.out); rintro e w' ⟨rfl, ⟨nd, rfl⟩⟩; (try first | exact ⟨rfl, _, World.drewN_drewN _ _ _⟩ | exact ⟨rfl, _, Eq.trans (World.drewN_drewN _ _ _) (congrArg (World.drewN _) (Nat.add_assoc _ _ _))⟩)))
         repeat (go_quiet (first | (go_at_call 53; refine calls_of_args (args' := #[.slice A17 ((l0.take (t229 : Int).toNat).drop ((ji11) : Int).toNat).length (c0 - (ji11).toNat), .int .u8 a2_1]) (by first | (rw [show ((l0.take (t229 : Int).toNat).drop ((ji11) : Int).toNat).length = (t229.toNat - (ji11).toNat) from (by rw [List.length_drop, List.length_take]; have h_ : (t229 : Int) ≤ (l0.length : Int) := of_decide_eq_true (by first | (with_reducible assumption) | assumption); omega)] <;> rfl) | rfl) ?_; (with_reducible refine (bytes_IndexByte.calls _ _ ((l0.take (t229 : Int).toNat).drop ((ji11) : Int).toNat) a2_1 t231 _ ?side1 ?side2 A15.out).mono ?_); (case side1 => repeat (first | exact (Kd.C_below HR230.out HB.out) | (with_reducible refine Kd.C_alloc ?_ _) | (with_reducible refine Kd.C_drewN ?_ _) | (with_reducible refine Kd.C_drew ?_))); (case side2 => exact HC230.out); rintro e w' ⟨rfl, ⟨nd, rfl⟩⟩; (try first | exact ⟨rfl, _, World.drewN_drewN _ _ _⟩ | exact ⟨rfl, _, Eq.trans (World.drewN_drewN _ _ _) (congrArg (World.drewN _) (Nat.add_assoc _ _ _))⟩))); try go_wp2_with (first | (go_at_call 53; refine calls_of_args (args' := #[.slice A17 ((l0.take (t229 : Int).toNat).drop ((ji11) : Int).toNat).length (c0 - (ji11).toNat), .int .u8 a2_1]) (by first | (rw [show ((l0.take (t229 : Int).toNat).drop ((ji11) : Int).toNat).length = (t229.toNat - (ji11).toNat) from (by rw [List.length_drop, List.length_take]; have h_ : (t229 : Int) ≤ (l0.length : Int) := of_decide_eq_true (by first | (with_reducible assumption) | assumption); omega)] <;> rfl) | rfl) ?_; (with_reducible refine (bytes_IndexByte.calls _ _ ((l0.take (t229 : Int).toNat).drop ((ji11) : Int).toNat) a2_1 t231 _ ?side1 ?side2 A15.out).mono ?_); (case side1 => repeat (first | exact (Kd.C_below HR230.out HB.out) | (with_reducible refine Kd.C_alloc ?_ _) | (with_reducible refine Kd.C_drewN ?_ _) | (with_reducible refine Kd.C_drew ?_))); (case side2 => exact HC230.out); rintro e w' ⟨rfl, ⟨nd, rfl⟩⟩; (try first | exact ⟨rfl, _, World.drewN_drewN _ _ _⟩ | exact ⟨rfl, _, Eq.trans (World.drewN_drewN _ _ _) (congrArg (World.drewN _) (Nat.add_assoc _ _ _))⟩))))
         go_ret2
         exact ⟨by first | rfl | (simp [errW_none, errW_some] <;> rfl) | (simp only [← hji5, ← hji11]; first | rfl | (simp [errW_none, errW_some] <;> rfl)) | (simp [*, errW_none, errW_some] <;> rfl), by repeat (first | exact HB.out | apply bA | apply bN | apply bD | refine bS ?_ GE227.out)⟩
        ·rw [if_neg c16] at H
         have c16b0 : decide (t231 < 0) = false := decide_eq_false c16
         clear c16
         have H' := Aside0.mk H
         clear H
         obtain ⟨i019, hi019, _, hsz19, _⟩ := info_parts info5
         obtain ⟨A19, hcut19, hA19, hC19⟩ := print_mid_of (P := Tryd.prog) (Value.int .u8) 0 22 5 .i64 .i64 Tryd.underlying22 hi019 hsz19 A0 c0 l0 (ji11) t229 (of_decide_eq_true (by first | (with_reducible assumption) | assumption)) (by first | omega | exact of_decide_eq_true (by first | (with_reducible assumption) | assumption)) (of_decide_eq_true (by first | (with_reducible assumption) | assumption)) HC0.out
         have HR230 := Aside0.mk (Kd.C_of_reads (h1 := fun _ => rfl) (hA19 _ (Kd.reads_of_C HR0.out)))
         have HC230 := Aside0.mk hC19
         clear hA19 hC19 hi019 hsz19
         have hcz20_0 : wr.cell? ⟨gb227, 0, none⟩ = some (.int .u8 a2_0) := (blk_cell BK227.out 0).trans rfl
         have hcz20_1 : wr.cell? ⟨gb227, 1, none⟩ = some (.int .u8 a2_1) := (blk_cell BK227.out 1).trans rfl
         have hcz20_2 : wr.cell? ⟨gb227, 2, none⟩ = some (.int .i64 a2_2) := (blk_cell BK227.out 2).trans rfl
         have hfz20_0 := blk_frozen BK227.out 0
         have hfz20_1 := blk_frozen BK227.out 1
         have hfz20_2 := blk_frozen BK227.out 2
         go_wp2_with (first | (go_at_call 53; refine calls_of_args (args' := #[.slice A19 ((l0.take (t229 : Int).toNat).drop ((ji11) : Int).toNat).length (c0 - (ji11).toNat), .int .u8 a2_1]) (by first | (rw [show ((l0.take (t229 : Int).toNat).drop ((ji11) : Int).toNat).length = (t229.toNat - (ji11).toNat) from (by rw [List.length_drop, List.length_take]; have h_ : (t229 : Int) ≤ (l0.length : Int) := of_decide_eq_true (by first | (with_reducible assumption) | assumption); omega)] <;> rfl) | rfl) ?_; (with_reducible refine (bytes_IndexByte.calls _ _ ((l0.take (t229 : Int).toNat).drop ((ji11) : Int).toNat) a2_1 t231 _ ?side1 ?side2 A15.out).mono ?_); (case side1 => repeat (first | exact (Kd.C_below HR230.out HB.out) | (with_reducible refine Kd.C_alloc ?_ _) | (with_reducible refine Kd.C_drewN ?_ _) | (with_reducible refine Kd.C_drew ?_))); (case side2 => exact HC230.out); rintro e w' ⟨rfl, ⟨nd, rfl⟩⟩; (try first | exact ⟨rfl, _, World.drewN_drewN _ _ _⟩ | exact ⟨rfl, _, Eq.trans (World.drewN_drewN _ _ _) (congrArg (World.drewN _) (Nat.add_assoc _ _ _))⟩)))
         repeat (go_quiet (first | (go_at_call 53; refine calls_of_args (args' := #[.slice A19 ((l0.take (t229 : Int).toNat).drop ((ji11) : Int).toNat).length (c0 - (ji11).toNat), .int .u8 a2_1]) (by first | (rw [show ((l0.take (t229 : Int).toNat).drop ((ji11) : Int).toNat).length = (t229.toNat - (ji11).toNat) from (by rw [List.length_drop, List.length_take]; have h_ : (t229 : Int) ≤ (l0.length : Int) := of_decide_eq_true (by first | (with_reducible assumption) | assumption); omega)] <;> rfl) | rfl) ?_; (with_reducible refine (bytes_IndexByte.calls _ _ ((l0.take (t229 : Int).toNat).drop ((ji11) : Int).toNat) a2_1 t231 _ ?side1 ?side2 A15.out).mono ?_); (case side1 => repeat (first | exact (Kd.C_below HR230.out HB.out) | (with_reducible refine Kd.C_alloc ?_ _) | (with_reducible refine Kd.C_drewN ?_ _) | (with_reducible refine Kd.C_drew ?_))); (case side2 => exact HC230.out); rintro e w' ⟨rfl, ⟨nd, rfl⟩⟩; (try first | exact ⟨rfl, _, World.drewN_drewN _ _ _⟩ | exact ⟨rfl, _, Eq.trans (World.drewN_drewN _ _ _) (congrArg (World.drewN _) (Nat.add_assoc _ _ _))⟩))); try go_wp2_with (first | (go_at_call 53; refine calls_of_args (args' := #[.slice A19 ((l0.take (t229 : Int).toNat).drop ((ji11) : Int).toNat).length (c0 - (ji11).toNat), .int .u8 a2_1]) (by first | (rw [show ((l0.take (t229 : Int).toNat).drop ((ji11) : Int).toNat).length = (t229.toNat - (ji11).toNat) from (by rw [List.length_drop, List.length_take]; have h_ : (t229 : Int) ≤ (l0.length : Int) := of_decide_eq_true (by first | (with_reducible assumption) | assumption); omega)] <;> rfl) | rfl) ?_; (with_reducible refine (bytes_IndexByte.calls _ _ ((l0.take (t229 : Int).toNat).drop ((ji11) : Int).toNat) a2_1 t231 _ ?side1 ?side2 A15.out).mono ?_); (case side1 => repeat (first | exact (Kd.C_below HR230.out HB.out) | (with_reducible refine Kd.C_alloc ?_ _) | (with_reducible refine Kd.C_drewN ?_ _) | (with_reducible refine Kd.C_drew ?_))); (case side2 => exact HC230.out); rintro e w' ⟨rfl, ⟨nd, rfl⟩⟩; (try first | exact ⟨rfl, _, World.drewN_drewN _ _ _⟩ | exact ⟨rfl, _, Eq.trans (World.drewN_drewN _ _ _) (congrArg (World.drewN _) (Nat.add_assoc _ _ _))⟩))))
         go_roundg k1
         case measure => have := HK1.out; omega
         case rel => exact ⟨(wrap64 (x10_1 + (wrap64 (t231 + 1)))), (wrap64 (x22_1 + 1)), (by first | rfl | (simp; done) | (simp [*]; done)), (by first | rfl | (simp; done) | (simp [*]; done)), H', ⟨by have := HK1.out; omega⟩, ⟨by (with_reducible repeat (first | refine kN ?_ _ | refine kD ?_ | refine kA ?_ _)); exact BK227.out⟩, ⟨by repeat (first | exact HB.out | apply bA | apply bN | apply bD | refine bS ?_ GE227.out)⟩⟩
       ·rw [if_neg c14] at H
        exact absurd H (by simp)
      ·rw [if_neg c13] at H
       exact absurd H (by simp)
     ·rw [if_neg c12] at H
      exact absurd H (by simp)
   ·rw [if_neg c9] at H
    have c9b0 : decide (x22_1 < ji5) = false := decide_eq_false c9
    clear c9
    replace H := Option.bind_eq_some_iff.mp H
    obtain ⟨t232, A210, H⟩ := H
    replace H : (if a2_0 = 102 then (some (t232, true)) else ((glyph_Prev.f k1 l0 t232).bind fun t233 => (some (wrap64 (t232 - t233), decide (t232 > a1))))) = some (r1, r2) := H
    have A21 := Aside0.mk A210
    clear A210
    by_cases c22 : a2_0 = 102
    ·rw [if_pos c22] at H
     have c22b0 : (a2_0 == 102) = true := beq_iff_eq.mpr c22
     have c22b1 : (a2_0 != 102) = false := bne_eq_false_iff_eq.mpr c22
     clear c22
     simp only [Option.some.injEq, Prod.mk.injEq] at H
     obtain ⟨rfl, rfl⟩ := H
     go_wp2_with (first | (go_at_call 21; (with_reducible refine (glyph_Floor.calls k1 _ _ l0 x10_1 t232 _ ?side3 ?side1 ?side2 A21.out).mono ?_); (case side1 => repeat (first | exact (Kd.C_below HR0.out HB.out) | (with_reducible refine Kd.C_alloc ?_ _) | (with_reducible refine Kd.C_drewN ?_ _) | (with_reducible refine Kd.C_drew ?_))); (case side2 => exact HC0.out); (case side3 => exact Tabs.below HT.out (by repeat (first | exact HB.out | apply bA | apply bN | apply bD | refine bS ?_ GE227.out))); rintro e w23 ⟨rfl, hb⟩; have n0_ := Aside0.mk (blk_below (g := gb227) (o := .cells #[.int .u8 a2_0, .int .u8 a2_1, .int .i64 a2_2] 30 (0, 0)) (by (with_reducible repeat (first | refine kN ?_ _ | refine kD ?_ | refine kA ?_ _)); exact BK227.out) hb); have n1_ := Aside0.mk (below_step (by repeat (first | exact HB.out | apply bA | apply bN | apply bD | refine bS ?_ GE227.out)) hb); clear BK227; clear HB; have BK227 := n0_; have HB := n1_; clear n0_ n1_; (try clear hb); (try clear hb2); (try clear hk); (try clear hi); have hcz24_0 : w23.cell? ⟨gb227, 0, none⟩ = some (.int .u8 a2_0) := (blk_cell BK227.out 0).trans rfl; have hcz24_1 : w23.cell? ⟨gb227, 1, none⟩ = some (.int .u8 a2_1) := (blk_cell BK227.out 1).trans rfl; have hcz24_2 : w23.cell? ⟨gb227, 2, none⟩ = some (.int .i64 a2_2) := (blk_cell BK227.out 2).trans rfl; have hfz24_0 := blk_frozen BK227.out 0; have hfz24_1 := blk_frozen BK227.out 1; have hfz24_2 := blk_frozen BK227.out 2))
     repeat (go_quiet (first | (go_at_call 21; (with_reducible refine (glyph_Floor.calls k1 _ _ l0 x10_1 t232 _ ?side3 ?side1 ?side2 A21.out).mono ?_); (case side1 => repeat (first | exact (Kd.C_below HR0.out HB.out) | (with_reducible refine Kd.C_alloc ?_ _) | (with_reducible refine Kd.C_drewN ?_ _) | (with_reducible refine Kd.C_drew ?_))); (case side2 => exact HC0.out); (case side3 => exact Tabs.below HT.out (by repeat (first | exact HB.out | apply bA | apply bN | apply bD | refine bS ?_ GE227.out))); rintro e w23 ⟨rfl, hb⟩; have n0_ := Aside0.mk (blk_below (g := gb227) (o := .cells #[.int .u8 a2_0, .int .u8 a2_1, .int .i64 a2_2] 30 (0, 0)) (by (with_reducible repeat (first | refine kN ?_ _ | refine kD ?_ | refine kA ?_ _)); exact BK227.out) hb); have n1_ := Aside0.mk (below_step (by repeat (first | exact HB.out | apply bA | apply bN | apply bD | refine bS ?_ GE227.out)) hb); clear BK227; clear HB; have BK227 := n0_; have HB := n1_; clear n0_ n1_; (try clear hb); (try clear hb2); (try clear hk); (try clear hi); have hcz24_0 : w23.cell? ⟨gb227, 0, none⟩ = some (.int .u8 a2_0) := (blk_cell BK227.out 0).trans rfl; have hcz24_1 : w23.cell? ⟨gb227, 1, none⟩ = some (.int .u8 a2_1) := (blk_cell BK227.out 1).trans rfl; have hcz24_2 : w23.cell? ⟨gb227, 2, none⟩ = some (.int .i64 a2_2) := (blk_cell BK227.out 2).trans rfl; have hfz24_0 := blk_frozen BK227.out 0; have hfz24_1 := blk_frozen BK227.out 1; have hfz24_2 := blk_frozen BK227.out 2)); try go_wp2_with (first | (go_at_call 21; (with_reducible refine (glyph_Floor.calls k1 _ _ l0 x10_1 t232 _ ?side3 ?side1 ?side2 A21.out).mono ?_); (case side1 => repeat (first | exact (Kd.C_below HR0.out HB.out) | (with_reducible refine Kd.C_alloc ?_ _) | (with_reducible refine Kd.C_drewN ?_ _) | (with_reducible refine Kd.C_drew ?_))); (case side2 => exact HC0.out); (case side3 => exact Tabs.below HT.out (by repeat (first | exact HB.out | apply bA | apply bN | apply bD | refine bS ?_ GE227.out))); rintro e w23 ⟨rfl, hb⟩; have n0_ := Aside0.mk (blk_below (g := gb227) (o := .cells #[.int .u8 a2_0, .int .u8 a2_1, .int .i64 a2_2] 30 (0, 0)) (by (with_reducible repeat (first | refine kN ?_ _ | refine kD ?_ | refine kA ?_ _)); exact BK227.out) hb); have n1_ := Aside0.mk (below_step (by repeat (first | exact HB.out | apply bA | apply bN | apply bD | refine bS ?_ GE227.out)) hb); clear BK227; clear HB; have BK227 := n0_; have HB := n1_; clear n0_ n1_; (try clear hb); (try clear hb2); (try clear hk); (try clear hi); have hcz24_0 : w23.cell? ⟨gb227, 0, none⟩ = some (.int .u8 a2_0) := (blk_cell BK227.out 0).trans rfl; have hcz24_1 : w23.cell? ⟨gb227, 1, none⟩ = some (.int .u8 a2_1) := (blk_cell BK227.out 1).trans rfl; have hcz24_2 : w23.cell? ⟨gb227, 2, none⟩ = some (.int .i64 a2_2) := (blk_cell BK227.out 2).trans rfl; have hfz24_0 := blk_frozen BK227.out 0; have hfz24_1 := blk_frozen BK227.out 1; have hfz24_2 := blk_frozen BK227.out 2)))
     go_ret2
     exact ⟨by first | rfl | (simp [errW_none, errW_some] <;> rfl) | (simp only [← hji5]; first | rfl | (simp [errW_none, errW_some] <;> rfl)) | (simp [*, errW_none, errW_some] <;> rfl), by repeat (first | exact HB.out | apply bA | apply bN | apply bD | refine bS ?_ GE227.out)⟩
    ·rw [if_neg c22] at H
     have c22b0 : (a2_0 == 102) = false := beq_eq_false_iff_ne.mpr c22
     have c22b1 : (a2_0 != 102) = true := bne_iff_ne.mpr c22
     replace H := Option.bind_eq_some_iff.mp H
     obtain ⟨t233, A250, H⟩ := H
     replace H : (some (wrap64 (t232 - t233), decide (t232 > a1))) = some (r1, r2) := H
     have A25 := Aside0.mk A250
     clear A250
     simp only [Option.some.injEq, Prod.mk.injEq] at H
     obtain ⟨rfl, rfl⟩ := H
     go_wp2_with (first | (go_at_call 21; (with_reducible refine (glyph_Floor.calls k1 _ _ l0 x10_1 t232 _ ?side3 ?side1 ?side2 A21.out).mono ?_); (case side1 => repeat (first | exact (Kd.C_below HR0.out HB.out) | (with_reducible refine Kd.C_alloc ?_ _) | (with_reducible refine Kd.C_drewN ?_ _) | (with_reducible refine Kd.C_drew ?_))); (case side2 => exact HC0.out); (case side3 => exact Tabs.below HT.out (by repeat (first | exact HB.out | apply bA | apply bN | apply bD | refine bS ?_ GE227.out))); rintro e w26 ⟨rfl, hb⟩; have n0_ := Aside0.mk (blk_below (g := gb227) (o := .cells #[.int .u8 a2_0, .int .u8 a2_1, .int .i64 a2_2] 30 (0, 0)) (by (with_reducible repeat (first | refine kN ?_ _ | refine kD ?_ | refine kA ?_ _)); exact BK227.out) hb); have n1_ := Aside0.mk (below_step (by repeat (first | exact HB.out | apply bA | apply bN | apply bD | refine bS ?_ GE227.out)) hb); clear BK227; clear HB; have BK227 := n0_; have HB := n1_; clear n0_ n1_; (try clear hb); (try clear hb2); (try clear hk); (try clear hi); have hcz27_0 : w26.cell? ⟨gb227, 0, none⟩ = some (.int .u8 a2_0) := (blk_cell BK227.out 0).trans rfl; have hcz27_1 : w26.cell? ⟨gb227, 1, none⟩ = some (.int .u8 a2_1) := (blk_cell BK227.out 1).trans rfl; have hcz27_2 : w26.cell? ⟨gb227, 2, none⟩ = some (.int .i64 a2_2) := (blk_cell BK227.out 2).trans rfl; have hfz27_0 := blk_frozen BK227.out 0; have hfz27_1 := blk_frozen BK227.out 1; have hfz27_2 := blk_frozen BK227.out 2) | (go_at_call 56; (with_reducible refine (glyph_Prev.calls k1 _ _ l0 t232 t233 _ ?side3 ?side1 ?side2 A25.out).mono ?_); (case side1 => repeat (first | exact (Kd.C_below HR0.out HB.out) | (with_reducible refine Kd.C_alloc ?_ _) | (with_reducible refine Kd.C_drewN ?_ _) | (with_reducible refine Kd.C_drew ?_))); (case side2 => exact HC0.out); (case side3 => exact Tabs.below HT.out (by repeat (first | exact HB.out | apply bA | apply bN | apply bD | refine bS ?_ GE227.out))); rintro e w28 ⟨rfl, hb⟩; have n0_ := Aside0.mk (blk_below (g := gb227) (o := .cells #[.int .u8 a2_0, .int .u8 a2_1, .int .i64 a2_2] 30 (0, 0)) (by (with_reducible repeat (first | refine kN ?_ _ | refine kD ?_ | refine kA ?_ _)); exact BK227.out) hb); have n1_ := Aside0.mk (below_step (by repeat (first | exact HB.out | apply bA | apply bN | apply bD | refine bS ?_ GE227.out)) hb); clear BK227; clear HB; have BK227 := n0_; have HB := n1_; clear n0_ n1_; (try clear hb); (try clear hb2); (try clear hk); (try clear hi)))
     repeat (go_quiet (first | (go_at_call 21; (with_reducible refine (glyph_Floor.calls k1 _ _ l0 x10_1 t232 _ ?side3 ?side1 ?side2 A21.out).mono ?_); (case side1 => repeat (first | exact (Kd.C_below HR0.out HB.out) | (with_reducible refine Kd.C_alloc ?_ _) | (with_reducible refine Kd.C_drewN ?_ _) | (with_reducible refine Kd.C_drew ?_))); (case side2 => exact HC0.out); (case side3 => exact Tabs.below HT.out (by repeat (first | exact HB.out | apply bA | apply bN | apply bD | refine bS ?_ GE227.out))); rintro e w26 ⟨rfl, hb⟩; have n0_ := Aside0.mk (blk_below (g := gb227) (o := .cells #[.int .u8 a2_0, .int .u8 a2_1, .int .i64 a2_2] 30 (0, 0)) (by (with_reducible repeat (first | refine kN ?_ _ | refine kD ?_ | refine kA ?_ _)); exact BK227.out) hb); have n1_ := Aside0.mk (below_step (by repeat (first | exact HB.out | apply bA | apply bN | apply bD | refine bS ?_ GE227.out)) hb); clear BK227; clear HB; have BK227 := n0_; have HB := n1_; clear n0_ n1_; (try clear hb); (try clear hb2); (try clear hk); (try clear hi); have hcz27_0 : w26.cell? ⟨gb227, 0, none⟩ = some (.int .u8 a2_0) := (blk_cell BK227.out 0).trans rfl; have hcz27_1 : w26.cell? ⟨gb227, 1, none⟩ = some (.int .u8 a2_1) := (blk_cell BK227.out 1).trans rfl; have hcz27_2 : w26.cell? ⟨gb227, 2, none⟩ = some (.int .i64 a2_2) := (blk_cell BK227.out 2).trans rfl; have hfz27_0 := blk_frozen BK227.out 0; have hfz27_1 := blk_frozen BK227.out 1; have hfz27_2 := blk_frozen BK227.out 2) | (go_at_call 56; (with_reducible refine (glyph_Prev.calls k1 _ _ l0 t232 t233 _ ?side3 ?side1 ?side2 A25.out).mono ?_); (case side1 => repeat (first | exact (Kd.C_below HR0.out HB.out) | (with_reducible refine Kd.C_alloc ?_ _) | (with_reducible refine Kd.C_drewN ?_ _) | (with_reducible refine Kd.C_drew ?_))); (case side2 => exact HC0.out); (case side3 => exact Tabs.below HT.out (by repeat (first | exact HB.out | apply bA | apply bN | apply bD | refine bS ?_ GE227.out))); rintro e w28 ⟨rfl, hb⟩; have n0_ := Aside0.mk (blk_below (g := gb227) (o := .cells #[.int .u8 a2_0, .int .u8 a2_1, .int .i64 a2_2] 30 (0, 0)) (by (with_reducible repeat (first | refine kN ?_ _ | refine kD ?_ | refine kA ?_ _)); exact BK227.out) hb); have n1_ := Aside0.mk (below_step (by repeat (first | exact HB.out | apply bA | apply bN | apply bD | refine bS ?_ GE227.out)) hb); clear BK227; clear HB; have BK227 := n0_; have HB := n1_; clear n0_ n1_; (try clear hb); (try clear hb2); (try clear hk); (try clear hi))); try go_wp2_with (first | (go_at_call 21; (with_reducible refine (glyph_Floor.calls k1 _ _ l0 x10_1 t232 _ ?side3 ?side1 ?side2 A21.out).mono ?_); (case side1 => repeat (first | exact (Kd.C_below HR0.out HB.out) | (with_reducible refine Kd.C_alloc ?_ _) | (with_reducible refine Kd.C_drewN ?_ _) | (with_reducible refine Kd.C_drew ?_))); (case side2 => exact HC0.out); (case side3 => exact Tabs.below HT.out (by repeat (first | exact HB.out | apply bA | apply bN | apply bD | refine bS ?_ GE227.out))); rintro e w26 ⟨rfl, hb⟩; have n0_ := Aside0.mk (blk_below (g := gb227) (o := .cells #[.int .u8 a2_0, .int .u8 a2_1, .int .i64 a2_2] 30 (0, 0)) (by (with_reducible repeat (first | refine kN ?_ _ | refine kD ?_ | refine kA ?_ _)); exact BK227.out) hb); have n1_ := Aside0.mk (below_step (by repeat (first | exact HB.out | apply bA | apply bN | apply bD | refine bS ?_ GE227.out)) hb); clear BK227; clear HB; have BK227 := n0_; have HB := n1_; clear n0_ n1_; (try clear hb); (try clear hb2); (try clear hk); (try clear hi); have hcz27_0 : w26.cell? ⟨gb227, 0, none⟩ = some (.int .u8 a2_0) := (blk_cell BK227.out 0).trans rfl; have hcz27_1 : w26.cell? ⟨gb227, 1, none⟩ = some (.int .u8 a2_1) := (blk_cell BK227.out 1).trans rfl; have hcz27_2 : w26.cell? ⟨gb227, 2, none⟩ = some (.int .i64 a2_2) := (blk_cell BK227.out 2).trans rfl; have hfz27_0 := blk_frozen BK227.out 0; have hfz27_1 := blk_frozen BK227.out 1; have hfz27_2 := blk_frozen BK227.out 2) | (go_at_call 56; (with_reducible refine (glyph_Prev.calls k1 _ _ l0 t232 t233 _ ?side3 ?side1 ?side2 A25.out).mono ?_); (case side1 => repeat (first | exact (Kd.C_below HR0.out HB.out) | (with_reducible refine Kd.C_alloc ?_ _) | (with_reducible refine Kd.C_drewN ?_ _) | (with_reducible refine Kd.C_drew ?_))); (case side2 => exact HC0.out); (case side3 => exact Tabs.below HT.out (by repeat (first | exact HB.out | apply bA | apply bN | apply bD | refine bS ?_ GE227.out))); rintro e w28 ⟨rfl, hb⟩; have n0_ := Aside0.mk (blk_below (g := gb227) (o := .cells #[.int .u8 a2_0, .int .u8 a2_1, .int .i64 a2_2] 30 (0, 0)) (by (with_reducible repeat (first | refine kN ?_ _ | refine kD ?_ | refine kA ?_ _)); exact BK227.out) hb); have n1_ := Aside0.mk (below_step (by repeat (first | exact HB.out | apply bA | apply bN | apply bD | refine bS ?_ GE227.out)) hb); clear BK227; clear HB; have BK227 := n0_; have HB := n1_; clear n0_ n1_; (try clear hb); (try clear hb2); (try clear hk); (try clear hi))))
     go_ret2
     exact ⟨by first | rfl | (simp [errW_none, errW_some] <;> rfl) | (simp only [← hji5]; first | rfl | (simp [errW_none, errW_some] <;> rfl)) | (simp [*, errW_none, errW_some] <;> rfl), by repeat (first | exact HB.out | apply bA | apply bN | apply bD | refine bS ?_ GE227.out)⟩

end Go.Proofs.YtloafpnniooliaaDoor.Pa
