-- Laid by a program of this claim's own (wip/tools/mkprint.py, ext.py): walks of the functions that the statements reach.
import Derived.Test.YtcljafgpjoagpaaPax0
import Derived.Test.YtcljafgpjoagpaaPax2
import Derived.Test.YtcljafgpjoagpaaPax5
import Derived.Test.YtcljafgpjoagpaaPax7
namespace Go.Proofs.Ytcljafgpjoagpaa.Pa
open Go.RowKit Go.Proofs.Ytcljafgpjoagpaa.Ext Go.Proofs.YtcljafgpjoagpaaW.PrintWords Go.Proofs.YtcljafgpjoagpaaW.PrintLast Go.Proofs.YtcljafgpjoagpaaW.PrintMore
attribute [local go_sem] max2_int min2_int max_two min_two max_three min_three max_four min_four   -- for this text's walks alone
set_option linter.unusedVariables false
set_option linter.unusedSimpArgs false

/-! ### platenlaw20_ObjectCount: function 3 -/
def platenlaw20_ObjectCount.j0 : Nat → List Int → Int → Int → Bool → Option (Bool)
  | 0, _, _, _, _ => none
  | k + 1, x0, x1, x2, x17 => if x17 = true then ((platenlaw20_inner.f k).bind fun t254 => (some t254)) else ((object_Count.f k x0 x1 x2).bind fun bt255 => ((platenref20_Count.f k x0 x1 x2).bind fun bt260 => (if (bt255.2.2.2 == bt260.2.2.2) = true then ((platenlaw20_is.f bt255.1 bt255.2.1 bt255.2.2.1 bt260.1 bt260.2.1 bt260.2.2.1).bind fun t265 => (some t265)) else (some false))))
def platenlaw20_ObjectCount.f (k : Nat) (l0 : List Int) (a1 : Int) (a2 : Int) : Option (Bool) := (platenlaw20_inner.f k).bind fun t253 => (if t253 = true then (platenlaw20_ObjectCount.j0 k l0 a1 a2 (decide ((l0.length : Int) > 200))) else (platenlaw20_ObjectCount.j0 k l0 a1 a2 true))
theorem platenlaw20_ObjectCount.mono_l : ∀ k, (∀ y0 y1 y2 y3, LeO (platenlaw20_ObjectCount.j0 k y0 y1 y2 y3) (platenlaw20_ObjectCount.j0 (k + 1) y0 y1 y2 y3))
  | 0 => fun _ _ _ _ r h => by simp [platenlaw20_ObjectCount.j0] at h
  | k + 1 => by
    have ih0 := platenlaw20_ObjectCount.mono_l k
    · intro y0 y1 y2 y3
      unfold platenlaw20_ObjectCount.j0
      repeat' first
      | (with_reducible exact ih0 _ _ _ _)
      | (with_reducible exact object_Count.mono _ _ _ _)
      | (with_reducible exact platenlaw20_inner.mono _)
      | (with_reducible exact platenref20_Count.mono _ _ _ _)
      | (with_reducible exact LeO.refl _)
      | (with_reducible exact LeO.none _)
      | (with_reducible refine LeO.ite ?_ ?_)
      | (with_reducible refine LeO.bind ?_ (fun _ => ?_))
      | exact ih0 _ _ _ _
      | exact object_Count.mono _ _ _ _
      | exact platenlaw20_inner.mono _
      | exact platenref20_Count.mono _ _ _ _
      | exact LeO.none _
      | refine LeO.ite ?_ ?_
      | refine LeO.bind ?_ (fun _ => ?_)
theorem platenlaw20_ObjectCount.mono : ∀ a0 a1 a2 k, LeO (platenlaw20_ObjectCount.f k a0 a1 a2) (platenlaw20_ObjectCount.f (k + 1) a0 a1 a2) := by
  intro a0 a1 a2 k
  have ih0 := platenlaw20_ObjectCount.mono_l k
  unfold platenlaw20_ObjectCount.f
  repeat' first
      | (with_reducible exact ih0 _ _ _ _)
      | (with_reducible exact object_Count.mono _ _ _ _)
      | (with_reducible exact platenlaw20_inner.mono _)
      | (with_reducible exact platenref20_Count.mono _ _ _ _)
      | (with_reducible exact LeO.refl _)
      | (with_reducible exact LeO.none _)
      | (with_reducible refine LeO.ite ?_ ?_)
      | (with_reducible refine LeO.bind ?_ (fun _ => ?_))
      | exact ih0 _ _ _ _
      | exact object_Count.mono _ _ _ _
      | exact platenlaw20_inner.mono _
      | exact platenref20_Count.mono _ _ _ _
      | exact LeO.none _
      | refine LeO.ite ?_ ?_
      | refine LeO.bind ?_ (fun _ => ?_)
set_option maxHeartbeats 8000000 in
set_option maxRecDepth 100000 in
theorem platenlaw20_ObjectCount.calls (k : Nat) (A0 : Option Addr) (c0 : Nat) (l0 : List Int) (a1 : Int) (a2 : Int) (r : Bool) (w : World) (hr0 : Kd.C (Kd.int .u8) w A0 l0.length l0) (hc0 : l0.length ≤ c0) (h : platenlaw20_ObjectCount.f k l0 a1 a2 = some r) :
    Calls Try.prog 3 #[.slice A0 l0.length c0, .int .i64 a1, .int .i64 a2] w fun e w' => e = .returned (.bool r) ∧ Below w.heap.size w w' := by
  have hu27 := Try.underlying27
  have hu31 := Try.underlying31
  have HR0 := Aside0.mk hr0
  have HC0 := Aside0.mk hc0
  clear hr0 hc0
  have HB := Aside0.mk (Below.refl w.heap.size w)
  have H : ((platenlaw20_inner.f k).bind fun t253 => (if t253 = true then (platenlaw20_ObjectCount.j0 k l0 a1 a2 (decide ((l0.length : Int) > 200))) else (platenlaw20_ObjectCount.j0 k l0 a1 a2 true))) = some r := h
  clear h
  have HC4 := Aside0.mk H
  clear H
  go_enter Try.func3, Try.ntmps3
  go_upto_region 1 with (fail)
  go_cut [17] (fun v17 wc => ∃ (kq : Nat) (x17_3 : Bool), v17 = .bool x17_3 ∧ Aside0 (platenlaw20_ObjectCount.j0 kq l0 a1 a2 x17_3 = some r) ∧ Aside0 (kq ≤ k) ∧ Aside0 (Below w.heap.size w wc))
  case first =>
    have H := HC4.out
    clear HC4
    replace H := Option.bind_eq_some_iff.mp H
    obtain ⟨t253, A50, H⟩ := H
    replace H : (if t253 = true then (platenlaw20_ObjectCount.j0 k l0 a1 a2 (decide ((l0.length : Int) > 200))) else (platenlaw20_ObjectCount.j0 k l0 a1 a2 true)) = some r := H
    have A5 := Aside0.mk A50
    clear A50
    by_cases c6 : t253 = true
    · subst c6
      have H1 : (platenlaw20_ObjectCount.j0 k l0 a1 a2 (decide ((l0.length : Int) > 200))) = some r := by rw [if_pos rfl] at H; exact H
      clear H
      have H := H1
      clear H1
      have H' := Aside0.mk H
      clear H
      go_wp2_with (first | ((with_reducible refine gate_callee (f := 9) rfl ?_); refine goesL_ (some 11) rfl rfl Try.func9 (by kernel_rfl) rfl #[] rfl (by (try simp only [List.map_toArray, List.map_cons, List.map_nil]); first | done | rfl | (simp only [List.length_drop, List.length_take]; rfl)) ?_; (with_reducible refine (platenlaw20_inner.calls k  true _ A5.out).mono ?_); rintro e w7 ⟨rfl, hb⟩; refine ⟨_, rfl, ?_⟩; have n0_ := Aside0.mk (below_step (by repeat (first | (with_reducible first | exact HB.out | apply below_alloc | apply pw_below_drewN | apply below_drew1) | exact HB.out)) hb); clear HB; have HB := n0_; clear n0_; (try clear hb); (try clear hb2); (try clear hk); (try clear hi)))
      go_meet
      case rel => exact ⟨_, (decide ((l0.length : Int) > 200)), (by first | rfl | (simp; done) | (simp [*]; done)), H', ⟨by first | omega | exact Nat.le_refl _⟩, ⟨by repeat (first | (with_reducible first | exact HB.out | apply below_alloc | apply pw_below_drewN | apply below_drew1) | exact HB.out)⟩⟩
    · replace c6 := Bool.eq_false_iff.mpr c6
      subst c6
      have H1 : (platenlaw20_ObjectCount.j0 k l0 a1 a2 true) = some r := by rw [if_neg (show ¬ (false = true) by decide)] at H; exact H
      clear H
      have H := H1
      clear H1
      have H' := Aside0.mk H
      clear H
      go_wp2_with (first | ((with_reducible refine gate_callee (f := 9) rfl ?_); refine goesL_ (some 11) rfl rfl Try.func9 (by kernel_rfl) rfl #[] rfl (by (try simp only [List.map_toArray, List.map_cons, List.map_nil]); first | done | rfl | (simp only [List.length_drop, List.length_take]; rfl)) ?_; (with_reducible refine (platenlaw20_inner.calls k  false _ A5.out).mono ?_); rintro e w8 ⟨rfl, hb⟩; refine ⟨_, rfl, ?_⟩; have n0_ := Aside0.mk (below_step (by repeat (first | (with_reducible first | exact HB.out | apply below_alloc | apply pw_below_drewN | apply below_drew1) | exact HB.out)) hb); clear HB; have HB := n0_; clear n0_; (try clear hb); (try clear hb2); (try clear hk); (try clear hi)))
      go_meet
      case rel => exact ⟨_, (true), (by first | rfl | (simp; done) | (simp [*]; done)), H', ⟨by first | omega | exact Nat.le_refl _⟩, ⟨by repeat (first | (with_reducible first | exact HB.out | apply below_alloc | apply pw_below_drewN | apply below_drew1) | exact HB.out)⟩⟩
  case rest =>
    clear HC4
    try clear p2
    try clear c3
    try clear c6
    obtain ⟨kq, x17_3, rfl, HA, HJ3, HB⟩ := hcut
    cases kq with
    | zero => exact absurd HA.out (by simp [platenlaw20_ObjectCount.j0])
    | succ kj3 =>
      have H := HA.out
      clear HA
      simp only [platenlaw20_ObjectCount.j0] at H
      by_cases c9 : x17_3 = true
      · subst c9
        have H1 : ((platenlaw20_inner.f kj3).bind fun t254 => (some t254)) = some r := by rw [if_pos rfl] at H; exact H
        clear H
        have H := H1
        clear H1
        replace H := Option.bind_eq_some_iff.mp H
        obtain ⟨t254, A100, H⟩ := H
        replace H : (some t254) = some r := H
        have A10 := Aside0.mk A100
        clear A100
        obtain rfl := Option.some.inj H
        go_wp2_with (first | ((with_reducible refine gate_callee (f := 9) rfl ?_); refine goesL_ (some 18) rfl rfl Try.func9 (by kernel_rfl) rfl #[] rfl (by (try simp only [List.map_toArray, List.map_cons, List.map_nil]); first | done | rfl | (simp only [List.length_drop, List.length_take]; rfl)) ?_; (with_reducible refine (platenlaw20_inner.calls kj3  t254 _ A10.out).mono ?_); rintro e w11 ⟨rfl, hb⟩; refine ⟨_, rfl, ?_⟩; have n0_ := Aside0.mk (below_step (by repeat (first | (with_reducible first | exact HB.out | apply below_alloc | apply pw_below_drewN | apply below_drew1) | exact HB.out)) hb); clear HB; have HB := n0_; clear n0_; (try clear hb); (try clear hb2); (try clear hk); (try clear hi)))
        go_ret
        exact ⟨by first | rfl | (simp [errW_none, errW_some] <;> rfl) | (simp [*, errW_none, errW_some] <;> rfl), by repeat (first | (with_reducible first | exact HB.out | apply below_alloc | apply pw_below_drewN | apply below_drew1) | exact HB.out)⟩
      · replace c9 := Bool.eq_false_iff.mpr c9
        subst c9
        have H1 : ((object_Count.f kj3 l0 a1 a2).bind fun bt255 => ((platenref20_Count.f kj3 l0 a1 a2).bind fun bt260 => (if (bt255.2.2.2 == bt260.2.2.2) = true then ((platenlaw20_is.f bt255.1 bt255.2.1 bt255.2.2.1 bt260.1 bt260.2.1 bt260.2.2.1).bind fun t265 => (some t265)) else (some false)))) = some r := by rw [if_neg (show ¬ (false = true) by decide)] at H; exact H
        clear H
        have H := H1
        clear H1
        replace H := Option.bind_eq_some_iff.mp H
        obtain ⟨⟨t255, t256, t257, t258⟩, A120, H⟩ := H
        replace H : ((platenref20_Count.f kj3 l0 a1 a2).bind fun bt260 => (if (t258 == bt260.2.2.2) = true then ((platenlaw20_is.f t255 t256 t257 bt260.1 bt260.2.1 bt260.2.2.1).bind fun t265 => (some t265)) else (some false))) = some r := H
        have A12 := Aside0.mk A120
        clear A120
        replace H := Option.bind_eq_some_iff.mp H
        obtain ⟨⟨t260, t261, t262, t263⟩, A130, H⟩ := H
        replace H : (if (t258 == t263) = true then ((platenlaw20_is.f t255 t256 t257 t260 t261 t262).bind fun t265 => (some t265)) else (some false)) = some r := H
        have A13 := Aside0.mk A130
        clear A130
        by_cases c14 : (t258 == t263) = true
        · rw [if_pos c14] at H
          have c14b0 : (t258 == t263) = true := c14
          (try (have c14b1 : decide (t258 = t263) = true := by simpa using c14))
          (try (have c14b2 : (t258 == t263) = true := by simpa using c14))
          clear c14
          replace H := Option.bind_eq_some_iff.mp H
          obtain ⟨t265, A150, H⟩ := H
          replace H : (some t265) = some r := H
          have A15 := Aside0.mk A150
          clear A150
          obtain rfl := Option.some.inj H
          go_wp2_with (first | ((with_reducible refine gate_callee (f := 10) rfl ?_); refine goesL_ (some 23) rfl rfl Try.func10 (by kernel_rfl) rfl #[.slice A0 l0.length c0, .int .i64 a1, .int .i64 a2] rfl (by (try simp only [List.map_toArray, List.map_cons, List.map_nil]); first | done | rfl | (simp only [List.length_drop, List.length_take]; rfl)) ?_; (with_reducible refine (object_Count.calls kj3 _ _ l0 a1 a2 t255 t256 t257 t258 _ ?side1 ?side2 A12.out).mono ?_); (case side1 => repeat (first | exact (Kd.C_below HR0.out HB.out) | (with_reducible refine Kd.C_alloc ?_ _) | (with_reducible refine Kd.C_drewN ?_ _) | (with_reducible refine Kd.C_drew ?_))); (case side2 => exact HC0.out); rintro e w16 ⟨rfl, hb⟩; refine ⟨_, rfl, ?_⟩; have n0_ := Aside0.mk (below_step (by repeat (first | (with_reducible first | exact HB.out | apply below_alloc | apply pw_below_drewN | apply below_drew1) | exact HB.out)) hb); clear HB; have HB := n0_; clear n0_; (try clear hb); (try clear hb2); (try clear hk); (try clear hi)) | ((with_reducible refine gate_dst (N := 7) rfl ?_); (try (refine gate_guard (by rfl) ?_; dsimp only)); refine box_event ?hg (N := 7) ?hd (cs := #[.int .i64 0, .int .i64 0, .bool false]) (t := 27) ?hr ?_; (case hd => rfl); (case hg => rfl); (case hr => first | (go_simp; done) | (go_simp; rfl)); intro gb259 hg w17 hbox hb; have n0_ := Aside0.mk (below_step (by repeat (first | (with_reducible first | exact HB.out | apply below_alloc | apply pw_below_drewN | apply below_drew1) | exact HB.out)) hb); have n1_ := Aside0.mk (hbox); have n2_ := Aside0.mk ((by rw [hg]; exact (below_size (by repeat (first | (with_reducible first | exact HB.out | apply below_alloc | apply pw_below_drewN | apply below_drew1) | exact HB.out))) : w.heap.size ≤ gb259)); have n3_ := Aside0.mk ((by rw [hg]; exact (below_size (by repeat (first | (with_reducible first | exact HB.out | apply below_alloc | apply pw_below_drewN | apply below_drew1) | exact HB.out))) : w.heap.size ≤ gb259)); clear HB; have HB := n0_; have BK259 := n1_; have GW259 := n2_; have GE259 := n3_; clear n0_ n1_ n2_ n3_; clear hb hbox hg; have hcz18_0 : w17.cell? ⟨gb259, 0, none⟩ = some (.int .i64 0) := (blk_cell BK259.out 0).trans rfl; have hcz18_1 : w17.cell? ⟨gb259, 1, none⟩ = some (.int .i64 0) := (blk_cell BK259.out 1).trans rfl; have hcz18_2 : w17.cell? ⟨gb259, 2, none⟩ = some (.bool false) := (blk_cell BK259.out 2).trans rfl; have hfz18_0 := blk_frozen BK259.out 0; have hfz18_1 := blk_frozen BK259.out 1; have hfz18_2 := blk_frozen BK259.out 2) | ((with_reducible refine gate_callee (f := 11) rfl ?_); refine goesL_ (some 30) rfl rfl Try.func11 (by kernel_rfl) rfl #[.slice A0 l0.length c0, .int .i64 a1, .int .i64 a2] rfl (by (try simp only [List.map_toArray, List.map_cons, List.map_nil]); first | done | rfl | (simp only [List.length_drop, List.length_take]; rfl)) ?_; (with_reducible refine (platenref20_Count.calls kj3 _ _ l0 a1 a2 t260 t261 t262 t263 _ ?side1 ?side2 A13.out).mono ?_); (case side1 => exact Kd.C_below HR0.out (by repeat (first | (with_reducible first | exact HB.out | apply below_alloc | apply pw_below_drewN | apply below_drew1 | refine below_set ?_ GE259.out) | exact HB.out))); (case side2 => exact HC0.out); rintro e w19 ⟨rfl, hb⟩; refine ⟨_, rfl, ?_⟩; have n0_ := Aside0.mk (blk_below (g := gb259) (o := .cells #[.int .i64 t255, .int .i64 t256, .bool t257] 27 (0, 0)) (by (with_reducible repeat (first | refine blk_drewN ?_ _ | refine blk_drew ?_ | refine blk_alloc ?_ _)); refine blk_put (cs := #[.int .i64 t255, .int .i64 t256, .bool false]) ?_ 2 _ rfl; (with_reducible repeat (first | refine blk_drewN ?_ _ | refine blk_drew ?_ | refine blk_alloc ?_ _)); refine blk_put (cs := #[.int .i64 t255, .int .i64 0, .bool false]) ?_ 1 _ rfl; (with_reducible repeat (first | refine blk_drewN ?_ _ | refine blk_drew ?_ | refine blk_alloc ?_ _)); refine blk_put (cs := #[.int .i64 0, .int .i64 0, .bool false]) ?_ 0 _ rfl; (with_reducible repeat (first | refine blk_drewN ?_ _ | refine blk_drew ?_ | refine blk_alloc ?_ _)); exact BK259.out) hb); have n1_ := Aside0.mk (below_step (by repeat (first | (with_reducible first | exact HB.out | apply below_alloc | apply pw_below_drewN | apply below_drew1 | refine below_set ?_ GE259.out) | exact HB.out)) hb); clear BK259; clear HB; have BK259 := n0_; have HB := n1_; clear n0_ n1_; (try clear hb); (try clear hb2); (try clear hk); (try clear hi)) | ((with_reducible refine gate_dst (N := 9) rfl ?_); (try (refine gate_guard (by rfl) ?_; dsimp only)); refine box_event ?hg (N := 9) ?hd (cs := #[.int .i64 0, .int .i64 0, .bool false]) (t := 31) ?hr ?_; (case hd => rfl); (case hg => rfl); (case hr => first | (go_simp; done) | (go_simp; rfl)); intro gb264 hg w20 hbox hb; have n0_ := Aside0.mk (blk_below (g := gb259) (o := .cells #[.int .i64 t255, .int .i64 t256, .bool t257] 27 (0, 0)) (by (with_reducible repeat (first | refine blk_drewN ?_ _ | refine blk_drew ?_ | refine blk_alloc ?_ _)); exact BK259.out) hb); have n1_ := Aside0.mk (below_step (by repeat (first | (with_reducible first | exact HB.out | apply below_alloc | apply pw_below_drewN | apply below_drew1 | refine below_set ?_ GE259.out) | exact HB.out)) hb); have n2_ := Aside0.mk (hbox); have n3_ := Aside0.mk ((by rw [hg]; exact (below_size (by repeat (first | (with_reducible first | exact HB.out | apply below_alloc | apply pw_below_drewN | apply below_drew1 | refine below_set ?_ GE259.out) | exact HB.out))) : w.heap.size ≤ gb264)); have n4_ := Aside0.mk ((by rw [hg]; exact (below_size (by repeat (first | (with_reducible first | exact HB.out | apply below_alloc | apply pw_below_drewN | apply below_drew1 | refine below_set ?_ GE259.out) | exact HB.out))) : w.heap.size ≤ gb264)); have n5_ := Aside0.mk ((by rw [hg]; exact Nat.ne_of_lt (blk_lt (g := gb259) (o := .cells #[.int .i64 t255, .int .i64 t256, .bool t257] 27 (0, 0)) (by (with_reducible repeat (first | refine blk_drewN ?_ _ | refine blk_drew ?_ | refine blk_alloc ?_ _)); exact BK259.out)) : gb259 ≠ gb264)); have n6_ := Aside0.mk ((by rw [hg]; exact Nat.ne_of_gt (blk_lt (g := gb259) (o := .cells #[.int .i64 t255, .int .i64 t256, .bool t257] 27 (0, 0)) (by (with_reducible repeat (first | refine blk_drewN ?_ _ | refine blk_drew ?_ | refine blk_alloc ?_ _)); exact BK259.out)) : gb264 ≠ gb259)); clear BK259; clear HB; have BK259 := n0_; have HB := n1_; have BK264 := n2_; have GW264 := n3_; have GE264 := n4_; have NB259_264 := n5_; have NB264_259 := n6_; clear n0_ n1_ n2_ n3_ n4_ n5_ n6_; clear hb hbox hg; have hnb21 := NB264_259.out; have hnc21 := NB259_264.out; have hcz22_0 : w20.cell? ⟨gb264, 0, none⟩ = some (.int .i64 0) := (blk_cell BK264.out 0).trans rfl; have hcz22_1 : w20.cell? ⟨gb264, 1, none⟩ = some (.int .i64 0) := (blk_cell BK264.out 1).trans rfl; have hcz22_2 : w20.cell? ⟨gb264, 2, none⟩ = some (.bool false) := (blk_cell BK264.out 2).trans rfl; have hfz22_0 := blk_frozen BK264.out 0; have hfz22_1 := blk_frozen BK264.out 1; have hfz22_2 := blk_frozen BK264.out 2; have hcz23_0 : w20.cell? ⟨gb259, 0, none⟩ = some (.int .i64 t255) := (blk_cell BK259.out 0).trans rfl; have hcz23_1 : w20.cell? ⟨gb259, 1, none⟩ = some (.int .i64 t256) := (blk_cell BK259.out 1).trans rfl; have hcz23_2 : w20.cell? ⟨gb259, 2, none⟩ = some (.bool t257) := (blk_cell BK259.out 2).trans rfl; have hfz23_0 := blk_frozen BK259.out 0; have hfz23_1 := blk_frozen BK259.out 1; have hfz23_2 := blk_frozen BK259.out 2) | (go_at_call 12; (with_reducible refine (platenlaw20_is.calls t255 t256 t257 t260 t261 t262 t265 _ A15.out).mono ?_); rintro e w24 ⟨rfl, hb⟩; have n0_ := Aside0.mk (blk_below (g := gb259) (o := .cells #[.int .i64 t255, .int .i64 t256, .bool t257] 27 (0, 0)) (by (with_reducible repeat (first | refine blk_drewN ?_ _ | refine blk_drew ?_ | refine blk_alloc ?_ _)); refine blk_far ?_ NB259_264.out _; (with_reducible repeat (first | refine blk_drewN ?_ _ | refine blk_drew ?_ | refine blk_alloc ?_ _)); refine blk_far ?_ NB259_264.out _; (with_reducible repeat (first | refine blk_drewN ?_ _ | refine blk_drew ?_ | refine blk_alloc ?_ _)); refine blk_far ?_ NB259_264.out _; (with_reducible repeat (first | refine blk_drewN ?_ _ | refine blk_drew ?_ | refine blk_alloc ?_ _)); exact BK259.out) hb); have n1_ := Aside0.mk (blk_below (g := gb264) (o := .cells #[.int .i64 t260, .int .i64 t261, .bool t262] 31 (0, 0)) (by (with_reducible repeat (first | refine blk_drewN ?_ _ | refine blk_drew ?_ | refine blk_alloc ?_ _)); refine blk_put (cs := #[.int .i64 t260, .int .i64 t261, .bool false]) ?_ 2 _ rfl; (with_reducible repeat (first | refine blk_drewN ?_ _ | refine blk_drew ?_ | refine blk_alloc ?_ _)); refine blk_put (cs := #[.int .i64 t260, .int .i64 0, .bool false]) ?_ 1 _ rfl; (with_reducible repeat (first | refine blk_drewN ?_ _ | refine blk_drew ?_ | refine blk_alloc ?_ _)); refine blk_put (cs := #[.int .i64 0, .int .i64 0, .bool false]) ?_ 0 _ rfl; (with_reducible repeat (first | refine blk_drewN ?_ _ | refine blk_drew ?_ | refine blk_alloc ?_ _)); exact BK264.out) hb); have n2_ := Aside0.mk (below_step (by repeat (first | (with_reducible first | exact HB.out | apply below_alloc | apply pw_below_drewN | apply below_drew1 | refine below_set ?_ GE259.out | refine below_set ?_ GE264.out) | exact HB.out)) hb); clear BK259; clear BK264; clear HB; have BK259 := n0_; have BK264 := n1_; have HB := n2_; clear n0_ n1_ n2_; (try clear hb); (try clear hb2); (try clear hk); (try clear hi)))
          go_ret
          exact ⟨by first | rfl | (simp [errW_none, errW_some] <;> rfl) | (simp [*, errW_none, errW_some] <;> rfl), by repeat (first | (with_reducible first | exact HB.out | apply below_alloc | apply pw_below_drewN | apply below_drew1 | refine below_set ?_ GE259.out | refine below_set ?_ GE264.out) | exact HB.out)⟩
        · rw [if_neg c14] at H
          have c14b0 : (t258 == t263) = false := by simpa using c14
          (try (have c14b1 : decide (t258 = t263) = false := by simpa using c14))
          (try (have c14b2 : (t258 == t263) = false := by simpa using c14))
          (try (have c14b3 : ¬ (t258 = t263) := by simpa using c14))
          clear c14
          obtain rfl := Option.some.inj H
          go_wp2_with (first | ((with_reducible refine gate_callee (f := 10) rfl ?_); refine goesL_ (some 23) rfl rfl Try.func10 (by kernel_rfl) rfl #[.slice A0 l0.length c0, .int .i64 a1, .int .i64 a2] rfl (by (try simp only [List.map_toArray, List.map_cons, List.map_nil]); first | done | rfl | (simp only [List.length_drop, List.length_take]; rfl)) ?_; (with_reducible refine (object_Count.calls kj3 _ _ l0 a1 a2 t255 t256 t257 t258 _ ?side1 ?side2 A12.out).mono ?_); (case side1 => repeat (first | exact (Kd.C_below HR0.out HB.out) | (with_reducible refine Kd.C_alloc ?_ _) | (with_reducible refine Kd.C_drewN ?_ _) | (with_reducible refine Kd.C_drew ?_))); (case side2 => exact HC0.out); rintro e w25 ⟨rfl, hb⟩; refine ⟨_, rfl, ?_⟩; have n0_ := Aside0.mk (below_step (by repeat (first | (with_reducible first | exact HB.out | apply below_alloc | apply pw_below_drewN | apply below_drew1) | exact HB.out)) hb); clear HB; have HB := n0_; clear n0_; (try clear hb); (try clear hb2); (try clear hk); (try clear hi)) | ((with_reducible refine gate_dst (N := 7) rfl ?_); (try (refine gate_guard (by rfl) ?_; dsimp only)); refine box_event ?hg (N := 7) ?hd (cs := #[.int .i64 0, .int .i64 0, .bool false]) (t := 27) ?hr ?_; (case hd => rfl); (case hg => rfl); (case hr => first | (go_simp; done) | (go_simp; rfl)); intro gb259 hg w26 hbox hb; have n0_ := Aside0.mk (below_step (by repeat (first | (with_reducible first | exact HB.out | apply below_alloc | apply pw_below_drewN | apply below_drew1) | exact HB.out)) hb); have n1_ := Aside0.mk (hbox); have n2_ := Aside0.mk ((by rw [hg]; exact (below_size (by repeat (first | (with_reducible first | exact HB.out | apply below_alloc | apply pw_below_drewN | apply below_drew1) | exact HB.out))) : w.heap.size ≤ gb259)); have n3_ := Aside0.mk ((by rw [hg]; exact (below_size (by repeat (first | (with_reducible first | exact HB.out | apply below_alloc | apply pw_below_drewN | apply below_drew1) | exact HB.out))) : w.heap.size ≤ gb259)); clear HB; have HB := n0_; have BK259 := n1_; have GW259 := n2_; have GE259 := n3_; clear n0_ n1_ n2_ n3_; clear hb hbox hg; have hcz27_0 : w26.cell? ⟨gb259, 0, none⟩ = some (.int .i64 0) := (blk_cell BK259.out 0).trans rfl; have hcz27_1 : w26.cell? ⟨gb259, 1, none⟩ = some (.int .i64 0) := (blk_cell BK259.out 1).trans rfl; have hcz27_2 : w26.cell? ⟨gb259, 2, none⟩ = some (.bool false) := (blk_cell BK259.out 2).trans rfl; have hfz27_0 := blk_frozen BK259.out 0; have hfz27_1 := blk_frozen BK259.out 1; have hfz27_2 := blk_frozen BK259.out 2) | ((with_reducible refine gate_callee (f := 11) rfl ?_); refine goesL_ (some 30) rfl rfl Try.func11 (by kernel_rfl) rfl #[.slice A0 l0.length c0, .int .i64 a1, .int .i64 a2] rfl (by (try simp only [List.map_toArray, List.map_cons, List.map_nil]); first | done | rfl | (simp only [List.length_drop, List.length_take]; rfl)) ?_; (with_reducible refine (platenref20_Count.calls kj3 _ _ l0 a1 a2 t260 t261 t262 t263 _ ?side1 ?side2 A13.out).mono ?_); (case side1 => exact Kd.C_below HR0.out (by repeat (first | (with_reducible first | exact HB.out | apply below_alloc | apply pw_below_drewN | apply below_drew1 | refine below_set ?_ GE259.out) | exact HB.out))); (case side2 => exact HC0.out); rintro e w28 ⟨rfl, hb⟩; refine ⟨_, rfl, ?_⟩; have n0_ := Aside0.mk (blk_below (g := gb259) (o := .cells #[.int .i64 t255, .int .i64 t256, .bool t257] 27 (0, 0)) (by (with_reducible repeat (first | refine blk_drewN ?_ _ | refine blk_drew ?_ | refine blk_alloc ?_ _)); refine blk_put (cs := #[.int .i64 t255, .int .i64 t256, .bool false]) ?_ 2 _ rfl; (with_reducible repeat (first | refine blk_drewN ?_ _ | refine blk_drew ?_ | refine blk_alloc ?_ _)); refine blk_put (cs := #[.int .i64 t255, .int .i64 0, .bool false]) ?_ 1 _ rfl; (with_reducible repeat (first | refine blk_drewN ?_ _ | refine blk_drew ?_ | refine blk_alloc ?_ _)); refine blk_put (cs := #[.int .i64 0, .int .i64 0, .bool false]) ?_ 0 _ rfl; (with_reducible repeat (first | refine blk_drewN ?_ _ | refine blk_drew ?_ | refine blk_alloc ?_ _)); exact BK259.out) hb); have n1_ := Aside0.mk (below_step (by repeat (first | (with_reducible first | exact HB.out | apply below_alloc | apply pw_below_drewN | apply below_drew1 | refine below_set ?_ GE259.out) | exact HB.out)) hb); clear BK259; clear HB; have BK259 := n0_; have HB := n1_; clear n0_ n1_; (try clear hb); (try clear hb2); (try clear hk); (try clear hi)) | ((with_reducible refine gate_dst (N := 9) rfl ?_); (try (refine gate_guard (by rfl) ?_; dsimp only)); refine box_event ?hg (N := 9) ?hd (cs := #[.int .i64 0, .int .i64 0, .bool false]) (t := 31) ?hr ?_; (case hd => rfl); (case hg => rfl); (case hr => first | (go_simp; done) | (go_simp; rfl)); intro gb264 hg w29 hbox hb; have n0_ := Aside0.mk (blk_below (g := gb259) (o := .cells #[.int .i64 t255, .int .i64 t256, .bool t257] 27 (0, 0)) (by (with_reducible repeat (first | refine blk_drewN ?_ _ | refine blk_drew ?_ | refine blk_alloc ?_ _)); exact BK259.out) hb); have n1_ := Aside0.mk (below_step (by repeat (first | (with_reducible first | exact HB.out | apply below_alloc | apply pw_below_drewN | apply below_drew1 | refine below_set ?_ GE259.out) | exact HB.out)) hb); have n2_ := Aside0.mk (hbox); have n3_ := Aside0.mk ((by rw [hg]; exact (below_size (by repeat (first | (with_reducible first | exact HB.out | apply below_alloc | apply pw_below_drewN | apply below_drew1 | refine below_set ?_ GE259.out) | exact HB.out))) : w.heap.size ≤ gb264)); have n4_ := Aside0.mk ((by rw [hg]; exact (below_size (by repeat (first | (with_reducible first | exact HB.out | apply below_alloc | apply pw_below_drewN | apply below_drew1 | refine below_set ?_ GE259.out) | exact HB.out))) : w.heap.size ≤ gb264)); have n5_ := Aside0.mk ((by rw [hg]; exact Nat.ne_of_lt (blk_lt (g := gb259) (o := .cells #[.int .i64 t255, .int .i64 t256, .bool t257] 27 (0, 0)) (by (with_reducible repeat (first | refine blk_drewN ?_ _ | refine blk_drew ?_ | refine blk_alloc ?_ _)); exact BK259.out)) : gb259 ≠ gb264)); have n6_ := Aside0.mk ((by rw [hg]; exact Nat.ne_of_gt (blk_lt (g := gb259) (o := .cells #[.int .i64 t255, .int .i64 t256, .bool t257] 27 (0, 0)) (by (with_reducible repeat (first | refine blk_drewN ?_ _ | refine blk_drew ?_ | refine blk_alloc ?_ _)); exact BK259.out)) : gb264 ≠ gb259)); clear BK259; clear HB; have BK259 := n0_; have HB := n1_; have BK264 := n2_; have GW264 := n3_; have GE264 := n4_; have NB259_264 := n5_; have NB264_259 := n6_; clear n0_ n1_ n2_ n3_ n4_ n5_ n6_; clear hb hbox hg; have hnb30 := NB264_259.out; have hnc30 := NB259_264.out; have hcz31_0 : w29.cell? ⟨gb264, 0, none⟩ = some (.int .i64 0) := (blk_cell BK264.out 0).trans rfl; have hcz31_1 : w29.cell? ⟨gb264, 1, none⟩ = some (.int .i64 0) := (blk_cell BK264.out 1).trans rfl; have hcz31_2 : w29.cell? ⟨gb264, 2, none⟩ = some (.bool false) := (blk_cell BK264.out 2).trans rfl; have hfz31_0 := blk_frozen BK264.out 0; have hfz31_1 := blk_frozen BK264.out 1; have hfz31_2 := blk_frozen BK264.out 2))
          go_ret
          exact ⟨by first | rfl | (simp [errW_none, errW_some] <;> rfl) | (simp [*, errW_none, errW_some] <;> rfl), by repeat (first | (with_reducible first | exact HB.out | apply below_alloc | apply pw_below_drewN | apply below_drew1 | refine below_set ?_ GE259.out | refine below_set ?_ GE264.out) | exact HB.out)⟩

/-- THE ONE PURE STATEMENT of platenlaw20_ObjectCount: yours. -/
def platenlaw20_ObjectCount.Pure : Prop := ∀ (l0 : List Int) (a1 : Int) (a2 : Int), l0.length ≤ maxLen → l0.length * 1 ≤ 140737488351232 → (∀ x ∈ l0, (Lit.int .u8 x).wf = true) → (Lit.int .i64 a1).wf = true → (Lit.int .i64 a2).wf = true → ∃ k, platenlaw20_ObjectCount.f k l0 a1 a2 = some true
theorem platenlaw20_ObjectCount.walk (P : platenlaw20_ObjectCount.Pure) (a0 : Option Addr) (len0 cap0 : Nat) (z0 : List Int) (a1 : Int) (a2 : Int) (w : World) (w0 : (a0 = none ∧ len0 = 0 ∧ cap0 = 0 ∧ z0 = []) ∨ ∃ x, a0 = some x ∧ len0 ≤ cap0 ∧ cap0 ≤ maxLen ∧ z0.length = cap0 ∧ (∀ i, i < z0.length → w.cell? (x.add i) = some (.int .u8 (z0.getD i 0))) ∧ ∀ n ∈ z0, (Lit.int .u8 n).wf = true) (y0 : len0 * 1 ≤ 140737488351232) (w1 : (Lit.int .i64 a1).wf = true) (w2 : (Lit.int .i64 a2).wf = true) :
    Calls Try.prog 3 #[.slice a0 len0 cap0, .int .i64 a1, .int .i64 a2] w fun e w' => e = .returned (.bool true) ∧ Below w.heap.size w w' := by
  obtain ⟨l0, rfl, hr0, hm0, hw0, hc0⟩ := ReadsInt.ofRowC w0
  obtain ⟨k, h⟩ := P l0 a1 a2 hm0 y0 hw0 w1 w2
  refine (platenlaw20_ObjectCount.calls k _ _ l0 a1 a2 true w (Kd.C_of_reads (d := (0 : Int)) (h1 := fun _ => rfl) hr0) hc0 h).mono ?_
  rintro e w' ⟨rfl, hd⟩
  exact ⟨rfl, hd⟩

end Go.Proofs.Ytcljafgpjoagpaa.Pa
