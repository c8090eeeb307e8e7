-- Laid by a program of this claim's own (wip/tools/mkprint.py, ext.py): walks of the functions that the statements reach.
import Derived.Test.YtemmalkgjfdlcaaPax0
import Derived.Test.YtemmalkgjfdlcaaPax1
import Derived.Test.YtemmalkgjfdlcaaPax2
namespace Go.Proofs.Ytemmalkgjfdlcaa.Pa
open Go.RowKit Go.Proofs.Ytemmalkgjfdlcaa.Ext Go.Proofs.YtemmalkgjfdlcaaW.PrintWords Go.Proofs.YtemmalkgjfdlcaaW.PrintLast Go.Proofs.YtemmalkgjfdlcaaW.PrintMore
attribute [local go_sem] max2_int min2_int max_two min_two max_three min_three max_four min_four   -- for this text's walks alone
set_option linter.unusedVariables false
set_option linter.unusedSimpArgs false

/-! ### platenlaw18_KeepPlaces: function 3 -/
def platenlaw18_KeepPlaces.j0 : Nat → Int → List Int → List Int → Int → Bool → Option (Bool)
  | 0, _, _, _, _, _ => none
  | k + 1, x0, x1, x2, x3, x20 => if x20 = true then ((platenlaw18_kept.f k).bind fun t184 => (some t184)) else ((platenlaw18_spans.f k x1).bind fun t185 => ((platenlaw18_spans.f k x2).bind fun t188 => ((keep_Place.f k x0 t185 t188 x3).bind fun t191 => ((platenlaw18_spans.f k x1).bind fun t192 => ((platenlaw18_spans.f k x2).bind fun t195 => ((platenref18_Place.f k x0 t192 t195 x3).bind fun t198 => (some (t191 == t198))))))))
def platenlaw18_KeepPlaces.f (k : Nat) (a0 : Int) (l1 : List Int) (l2 : List Int) (a3 : Int) : Option (Bool) := (platenlaw18_kept.f k).bind fun t183 => (if t183 = true then (if (l1.length : Int) > 60 then (platenlaw18_KeepPlaces.j0 k a0 l1 l2 a3 true) else (platenlaw18_KeepPlaces.j0 k a0 l1 l2 a3 (decide ((l2.length : Int) > 60)))) else (platenlaw18_KeepPlaces.j0 k a0 l1 l2 a3 true))
theorem platenlaw18_KeepPlaces.mono_l : ∀ k, (∀ y0 y1 y2 y3 y4, LeO (platenlaw18_KeepPlaces.j0 k y0 y1 y2 y3 y4) (platenlaw18_KeepPlaces.j0 (k + 1) y0 y1 y2 y3 y4))
  | 0 => fun _ _ _ _ _ r h => by simp [platenlaw18_KeepPlaces.j0] at h
  | k + 1 => by
    have ih0 := platenlaw18_KeepPlaces.mono_l k
    · intro y0 y1 y2 y3 y4
      unfold platenlaw18_KeepPlaces.j0
      repeat' first
      | (with_reducible exact ih0 _ _ _ _ _)
      | (with_reducible exact keep_Place.mono _ _ _ _ _)
      | (with_reducible exact platenlaw18_kept.mono _)
      | (with_reducible exact platenlaw18_spans.mono _ _)
      | (with_reducible exact platenref18_Place.mono _ _ _ _ _)
      | (with_reducible exact LeO.refl _)
      | (with_reducible exact LeO.none _)
      | (with_reducible refine LeO.ite ?_ ?_)
      | (with_reducible refine LeO.bind ?_ (fun _ => ?_))
      | exact ih0 _ _ _ _ _
      | exact keep_Place.mono _ _ _ _ _
      | exact platenlaw18_kept.mono _
      | exact platenlaw18_spans.mono _ _
      | exact platenref18_Place.mono _ _ _ _ _
      | exact LeO.none _
      | refine LeO.ite ?_ ?_
      | refine LeO.bind ?_ (fun _ => ?_)
theorem platenlaw18_KeepPlaces.mono : ∀ a0 a1 a2 a3 k, LeO (platenlaw18_KeepPlaces.f k a0 a1 a2 a3) (platenlaw18_KeepPlaces.f (k + 1) a0 a1 a2 a3) := by
  intro a0 a1 a2 a3 k
  have ih0 := platenlaw18_KeepPlaces.mono_l k
  unfold platenlaw18_KeepPlaces.f
  repeat' first
      | (with_reducible exact ih0 _ _ _ _ _)
      | (with_reducible exact keep_Place.mono _ _ _ _ _)
      | (with_reducible exact platenlaw18_kept.mono _)
      | (with_reducible exact platenlaw18_spans.mono _ _)
      | (with_reducible exact platenref18_Place.mono _ _ _ _ _)
      | (with_reducible exact LeO.refl _)
      | (with_reducible exact LeO.none _)
      | (with_reducible refine LeO.ite ?_ ?_)
      | (with_reducible refine LeO.bind ?_ (fun _ => ?_))
      | exact ih0 _ _ _ _ _
      | exact keep_Place.mono _ _ _ _ _
      | exact platenlaw18_kept.mono _
      | exact platenlaw18_spans.mono _ _
      | exact platenref18_Place.mono _ _ _ _ _
      | exact LeO.none _
      | refine LeO.ite ?_ ?_
      | refine LeO.bind ?_ (fun _ => ?_)
set_option maxHeartbeats 8000000 in
set_option maxRecDepth 100000 in
theorem platenlaw18_KeepPlaces.calls (k : Nat) (a0 : Int) (A1 : Option Addr) (c1 : Nat) (l1 : List Int) (A2 : Option Addr) (c2 : Nat) (l2 : List Int) (a3 : Int) (r : Bool) (w : World) (hr1 : Kd.C (Kd.int .u8) w A1 l1.length l1) (hc1 : l1.length ≤ c1) (hr2 : Kd.C (Kd.int .u8) w A2 l2.length l2) (hc2 : l2.length ≤ c2) (h : platenlaw18_KeepPlaces.f k a0 l1 l2 a3 = some r) :
    Calls Try.prog 3 #[.int .i64 a0, .slice A1 l1.length c1, .slice A2 l2.length c2, .int .i64 a3] w fun e w' => e = .returned (.bool r) ∧ Below w.heap.size w w' := by
  have HR1 := Aside0.mk hr1
  have HC1 := Aside0.mk hc1
  clear hr1 hc1
  have HR2 := Aside0.mk hr2
  have HC2 := Aside0.mk hc2
  clear hr2 hc2
  have HB := Aside0.mk (Below.refl w.heap.size w)
  have H : ((platenlaw18_kept.f k).bind fun t183 => (if t183 = true then (if (l1.length : Int) > 60 then (platenlaw18_KeepPlaces.j0 k a0 l1 l2 a3 true) else (platenlaw18_KeepPlaces.j0 k a0 l1 l2 a3 (decide ((l2.length : Int) > 60)))) else (platenlaw18_KeepPlaces.j0 k a0 l1 l2 a3 true))) = some r := h
  clear h
  have HC5 := Aside0.mk H
  clear H
  go_enter Try.func3, Try.ntmps3
  go_upto_region 1 with (fail)
  go_cut [20] (fun v20 wc => ∃ (kq : Nat) (x20_4 : Bool), v20 = .bool x20_4 ∧ Aside0 (platenlaw18_KeepPlaces.j0 kq a0 l1 l2 a3 x20_4 = some r) ∧ Aside0 (kq ≤ k) ∧ Aside0 (Below w.heap.size w wc))
  case first =>
    have H := HC5.out
    clear HC5
    replace H := Option.bind_eq_some_iff.mp H
    obtain ⟨t183, A60, H⟩ := H
    replace H : (if t183 = true then (if (l1.length : Int) > 60 then (platenlaw18_KeepPlaces.j0 k a0 l1 l2 a3 true) else (platenlaw18_KeepPlaces.j0 k a0 l1 l2 a3 (decide ((l2.length : Int) > 60)))) else (platenlaw18_KeepPlaces.j0 k a0 l1 l2 a3 true)) = some r := H
    have A6 := Aside0.mk A60
    clear A60
    by_cases c7 : t183 = true
    · subst c7
      have H1 : (if (l1.length : Int) > 60 then (platenlaw18_KeepPlaces.j0 k a0 l1 l2 a3 true) else (platenlaw18_KeepPlaces.j0 k a0 l1 l2 a3 (decide ((l2.length : Int) > 60)))) = some r := by rw [if_pos rfl] at H; exact H
      clear H
      have H := H1
      clear H1
      by_cases c8 : (l1.length : Int) > 60
      · rw [if_pos c8] at H
        have c8b0 : decide (60 < (l1.length : Int)) = true := decide_eq_true c8
        have c8b1 : decide (60 < l1.length) = true := decide_eq_true (by omega)
        clear c8
        (first | rw [c8b0] | (simp only [i64_w, i32_w]; rw [c8b0]) | skip)
        have H' := Aside0.mk H
        clear H
        go_wp2_with (first | ((with_reducible refine gate_callee (f := 9) rfl ?_); refine goesL_ (some 9) rfl rfl Try.func9 (by kernel_rfl) rfl #[] rfl (by (try simp only [List.map_toArray, List.map_cons, List.map_nil]); first | done | rfl | (simp only [List.length_drop, List.length_take]; rfl)) ?_; (with_reducible refine (platenlaw18_kept.calls k  true _ A6.out).mono ?_); rintro e w9 ⟨rfl, hb⟩; refine ⟨_, rfl, ?_⟩; have n0_ := Aside0.mk (below_step (by repeat (first | (with_reducible first | exact HB.out | apply below_alloc | apply pw_below_drewN | apply below_drew1) | exact HB.out)) hb); clear HB; have HB := n0_; clear n0_; (try clear hb); (try clear hb2); (try clear hk); (try clear hi)))
        go_meet
        case rel => exact ⟨_, (true), (by first | rfl | (simp; done) | (simp [*]; done)), H', ⟨by first | omega | exact Nat.le_refl _⟩, ⟨by repeat (first | (with_reducible first | exact HB.out | apply below_alloc | apply pw_below_drewN | apply below_drew1) | exact HB.out)⟩⟩
      · rw [if_neg c8] at H
        have c8b0 : decide (60 < (l1.length : Int)) = false := decide_eq_false c8
        have c8b1 : decide (60 < l1.length) = false := decide_eq_false (by omega)
        clear c8
        (first | rw [c8b0] | (simp only [i64_w, i32_w]; rw [c8b0]) | skip)
        have H' := Aside0.mk H
        clear H
        go_wp2_with (first | ((with_reducible refine gate_callee (f := 9) rfl ?_); refine goesL_ (some 9) rfl rfl Try.func9 (by kernel_rfl) rfl #[] rfl (by (try simp only [List.map_toArray, List.map_cons, List.map_nil]); first | done | rfl | (simp only [List.length_drop, List.length_take]; rfl)) ?_; (with_reducible refine (platenlaw18_kept.calls k  true _ A6.out).mono ?_); rintro e w10 ⟨rfl, hb⟩; refine ⟨_, rfl, ?_⟩; have n0_ := Aside0.mk (below_step (by repeat (first | (with_reducible first | exact HB.out | apply below_alloc | apply pw_below_drewN | apply below_drew1) | exact HB.out)) hb); clear HB; have HB := n0_; clear n0_; (try clear hb); (try clear hb2); (try clear hk); (try clear hi)))
        go_meet
        case rel => exact ⟨_, (decide ((l2.length : Int) > 60)), (by first | rfl | (simp; done) | (simp [*]; done)), H', ⟨by first | omega | exact Nat.le_refl _⟩, ⟨by repeat (first | (with_reducible first | exact HB.out | apply below_alloc | apply pw_below_drewN | apply below_drew1) | exact HB.out)⟩⟩
    · replace c7 := Bool.eq_false_iff.mpr c7
      subst c7
      have H1 : (platenlaw18_KeepPlaces.j0 k a0 l1 l2 a3 true) = some r := by rw [if_neg (show ¬ (false = true) by decide)] at H; exact H
      clear H
      have H := H1
      clear H1
      have H' := Aside0.mk H
      clear H
      go_wp2_with (first | ((with_reducible refine gate_callee (f := 9) rfl ?_); refine goesL_ (some 9) rfl rfl Try.func9 (by kernel_rfl) rfl #[] rfl (by (try simp only [List.map_toArray, List.map_cons, List.map_nil]); first | done | rfl | (simp only [List.length_drop, List.length_take]; rfl)) ?_; (with_reducible refine (platenlaw18_kept.calls k  false _ A6.out).mono ?_); rintro e w11 ⟨rfl, hb⟩; refine ⟨_, rfl, ?_⟩; have n0_ := Aside0.mk (below_step (by repeat (first | (with_reducible first | exact HB.out | apply below_alloc | apply pw_below_drewN | apply below_drew1) | exact HB.out)) hb); clear HB; have HB := n0_; clear n0_; (try clear hb); (try clear hb2); (try clear hk); (try clear hi)))
      go_meet
      case rel => exact ⟨_, (true), (by first | rfl | (simp; done) | (simp [*]; done)), H', ⟨by first | omega | exact Nat.le_refl _⟩, ⟨by repeat (first | (with_reducible first | exact HB.out | apply below_alloc | apply pw_below_drewN | apply below_drew1) | exact HB.out)⟩⟩
  case rest =>
    clear HC5
    try clear c1
    try clear c2
    try clear p2
    try clear c3
    try clear c7
    try clear c8
    try clear c8b0
    try clear c8b1
    try clear c9
    obtain ⟨kq, x20_4, rfl, HA, HJ4, HB⟩ := hcut
    cases kq with
    | zero => exact absurd HA.out (by simp [platenlaw18_KeepPlaces.j0])
    | succ kj4 =>
      have H := HA.out
      clear HA
      simp only [platenlaw18_KeepPlaces.j0] at H
      by_cases c12 : x20_4 = true
      · subst c12
        have H1 : ((platenlaw18_kept.f kj4).bind fun t184 => (some t184)) = some r := by rw [if_pos rfl] at H; exact H
        clear H
        have H := H1
        clear H1
        replace H := Option.bind_eq_some_iff.mp H
        obtain ⟨t184, A130, H⟩ := H
        replace H : (some t184) = some r := H
        have A13 := Aside0.mk A130
        clear A130
        obtain rfl := Option.some.inj H
        go_wp2_with (first | ((with_reducible refine gate_callee (f := 9) rfl ?_); refine goesL_ (some 21) rfl rfl Try.func9 (by kernel_rfl) rfl #[] rfl (by (try simp only [List.map_toArray, List.map_cons, List.map_nil]); first | done | rfl | (simp only [List.length_drop, List.length_take]; rfl)) ?_; (with_reducible refine (platenlaw18_kept.calls kj4  t184 _ A13.out).mono ?_); rintro e w14 ⟨rfl, hb⟩; refine ⟨_, rfl, ?_⟩; have n0_ := Aside0.mk (below_step (by repeat (first | (with_reducible first | exact HB.out | apply below_alloc | apply pw_below_drewN | apply below_drew1) | exact HB.out)) hb); clear HB; have HB := n0_; clear n0_; (try clear hb); (try clear hb2); (try clear hk); (try clear hi)))
        go_ret
        exact ⟨by first | rfl | (simp [errW_none, errW_some] <;> rfl) | (simp [*, errW_none, errW_some] <;> rfl), by repeat (first | (with_reducible first | exact HB.out | apply below_alloc | apply pw_below_drewN | apply below_drew1) | exact HB.out)⟩
      · replace c12 := Bool.eq_false_iff.mpr c12
        subst c12
        have H1 : ((platenlaw18_spans.f kj4 l1).bind fun t185 => ((platenlaw18_spans.f kj4 l2).bind fun t188 => ((keep_Place.f kj4 a0 t185 t188 a3).bind fun t191 => ((platenlaw18_spans.f kj4 l1).bind fun t192 => ((platenlaw18_spans.f kj4 l2).bind fun t195 => ((platenref18_Place.f kj4 a0 t192 t195 a3).bind fun t198 => (some (t191 == t198)))))))) = some r := by rw [if_neg (show ¬ (false = true) by decide)] at H; exact H
        clear H
        have H := H1
        clear H1
        replace H := Option.bind_eq_some_iff.mp H
        obtain ⟨t185, A150, H⟩ := H
        replace H : ((platenlaw18_spans.f kj4 l2).bind fun t188 => ((keep_Place.f kj4 a0 t185 t188 a3).bind fun t191 => ((platenlaw18_spans.f kj4 l1).bind fun t192 => ((platenlaw18_spans.f kj4 l2).bind fun t195 => ((platenref18_Place.f kj4 a0 t192 t195 a3).bind fun t198 => (some (t191 == t198))))))) = some r := H
        have A15 := Aside0.mk A150
        clear A150
        replace H := Option.bind_eq_some_iff.mp H
        obtain ⟨t188, A160, H⟩ := H
        replace H : ((keep_Place.f kj4 a0 t185 t188 a3).bind fun t191 => ((platenlaw18_spans.f kj4 l1).bind fun t192 => ((platenlaw18_spans.f kj4 l2).bind fun t195 => ((platenref18_Place.f kj4 a0 t192 t195 a3).bind fun t198 => (some (t191 == t198)))))) = some r := H
        have A16 := Aside0.mk A160
        clear A160
        replace H := Option.bind_eq_some_iff.mp H
        obtain ⟨t191, A170, H⟩ := H
        replace H : ((platenlaw18_spans.f kj4 l1).bind fun t192 => ((platenlaw18_spans.f kj4 l2).bind fun t195 => ((platenref18_Place.f kj4 a0 t192 t195 a3).bind fun t198 => (some (t191 == t198))))) = some r := H
        have A17 := Aside0.mk A170
        clear A170
        replace H := Option.bind_eq_some_iff.mp H
        obtain ⟨t192, A180, H⟩ := H
        replace H : ((platenlaw18_spans.f kj4 l2).bind fun t195 => ((platenref18_Place.f kj4 a0 t192 t195 a3).bind fun t198 => (some (t191 == t198)))) = some r := H
        have A18 := Aside0.mk A180
        clear A180
        replace H := Option.bind_eq_some_iff.mp H
        obtain ⟨t195, A190, H⟩ := H
        replace H : ((platenref18_Place.f kj4 a0 t192 t195 a3).bind fun t198 => (some (t191 == t198))) = some r := H
        have A19 := Aside0.mk A190
        clear A190
        replace H := Option.bind_eq_some_iff.mp H
        obtain ⟨t198, A200, H⟩ := H
        replace H : (some (t191 == t198)) = some r := H
        have A20 := Aside0.mk A200
        clear A200
        obtain rfl := Option.some.inj H
        go_wp2_with (first | ((with_reducible refine gate_callee (f := 11) rfl ?_); refine goesL_ (some 24) rfl rfl Try.func11 (by kernel_rfl) rfl #[.slice A1 l1.length c1] rfl (by (try simp only [List.map_toArray, List.map_cons, List.map_nil]); first | done | rfl | (simp only [List.length_drop, List.length_take]; rfl)) ?_; (with_reducible refine (platenlaw18_spans.calls kj4 _ _ l1 t185 _ ?side1 ?side2 A15.out).mono ?_); (case side1 => repeat (first | exact (Kd.C_below HR1.out HB.out) | (with_reducible refine Kd.C_alloc ?_ _) | (with_reducible refine Kd.C_drewN ?_ _) | (with_reducible refine Kd.C_drew ?_))); (case side2 => exact HC1.out); rintro e w21 ⟨v186, rfl, ho0, hb⟩; refine ⟨_, rfl, ?_⟩; have n0_ := Aside0.mk (Kd.R_lower ho0 (below_size (by repeat (first | (with_reducible first | exact HB.out | apply below_alloc | apply pw_below_drewN | apply below_drew1) | exact HB.out)))); have n1_ := Aside0.mk (below_step (by repeat (first | (with_reducible first | exact HB.out | apply below_alloc | apply pw_below_drewN | apply below_drew1) | exact HB.out)) hb); clear HB; have HO187 := n0_; have HB := n1_; clear n0_ n1_; (try clear hb); (try clear hb2); (try clear hk); (try clear hi); (try clear ho0)) | ((with_reducible refine gate_callee (f := 11) rfl ?_); refine goesL_ (some 26) rfl rfl Try.func11 (by kernel_rfl) rfl #[.slice A2 l2.length c2] rfl (by (try simp only [List.map_toArray, List.map_cons, List.map_nil]); first | done | rfl | (simp only [List.length_drop, List.length_take]; rfl)) ?_; (with_reducible refine (platenlaw18_spans.calls kj4 _ _ l2 t188 _ ?side1 ?side2 A16.out).mono ?_); (case side1 => repeat (first | exact (Kd.C_below HR2.out HB.out) | (with_reducible refine Kd.C_alloc ?_ _) | (with_reducible refine Kd.C_drewN ?_ _) | (with_reducible refine Kd.C_drew ?_))); (case side2 => exact HC2.out); rintro e w22 ⟨v189, rfl, ho0, hb⟩; refine ⟨_, rfl, ?_⟩; have n0_ := Aside0.mk (Kd.R_elder' (by (with_reducible repeat (first | apply Kd.R_alloc | apply Kd.R_drewN | apply Kd.R_drew)); exact HO187.out) (Kd.R_base ho0) hb); have n1_ := Aside0.mk (Kd.R_lower (Kd.R_new' ho0 (Kd.R_lt (by (with_reducible repeat (first | apply Kd.R_alloc | apply Kd.R_drewN | apply Kd.R_drew)); exact HO187.out))) (below_size (by repeat (first | (with_reducible first | exact HB.out | apply below_alloc | apply pw_below_drewN | apply below_drew1) | exact HB.out)))); have n2_ := Aside0.mk (below_step (by repeat (first | (with_reducible first | exact HB.out | apply below_alloc | apply pw_below_drewN | apply below_drew1) | exact HB.out)) hb); clear HO187; clear HB; have HO187 := n0_; have HO190 := n1_; have HB := n2_; clear n0_ n1_ n2_; (try clear hb); (try clear hb2); (try clear hk); (try clear hi); (try clear ho0); obtain ⟨Ao23, co23, eo23⟩ := Kd.R_slice HO187.out; subst eo23; obtain ⟨Ao24, co24, eo24⟩ := Kd.R_slice HO190.out; subst eo24) | ((with_reducible refine gate_callee (f := 10) rfl ?_); refine goesL_ (some 28) rfl rfl Try.func10 (by kernel_rfl) rfl #[.int .i64 a0, .slice Ao23 t185.length co23, .slice Ao24 t188.length co24, .int .i64 a3] rfl (by (try simp only [List.map_toArray, List.map_cons, List.map_nil]); first | done | rfl | (simp only [List.length_drop, List.length_take]; rfl)) ?_; (with_reducible refine (keep_Place.calls kj4 a0 _ _ t185 _ _ t188 a3 t191 _ ?side1 ?side2 ?side3 ?side4 A17.out).mono ?_); (case side1 => repeat (first | exact (Kd.R_reads' HO187.out).2.2 | (with_reducible refine Kd.C_alloc ?_ _) | (with_reducible refine Kd.C_drewN ?_ _) | (with_reducible refine Kd.C_drew ?_))); (case side2 => exact (Kd.R_reads' HO187.out).2.1); (case side3 => repeat (first | exact (Kd.R_reads' HO190.out).2.2 | (with_reducible refine Kd.C_alloc ?_ _) | (with_reducible refine Kd.C_drewN ?_ _) | (with_reducible refine Kd.C_drew ?_))); (case side4 => exact (Kd.R_reads' HO190.out).2.1); rintro e w25 ⟨rfl, hb⟩; refine ⟨_, rfl, ?_⟩; have n0_ := Aside0.mk (Kd.R_below (by (with_reducible repeat (first | apply Kd.R_alloc | apply Kd.R_drewN | apply Kd.R_drew)); exact HO187.out) hb); have n1_ := Aside0.mk (Kd.R_below (by (with_reducible repeat (first | apply Kd.R_alloc | apply Kd.R_drewN | apply Kd.R_drew)); exact HO190.out) hb); have n2_ := Aside0.mk (below_step (by repeat (first | (with_reducible first | exact HB.out | apply below_alloc | apply pw_below_drewN | apply below_drew1) | exact HB.out)) hb); clear HO187; clear HO190; clear HB; have HO187 := n0_; have HO190 := n1_; have HB := n2_; clear n0_ n1_ n2_; (try clear hb); (try clear hb2); (try clear hk); (try clear hi)) | ((with_reducible refine gate_callee (f := 11) rfl ?_); refine goesL_ (some 31) rfl rfl Try.func11 (by kernel_rfl) rfl #[.slice A1 l1.length c1] rfl (by (try simp only [List.map_toArray, List.map_cons, List.map_nil]); first | done | rfl | (simp only [List.length_drop, List.length_take]; rfl)) ?_; (with_reducible refine (platenlaw18_spans.calls kj4 _ _ l1 t192 _ ?side1 ?side2 A18.out).mono ?_); (case side1 => repeat (first | exact (Kd.C_below HR1.out HB.out) | (with_reducible refine Kd.C_alloc ?_ _) | (with_reducible refine Kd.C_drewN ?_ _) | (with_reducible refine Kd.C_drew ?_))); (case side2 => exact HC1.out); rintro e w26 ⟨v193, rfl, ho0, hb⟩; refine ⟨_, rfl, ?_⟩; have n0_ := Aside0.mk (Kd.R_elder' (by (with_reducible repeat (first | apply Kd.R_alloc | apply Kd.R_drewN | apply Kd.R_drew)); exact HO187.out) (Kd.R_base ho0) hb); have n1_ := Aside0.mk (Kd.R_elder' (by (with_reducible repeat (first | apply Kd.R_alloc | apply Kd.R_drewN | apply Kd.R_drew)); exact HO190.out) (Kd.R_base ho0) hb); have n2_ := Aside0.mk (Kd.R_lower (Kd.R_new' (Kd.R_new' ho0 (Kd.R_lt (by (with_reducible repeat (first | apply Kd.R_alloc | apply Kd.R_drewN | apply Kd.R_drew)); exact HO187.out))) (Kd.R_lt (by (with_reducible repeat (first | apply Kd.R_alloc | apply Kd.R_drewN | apply Kd.R_drew)); exact HO190.out))) (below_size (by repeat (first | (with_reducible first | exact HB.out | apply below_alloc | apply pw_below_drewN | apply below_drew1) | exact HB.out)))); have n3_ := Aside0.mk (below_step (by repeat (first | (with_reducible first | exact HB.out | apply below_alloc | apply pw_below_drewN | apply below_drew1) | exact HB.out)) hb); clear HO187; clear HO190; clear HB; have HO187 := n0_; have HO190 := n1_; have HO194 := n2_; have HB := n3_; clear n0_ n1_ n2_ n3_; (try clear hb); (try clear hb2); (try clear hk); (try clear hi); (try clear ho0)) | ((with_reducible refine gate_callee (f := 11) rfl ?_); refine goesL_ (some 33) rfl rfl Try.func11 (by kernel_rfl) rfl #[.slice A2 l2.length c2] rfl (by (try simp only [List.map_toArray, List.map_cons, List.map_nil]); first | done | rfl | (simp only [List.length_drop, List.length_take]; rfl)) ?_; (with_reducible refine (platenlaw18_spans.calls kj4 _ _ l2 t195 _ ?side1 ?side2 A19.out).mono ?_); (case side1 => repeat (first | exact (Kd.C_below HR2.out HB.out) | (with_reducible refine Kd.C_alloc ?_ _) | (with_reducible refine Kd.C_drewN ?_ _) | (with_reducible refine Kd.C_drew ?_))); (case side2 => exact HC2.out); rintro e w27 ⟨v196, rfl, ho0, hb⟩; refine ⟨_, rfl, ?_⟩; have n0_ := Aside0.mk (Kd.R_elder' (by (with_reducible repeat (first | apply Kd.R_alloc | apply Kd.R_drewN | apply Kd.R_drew)); exact HO187.out) (Kd.R_base ho0) hb); have n1_ := Aside0.mk (Kd.R_elder' (by (with_reducible repeat (first | apply Kd.R_alloc | apply Kd.R_drewN | apply Kd.R_drew)); exact HO190.out) (Kd.R_base ho0) hb); have n2_ := Aside0.mk (Kd.R_elder' (by (with_reducible repeat (first | apply Kd.R_alloc | apply Kd.R_drewN | apply Kd.R_drew)); exact HO194.out) (Kd.R_base ho0) hb); have n3_ := Aside0.mk (Kd.R_lower (Kd.R_new' (Kd.R_new' (Kd.R_new' ho0 (Kd.R_lt (by (with_reducible repeat (first | apply Kd.R_alloc | apply Kd.R_drewN | apply Kd.R_drew)); exact HO187.out))) (Kd.R_lt (by (with_reducible repeat (first | apply Kd.R_alloc | apply Kd.R_drewN | apply Kd.R_drew)); exact HO190.out))) (Kd.R_lt (by (with_reducible repeat (first | apply Kd.R_alloc | apply Kd.R_drewN | apply Kd.R_drew)); exact HO194.out))) (below_size (by repeat (first | (with_reducible first | exact HB.out | apply below_alloc | apply pw_below_drewN | apply below_drew1) | exact HB.out)))); have n4_ := Aside0.mk (below_step (by repeat (first | (with_reducible first | exact HB.out | apply below_alloc | apply pw_below_drewN | apply below_drew1) | exact HB.out)) hb); clear HO187; clear HO190; clear HO194; clear HB; have HO187 := n0_; have HO190 := n1_; have HO194 := n2_; have HO197 := n3_; have HB := n4_; clear n0_ n1_ n2_ n3_ n4_; (try clear hb); (try clear hb2); (try clear hk); (try clear hi); (try clear ho0); obtain ⟨Ao28, co28, eo28⟩ := Kd.R_slice HO194.out; subst eo28; obtain ⟨Ao29, co29, eo29⟩ := Kd.R_slice HO197.out; subst eo29) | ((with_reducible refine gate_callee (f := 12) rfl ?_); refine goesL_ (some 35) rfl rfl Try.func12 (by kernel_rfl) rfl #[.int .i64 a0, .slice Ao28 t192.length co28, .slice Ao29 t195.length co29, .int .i64 a3] rfl (by (try simp only [List.map_toArray, List.map_cons, List.map_nil]); first | done | rfl | (simp only [List.length_drop, List.length_take]; rfl)) ?_; (with_reducible refine (platenref18_Place.calls kj4 a0 _ _ t192 _ _ t195 a3 t198 _ ?side1 ?side2 ?side3 ?side4 A20.out).mono ?_); (case side1 => repeat (first | exact (Kd.R_reads' HO194.out).2.2 | (with_reducible refine Kd.C_alloc ?_ _) | (with_reducible refine Kd.C_drewN ?_ _) | (with_reducible refine Kd.C_drew ?_))); (case side2 => exact (Kd.R_reads' HO194.out).2.1); (case side3 => repeat (first | exact (Kd.R_reads' HO197.out).2.2 | (with_reducible refine Kd.C_alloc ?_ _) | (with_reducible refine Kd.C_drewN ?_ _) | (with_reducible refine Kd.C_drew ?_))); (case side4 => exact (Kd.R_reads' HO197.out).2.1); rintro e w' ⟨rfl, ⟨nd, rfl⟩⟩; refine ⟨_, rfl, ?_⟩))
        go_ret
        exact ⟨by first | rfl | (simp [errW_none, errW_some] <;> rfl) | (simp [*, errW_none, errW_some] <;> rfl), by repeat (first | (with_reducible first | exact HB.out | apply below_alloc | apply pw_below_drewN | apply below_drew1) | exact HB.out)⟩

/-- THE ONE PURE STATEMENT of platenlaw18_KeepPlaces: yours. -/
def platenlaw18_KeepPlaces.Pure : Prop := ∀ (a0 : Int) (l1 : List Int) (l2 : List Int) (a3 : Int), (Lit.int .i64 a0).wf = true → l1.length ≤ maxLen → l1.length * 1 ≤ 140737488351232 → (∀ x ∈ l1, (Lit.int .u8 x).wf = true) → l2.length ≤ maxLen → l2.length * 1 ≤ 140737488351232 → (∀ x ∈ l2, (Lit.int .u8 x).wf = true) → (Lit.int .i64 a3).wf = true → ∃ k, platenlaw18_KeepPlaces.f k a0 l1 l2 a3 = some true
theorem platenlaw18_KeepPlaces.walk (P : platenlaw18_KeepPlaces.Pure) (a0 : Int) (a1 : Option Addr) (len1 cap1 : Nat) (z1 : List Int) (a2 : Option Addr) (len2 cap2 : Nat) (z2 : List Int) (a3 : Int) (w : World) (w0 : (Lit.int .i64 a0).wf = true) (w1 : (a1 = none ∧ len1 = 0 ∧ cap1 = 0 ∧ z1 = []) ∨ ∃ x, a1 = some x ∧ len1 ≤ cap1 ∧ cap1 ≤ maxLen ∧ z1.length = cap1 ∧ (∀ i, i < z1.length → w.cell? (x.add i) = some (.int .u8 (z1.getD i 0))) ∧ ∀ n ∈ z1, (Lit.int .u8 n).wf = true) (y1 : len1 * 1 ≤ 140737488351232) (w2 : (a2 = none ∧ len2 = 0 ∧ cap2 = 0 ∧ z2 = []) ∨ ∃ x, a2 = some x ∧ len2 ≤ cap2 ∧ cap2 ≤ maxLen ∧ z2.length = cap2 ∧ (∀ i, i < z2.length → w.cell? (x.add i) = some (.int .u8 (z2.getD i 0))) ∧ ∀ n ∈ z2, (Lit.int .u8 n).wf = true) (y2 : len2 * 1 ≤ 140737488351232) (w3 : (Lit.int .i64 a3).wf = true) :
    Calls Try.prog 3 #[.int .i64 a0, .slice a1 len1 cap1, .slice a2 len2 cap2, .int .i64 a3] w fun e w' => e = .returned (.bool true) ∧ Below w.heap.size w w' := by
  obtain ⟨l1, rfl, hr1, hm1, hw1, hc1⟩ := ReadsInt.ofRowC w1
  obtain ⟨l2, rfl, hr2, hm2, hw2, hc2⟩ := ReadsInt.ofRowC w2
  obtain ⟨k, h⟩ := P a0 l1 l2 a3 w0 hm1 y1 hw1 hm2 y2 hw2 w3
  refine (platenlaw18_KeepPlaces.calls k a0 _ _ l1 _ _ l2 a3 true w (Kd.C_of_reads (d := (0 : Int)) (h1 := fun _ => rfl) hr1) hc1 (Kd.C_of_reads (d := (0 : Int)) (h1 := fun _ => rfl) hr2) hc2 h).mono ?_
  rintro e w' ⟨rfl, hd⟩
  exact ⟨rfl, hd⟩

/-! ### platenref01_Blank: function 26 -/
def platenref01_Blank.f (a0 : Int) : Option (Bool) := if a0 = 32 then (some true) else (some (a0 == 9))
set_option maxHeartbeats 8000000 in
set_option maxRecDepth 100000 in
theorem platenref01_Blank.calls (a0 : Int) (r : Bool) (w : World) (h : platenref01_Blank.f a0 = some r) :
    Calls Try.prog 26 #[.int .u8 a0] w fun e w' => e = .returned (.bool r) ∧ Drawn0 w w' := by
  have H : (if a0 = 32 then (some true) else (some (a0 == 9))) = some r := h
  clear h
  by_cases c2 : a0 = 32
  · rw [if_pos c2] at H
    have c2b0 : (a0 == 32) = true := beq_iff_eq.mpr c2
    have c2b1 : (a0 != 32) = false := bne_eq_false_iff_eq.mpr c2
    clear c2
    obtain rfl := Option.some.inj H
    go_enter Try.func26, Try.ntmps26
    go_wp2
    go_ret
    exact ⟨by first | rfl | (simp; done) | (simp [*]; done), by repeat (first | exact Drawn0.refl _ | apply Drawn0.step)⟩
  · rw [if_neg c2] at H
    have c2b0 : (a0 == 32) = false := beq_eq_false_iff_ne.mpr c2
    have c2b1 : (a0 != 32) = true := bne_iff_ne.mpr c2
    obtain rfl := Option.some.inj H
    go_enter Try.func26, Try.ntmps26
    go_wp2
    go_ret
    exact ⟨by first | rfl | (simp; done) | (simp [*]; done), by repeat (first | exact Drawn0.refl _ | apply Drawn0.step)⟩

/-! ### platenref05_Class: function 19 -/
def platenref05_Class.f (a0 : Int) : Option (Int) := (platenref01_Blank.f a0).bind fun t199 => (if t199 = true then (some 0) else (if a0 = 10 then (some 1) else (if a0 ≥ 128 then (some 2) else (if a0 = 95 then (some 2) else (if a0 ≥ 48 then (if a0 ≤ 57 then (some 2) else (if a0 ≥ 65 then (if a0 ≤ 90 then (some 2) else (if a0 ≥ 97 then (if a0 ≤ 122 then (some 2) else (some 3)) else (some 3))) else (if a0 ≥ 97 then (if a0 ≤ 122 then (some 2) else (some 3)) else (some 3)))) else (if a0 ≥ 65 then (if a0 ≤ 90 then (some 2) else (if a0 ≥ 97 then (if a0 ≤ 122 then (some 2) else (some 3)) else (some 3))) else (if a0 ≥ 97 then (if a0 ≤ 122 then (some 2) else (some 3)) else (some 3))))))))
set_option maxHeartbeats 8000000 in
set_option maxRecDepth 100000 in
theorem platenref05_Class.calls (a0 : Int) (r : Int) (w : World) (h : platenref05_Class.f a0 = some r) :
    Calls Try.prog 19 #[.int .u8 a0] w fun e w' => e = .returned (.int .u8 r) ∧ Drawn0 w w' := by
  have H : ((platenref01_Blank.f a0).bind fun t199 => (if t199 = true then (some 0) else (if a0 = 10 then (some 1) else (if a0 ≥ 128 then (some 2) else (if a0 = 95 then (some 2) else (if a0 ≥ 48 then (if a0 ≤ 57 then (some 2) else (if a0 ≥ 65 then (if a0 ≤ 90 then (some 2) else (if a0 ≥ 97 then (if a0 ≤ 122 then (some 2) else (some 3)) else (some 3))) else (if a0 ≥ 97 then (if a0 ≤ 122 then (some 2) else (some 3)) else (some 3)))) else (if a0 ≥ 65 then (if a0 ≤ 90 then (some 2) else (if a0 ≥ 97 then (if a0 ≤ 122 then (some 2) else (some 3)) else (some 3))) else (if a0 ≥ 97 then (if a0 ≤ 122 then (some 2) else (some 3)) else (some 3))))))))) = some r := h
  clear h
  replace H := Option.bind_eq_some_iff.mp H
  obtain ⟨t199, A20, H⟩ := H
  replace H : (if t199 = true then (some 0) else (if a0 = 10 then (some 1) else (if a0 ≥ 128 then (some 2) else (if a0 = 95 then (some 2) else (if a0 ≥ 48 then (if a0 ≤ 57 then (some 2) else (if a0 ≥ 65 then (if a0 ≤ 90 then (some 2) else (if a0 ≥ 97 then (if a0 ≤ 122 then (some 2) else (some 3)) else (some 3))) else (if a0 ≥ 97 then (if a0 ≤ 122 then (some 2) else (some 3)) else (some 3)))) else (if a0 ≥ 65 then (if a0 ≤ 90 then (some 2) else (if a0 ≥ 97 then (if a0 ≤ 122 then (some 2) else (some 3)) else (some 3))) else (if a0 ≥ 97 then (if a0 ≤ 122 then (some 2) else (some 3)) else (some 3)))))))) = some r := H
  have A2 := Aside0.mk A20
  clear A20
  by_cases c3 : t199 = true
  · subst c3
    have H1 : (some 0) = some r := by rw [if_pos rfl] at H; exact H
    clear H
    have H := H1
    clear H1
    obtain rfl := Option.some.inj H
    go_enter Try.func19, Try.ntmps19
    go_wp2_with (first | ((with_reducible refine gate_callee (f := 26) rfl ?_); refine goesL_ (some 4) rfl rfl Try.func26 (by kernel_rfl) rfl #[.int .u8 a0] rfl (by (try simp only [List.map_toArray, List.map_cons, List.map_nil]); first | done | rfl | (simp only [List.length_drop, List.length_take]; rfl)) ?_; (with_reducible refine (platenref01_Blank.calls a0 true _ A2.out).mono ?_); rintro e w' ⟨rfl, ⟨nd, rfl⟩⟩; refine ⟨_, rfl, ?_⟩))
    go_ret
    exact ⟨by first | rfl | (simp; done) | (simp [*]; done), by repeat (first | exact Drawn0.refl _ | apply Drawn0.step)⟩
  · replace c3 := Bool.eq_false_iff.mpr c3
    subst c3
    have H1 : (if a0 = 10 then (some 1) else (if a0 ≥ 128 then (some 2) else (if a0 = 95 then (some 2) else (if a0 ≥ 48 then (if a0 ≤ 57 then (some 2) else (if a0 ≥ 65 then (if a0 ≤ 90 then (some 2) else (if a0 ≥ 97 then (if a0 ≤ 122 then (some 2) else (some 3)) else (some 3))) else (if a0 ≥ 97 then (if a0 ≤ 122 then (some 2) else (some 3)) else (some 3)))) else (if a0 ≥ 65 then (if a0 ≤ 90 then (some 2) else (if a0 ≥ 97 then (if a0 ≤ 122 then (some 2) else (some 3)) else (some 3))) else (if a0 ≥ 97 then (if a0 ≤ 122 then (some 2) else (some 3)) else (some 3))))))) = some r := by rw [if_neg (show ¬ (false = true) by decide)] at H; exact H
    clear H
    have H := H1
    clear H1
    by_cases c4 : a0 = 10
    · rw [if_pos c4] at H
      have c4b0 : (a0 == 10) = true := beq_iff_eq.mpr c4
      have c4b1 : (a0 != 10) = false := bne_eq_false_iff_eq.mpr c4
      clear c4
      obtain rfl := Option.some.inj H
      go_enter Try.func19, Try.ntmps19
      go_wp2_with (first | ((with_reducible refine gate_callee (f := 26) rfl ?_); refine goesL_ (some 4) rfl rfl Try.func26 (by kernel_rfl) rfl #[.int .u8 a0] rfl (by (try simp only [List.map_toArray, List.map_cons, List.map_nil]); first | done | rfl | (simp only [List.length_drop, List.length_take]; rfl)) ?_; (with_reducible refine (platenref01_Blank.calls a0 false _ A2.out).mono ?_); rintro e w' ⟨rfl, ⟨nd, rfl⟩⟩; refine ⟨_, rfl, ?_⟩))
      go_ret
      exact ⟨by first | rfl | (simp; done) | (simp [*]; done), by repeat (first | exact Drawn0.refl _ | apply Drawn0.step)⟩
    · rw [if_neg c4] at H
      have c4b0 : (a0 == 10) = false := beq_eq_false_iff_ne.mpr c4
      have c4b1 : (a0 != 10) = true := bne_iff_ne.mpr c4
      by_cases c5 : a0 ≥ 128
      · rw [if_pos c5] at H
        have c5b0 : decide (128 ≤ a0) = true := decide_eq_true c5
        clear c5
        obtain rfl := Option.some.inj H
        go_enter Try.func19, Try.ntmps19
        go_wp2_with (first | ((with_reducible refine gate_callee (f := 26) rfl ?_); refine goesL_ (some 4) rfl rfl Try.func26 (by kernel_rfl) rfl #[.int .u8 a0] rfl (by (try simp only [List.map_toArray, List.map_cons, List.map_nil]); first | done | rfl | (simp only [List.length_drop, List.length_take]; rfl)) ?_; (with_reducible refine (platenref01_Blank.calls a0 false _ A2.out).mono ?_); rintro e w' ⟨rfl, ⟨nd, rfl⟩⟩; refine ⟨_, rfl, ?_⟩))
        go_ret
        exact ⟨by first | rfl | (simp; done) | (simp [*]; done), by repeat (first | exact Drawn0.refl _ | apply Drawn0.step)⟩
      · rw [if_neg c5] at H
        have c5b0 : decide (128 ≤ a0) = false := decide_eq_false c5
        clear c5
        by_cases c6 : a0 = 95
        · rw [if_pos c6] at H
          have c6b0 : (a0 == 95) = true := beq_iff_eq.mpr c6
          have c6b1 : (a0 != 95) = false := bne_eq_false_iff_eq.mpr c6
          clear c6
          obtain rfl := Option.some.inj H
          go_enter Try.func19, Try.ntmps19
          go_wp2_with (first | ((with_reducible refine gate_callee (f := 26) rfl ?_); refine goesL_ (some 4) rfl rfl Try.func26 (by kernel_rfl) rfl #[.int .u8 a0] rfl (by (try simp only [List.map_toArray, List.map_cons, List.map_nil]); first | done | rfl | (simp only [List.length_drop, List.length_take]; rfl)) ?_; (with_reducible refine (platenref01_Blank.calls a0 false _ A2.out).mono ?_); rintro e w' ⟨rfl, ⟨nd, rfl⟩⟩; refine ⟨_, rfl, ?_⟩))
          go_ret
          exact ⟨by first | rfl | (simp; done) | (simp [*]; done), by repeat (first | exact Drawn0.refl _ | apply Drawn0.step)⟩
        · rw [if_neg c6] at H
          have c6b0 : (a0 == 95) = false := beq_eq_false_iff_ne.mpr c6
          have c6b1 : (a0 != 95) = true := bne_iff_ne.mpr c6
          by_cases c7 : a0 ≥ 48
          · rw [if_pos c7] at H
            have c7b0 : decide (48 ≤ a0) = true := decide_eq_true c7
            clear c7
            by_cases c8 : a0 ≤ 57
            · rw [if_pos c8] at H
              have c8b0 : decide (a0 ≤ 57) = true := decide_eq_true c8
              clear c8
              obtain rfl := Option.some.inj H
              go_enter Try.func19, Try.ntmps19
              go_wp2_with (first | ((with_reducible refine gate_callee (f := 26) rfl ?_); refine goesL_ (some 4) rfl rfl Try.func26 (by kernel_rfl) rfl #[.int .u8 a0] rfl (by (try simp only [List.map_toArray, List.map_cons, List.map_nil]); first | done | rfl | (simp only [List.length_drop, List.length_take]; rfl)) ?_; (with_reducible refine (platenref01_Blank.calls a0 false _ A2.out).mono ?_); rintro e w' ⟨rfl, ⟨nd, rfl⟩⟩; refine ⟨_, rfl, ?_⟩))
              go_ret
              exact ⟨by first | rfl | (simp; done) | (simp [*]; done), by repeat (first | exact Drawn0.refl _ | apply Drawn0.step)⟩
            · rw [if_neg c8] at H
              have c8b0 : decide (a0 ≤ 57) = false := decide_eq_false c8
              clear c8
              by_cases c9 : a0 ≥ 65
              · rw [if_pos c9] at H
                have c9b0 : decide (65 ≤ a0) = true := decide_eq_true c9
                clear c9
                by_cases c10 : a0 ≤ 90
                · rw [if_pos c10] at H
                  have c10b0 : decide (a0 ≤ 90) = true := decide_eq_true c10
                  clear c10
                  obtain rfl := Option.some.inj H
                  go_enter Try.func19, Try.ntmps19
                  go_wp2_with (first | ((with_reducible refine gate_callee (f := 26) rfl ?_); refine goesL_ (some 4) rfl rfl Try.func26 (by kernel_rfl) rfl #[.int .u8 a0] rfl (by (try simp only [List.map_toArray, List.map_cons, List.map_nil]); first | done | rfl | (simp only [List.length_drop, List.length_take]; rfl)) ?_; (with_reducible refine (platenref01_Blank.calls a0 false _ A2.out).mono ?_); rintro e w' ⟨rfl, ⟨nd, rfl⟩⟩; refine ⟨_, rfl, ?_⟩))
                  go_ret
                  exact ⟨by first | rfl | (simp; done) | (simp [*]; done), by repeat (first | exact Drawn0.refl _ | apply Drawn0.step)⟩
                · rw [if_neg c10] at H
                  have c10b0 : decide (a0 ≤ 90) = false := decide_eq_false c10
                  clear c10
                  by_cases c11 : a0 ≥ 97
                  · rw [if_pos c11] at H
                    have c11b0 : decide (97 ≤ a0) = true := decide_eq_true c11
                    clear c11
                    by_cases c12 : a0 ≤ 122
                    · rw [if_pos c12] at H
                      have c12b0 : decide (a0 ≤ 122) = true := decide_eq_true c12
                      clear c12
                      obtain rfl := Option.some.inj H
                      go_enter Try.func19, Try.ntmps19
                      go_wp2_with (first | ((with_reducible refine gate_callee (f := 26) rfl ?_); refine goesL_ (some 4) rfl rfl Try.func26 (by kernel_rfl) rfl #[.int .u8 a0] rfl (by (try simp only [List.map_toArray, List.map_cons, List.map_nil]); first | done | rfl | (simp only [List.length_drop, List.length_take]; rfl)) ?_; (with_reducible refine (platenref01_Blank.calls a0 false _ A2.out).mono ?_); rintro e w' ⟨rfl, ⟨nd, rfl⟩⟩; refine ⟨_, rfl, ?_⟩))
                      go_ret
                      exact ⟨by first | rfl | (simp; done) | (simp [*]; done), by repeat (first | exact Drawn0.refl _ | apply Drawn0.step)⟩
                    · rw [if_neg c12] at H
                      have c12b0 : decide (a0 ≤ 122) = false := decide_eq_false c12
                      clear c12
                      obtain rfl := Option.some.inj H
                      go_enter Try.func19, Try.ntmps19
                      go_wp2_with (first | ((with_reducible refine gate_callee (f := 26) rfl ?_); refine goesL_ (some 4) rfl rfl Try.func26 (by kernel_rfl) rfl #[.int .u8 a0] rfl (by (try simp only [List.map_toArray, List.map_cons, List.map_nil]); first | done | rfl | (simp only [List.length_drop, List.length_take]; rfl)) ?_; (with_reducible refine (platenref01_Blank.calls a0 false _ A2.out).mono ?_); rintro e w' ⟨rfl, ⟨nd, rfl⟩⟩; refine ⟨_, rfl, ?_⟩))
                      go_ret
                      exact ⟨by first | rfl | (simp; done) | (simp [*]; done), by repeat (first | exact Drawn0.refl _ | apply Drawn0.step)⟩
                  · rw [if_neg c11] at H
                    have c11b0 : decide (97 ≤ a0) = false := decide_eq_false c11
                    clear c11
                    obtain rfl := Option.some.inj H
                    go_enter Try.func19, Try.ntmps19
                    go_wp2_with (first | ((with_reducible refine gate_callee (f := 26) rfl ?_); refine goesL_ (some 4) rfl rfl Try.func26 (by kernel_rfl) rfl #[.int .u8 a0] rfl (by (try simp only [List.map_toArray, List.map_cons, List.map_nil]); first | done | rfl | (simp only [List.length_drop, List.length_take]; rfl)) ?_; (with_reducible refine (platenref01_Blank.calls a0 false _ A2.out).mono ?_); rintro e w' ⟨rfl, ⟨nd, rfl⟩⟩; refine ⟨_, rfl, ?_⟩))
                    go_ret
                    exact ⟨by first | rfl | (simp; done) | (simp [*]; done), by repeat (first | exact Drawn0.refl _ | apply Drawn0.step)⟩
              · rw [if_neg c9] at H
                have c9b0 : decide (65 ≤ a0) = false := decide_eq_false c9
                clear c9
                by_cases c13 : a0 ≥ 97
                · rw [if_pos c13] at H
                  have c13b0 : decide (97 ≤ a0) = true := decide_eq_true c13
                  clear c13
                  by_cases c14 : a0 ≤ 122
                  · rw [if_pos c14] at H
                    have c14b0 : decide (a0 ≤ 122) = true := decide_eq_true c14
                    clear c14
                    obtain rfl := Option.some.inj H
                    go_enter Try.func19, Try.ntmps19
                    go_wp2_with (first | ((with_reducible refine gate_callee (f := 26) rfl ?_); refine goesL_ (some 4) rfl rfl Try.func26 (by kernel_rfl) rfl #[.int .u8 a0] rfl (by (try simp only [List.map_toArray, List.map_cons, List.map_nil]); first | done | rfl | (simp only [List.length_drop, List.length_take]; rfl)) ?_; (with_reducible refine (platenref01_Blank.calls a0 false _ A2.out).mono ?_); rintro e w' ⟨rfl, ⟨nd, rfl⟩⟩; refine ⟨_, rfl, ?_⟩))
                    go_ret
                    exact ⟨by first | rfl | (simp; done) | (simp [*]; done), by repeat (first | exact Drawn0.refl _ | apply Drawn0.step)⟩
                  · rw [if_neg c14] at H
                    have c14b0 : decide (a0 ≤ 122) = false := decide_eq_false c14
                    clear c14
                    obtain rfl := Option.some.inj H
                    go_enter Try.func19, Try.ntmps19
                    go_wp2_with (first | ((with_reducible refine gate_callee (f := 26) rfl ?_); refine goesL_ (some 4) rfl rfl Try.func26 (by kernel_rfl) rfl #[.int .u8 a0] rfl (by (try simp only [List.map_toArray, List.map_cons, List.map_nil]); first | done | rfl | (simp only [List.length_drop, List.length_take]; rfl)) ?_; (with_reducible refine (platenref01_Blank.calls a0 false _ A2.out).mono ?_); rintro e w' ⟨rfl, ⟨nd, rfl⟩⟩; refine ⟨_, rfl, ?_⟩))
                    go_ret
                    exact ⟨by first | rfl | (simp; done) | (simp [*]; done), by repeat (first | exact Drawn0.refl _ | apply Drawn0.step)⟩
                · rw [if_neg c13] at H
                  have c13b0 : decide (97 ≤ a0) = false := decide_eq_false c13
                  clear c13
                  obtain rfl := Option.some.inj H
                  go_enter Try.func19, Try.ntmps19
                  go_wp2_with (first | ((with_reducible refine gate_callee (f := 26) rfl ?_); refine goesL_ (some 4) rfl rfl Try.func26 (by kernel_rfl) rfl #[.int .u8 a0] rfl (by (try simp only [List.map_toArray, List.map_cons, List.map_nil]); first | done | rfl | (simp only [List.length_drop, List.length_take]; rfl)) ?_; (with_reducible refine (platenref01_Blank.calls a0 false _ A2.out).mono ?_); rintro e w' ⟨rfl, ⟨nd, rfl⟩⟩; refine ⟨_, rfl, ?_⟩))
                  go_ret
                  exact ⟨by first | rfl | (simp; done) | (simp [*]; done), by repeat (first | exact Drawn0.refl _ | apply Drawn0.step)⟩
          · rw [if_neg c7] at H
            have c7b0 : decide (48 ≤ a0) = false := decide_eq_false c7
            clear c7
            by_cases c15 : a0 ≥ 65
            · rw [if_pos c15] at H
              have c15b0 : decide (65 ≤ a0) = true := decide_eq_true c15
              clear c15
              by_cases c16 : a0 ≤ 90
              · rw [if_pos c16] at H
                have c16b0 : decide (a0 ≤ 90) = true := decide_eq_true c16
                clear c16
                obtain rfl := Option.some.inj H
                go_enter Try.func19, Try.ntmps19
                go_wp2_with (first | ((with_reducible refine gate_callee (f := 26) rfl ?_); refine goesL_ (some 4) rfl rfl Try.func26 (by kernel_rfl) rfl #[.int .u8 a0] rfl (by (try simp only [List.map_toArray, List.map_cons, List.map_nil]); first | done | rfl | (simp only [List.length_drop, List.length_take]; rfl)) ?_; (with_reducible refine (platenref01_Blank.calls a0 false _ A2.out).mono ?_); rintro e w' ⟨rfl, ⟨nd, rfl⟩⟩; refine ⟨_, rfl, ?_⟩))
                go_ret
                exact ⟨by first | rfl | (simp; done) | (simp [*]; done), by repeat (first | exact Drawn0.refl _ | apply Drawn0.step)⟩
              · rw [if_neg c16] at H
                have c16b0 : decide (a0 ≤ 90) = false := decide_eq_false c16
                clear c16
                by_cases c17 : a0 ≥ 97
                · rw [if_pos c17] at H
                  have c17b0 : decide (97 ≤ a0) = true := decide_eq_true c17
                  clear c17
                  by_cases c18 : a0 ≤ 122
                  · rw [if_pos c18] at H
                    have c18b0 : decide (a0 ≤ 122) = true := decide_eq_true c18
                    clear c18
                    obtain rfl := Option.some.inj H
                    go_enter Try.func19, Try.ntmps19
                    go_wp2_with (first | ((with_reducible refine gate_callee (f := 26) rfl ?_); refine goesL_ (some 4) rfl rfl Try.func26 (by kernel_rfl) rfl #[.int .u8 a0] rfl (by (try simp only [List.map_toArray, List.map_cons, List.map_nil]); first | done | rfl | (simp only [List.length_drop, List.length_take]; rfl)) ?_; (with_reducible refine (platenref01_Blank.calls a0 false _ A2.out).mono ?_); rintro e w' ⟨rfl, ⟨nd, rfl⟩⟩; refine ⟨_, rfl, ?_⟩))
                    go_ret
                    exact ⟨by first | rfl | (simp; done) | (simp [*]; done), by repeat (first | exact Drawn0.refl _ | apply Drawn0.step)⟩
                  · rw [if_neg c18] at H
                    have c18b0 : decide (a0 ≤ 122) = false := decide_eq_false c18
                    clear c18
                    obtain rfl := Option.some.inj H
                    go_enter Try.func19, Try.ntmps19
                    go_wp2_with (first | ((with_reducible refine gate_callee (f := 26) rfl ?_); refine goesL_ (some 4) rfl rfl Try.func26 (by kernel_rfl) rfl #[.int .u8 a0] rfl (by (try simp only [List.map_toArray, List.map_cons, List.map_nil]); first | done | rfl | (simp only [List.length_drop, List.length_take]; rfl)) ?_; (with_reducible refine (platenref01_Blank.calls a0 false _ A2.out).mono ?_); rintro e w' ⟨rfl, ⟨nd, rfl⟩⟩; refine ⟨_, rfl, ?_⟩))
                    go_ret
                    exact ⟨by first | rfl | (simp; done) | (simp [*]; done), by repeat (first | exact Drawn0.refl _ | apply Drawn0.step)⟩
                · rw [if_neg c17] at H
                  have c17b0 : decide (97 ≤ a0) = false := decide_eq_false c17
                  clear c17
                  obtain rfl := Option.some.inj H
                  go_enter Try.func19, Try.ntmps19
                  go_wp2_with (first | ((with_reducible refine gate_callee (f := 26) rfl ?_); refine goesL_ (some 4) rfl rfl Try.func26 (by kernel_rfl) rfl #[.int .u8 a0] rfl (by (try simp only [List.map_toArray, List.map_cons, List.map_nil]); first | done | rfl | (simp only [List.length_drop, List.length_take]; rfl)) ?_; (with_reducible refine (platenref01_Blank.calls a0 false _ A2.out).mono ?_); rintro e w' ⟨rfl, ⟨nd, rfl⟩⟩; refine ⟨_, rfl, ?_⟩))
                  go_ret
                  exact ⟨by first | rfl | (simp; done) | (simp [*]; done), by repeat (first | exact Drawn0.refl _ | apply Drawn0.step)⟩
            · rw [if_neg c15] at H
              have c15b0 : decide (65 ≤ a0) = false := decide_eq_false c15
              clear c15
              by_cases c19 : a0 ≥ 97
              · rw [if_pos c19] at H
                have c19b0 : decide (97 ≤ a0) = true := decide_eq_true c19
                clear c19
                by_cases c20 : a0 ≤ 122
                · rw [if_pos c20] at H
                  have c20b0 : decide (a0 ≤ 122) = true := decide_eq_true c20
                  clear c20
                  obtain rfl := Option.some.inj H
                  go_enter Try.func19, Try.ntmps19
                  go_wp2_with (first | ((with_reducible refine gate_callee (f := 26) rfl ?_); refine goesL_ (some 4) rfl rfl Try.func26 (by kernel_rfl) rfl #[.int .u8 a0] rfl (by (try simp only [List.map_toArray, List.map_cons, List.map_nil]); first | done | rfl | (simp only [List.length_drop, List.length_take]; rfl)) ?_; (with_reducible refine (platenref01_Blank.calls a0 false _ A2.out).mono ?_); rintro e w' ⟨rfl, ⟨nd, rfl⟩⟩; refine ⟨_, rfl, ?_⟩))
                  go_ret
                  exact ⟨by first | rfl | (simp; done) | (simp [*]; done), by repeat (first | exact Drawn0.refl _ | apply Drawn0.step)⟩
                · rw [if_neg c20] at H
                  have c20b0 : decide (a0 ≤ 122) = false := decide_eq_false c20
                  clear c20
                  obtain rfl := Option.some.inj H
                  go_enter Try.func19, Try.ntmps19
                  go_wp2_with (first | ((with_reducible refine gate_callee (f := 26) rfl ?_); refine goesL_ (some 4) rfl rfl Try.func26 (by kernel_rfl) rfl #[.int .u8 a0] rfl (by (try simp only [List.map_toArray, List.map_cons, List.map_nil]); first | done | rfl | (simp only [List.length_drop, List.length_take]; rfl)) ?_; (with_reducible refine (platenref01_Blank.calls a0 false _ A2.out).mono ?_); rintro e w' ⟨rfl, ⟨nd, rfl⟩⟩; refine ⟨_, rfl, ?_⟩))
                  go_ret
                  exact ⟨by first | rfl | (simp; done) | (simp [*]; done), by repeat (first | exact Drawn0.refl _ | apply Drawn0.step)⟩
              · rw [if_neg c19] at H
                have c19b0 : decide (97 ≤ a0) = false := decide_eq_false c19
                clear c19
                obtain rfl := Option.some.inj H
                go_enter Try.func19, Try.ntmps19
                go_wp2_with (first | ((with_reducible refine gate_callee (f := 26) rfl ?_); refine goesL_ (some 4) rfl rfl Try.func26 (by kernel_rfl) rfl #[.int .u8 a0] rfl (by (try simp only [List.map_toArray, List.map_cons, List.map_nil]); first | done | rfl | (simp only [List.length_drop, List.length_take]; rfl)) ?_; (with_reducible refine (platenref01_Blank.calls a0 false _ A2.out).mono ?_); rintro e w' ⟨rfl, ⟨nd, rfl⟩⟩; refine ⟨_, rfl, ?_⟩))
                go_ret
                exact ⟨by first | rfl | (simp; done) | (simp [*]; done), by repeat (first | exact Drawn0.refl _ | apply Drawn0.step)⟩

/-! ### platenref05_Solid: function 18 -/
mutual
def platenref05_Solid.l0 : Nat → List Int → List (S33) → Int → Option ((List (S33)))
  | 0, _, _, _ => none
  | k + 1, x0, x3, x4 => if x4 < (x0.length : Int) then (if 0 ≤ x4 then ((platenref05_Class.f (rd x0 x4)).bind fun t201 => (if t201 < 2 then (platenref05_Solid.l0 k x0 x3 (wrap64 (x4 + 1))) else (platenref05_Solid.l1 k x0 x3 x4 x4))) else (none)) else (some x3)
def platenref05_Solid.l1 : Nat → List Int → List (S33) → Int → Int → Option ((List (S33)))
  | 0, _, _, _, _ => none
  | k + 1, x0, x3, x4, x5 => if x4 < (x0.length : Int) then (if 0 ≤ x4 then ((platenref05_Class.f (rd x0 x4)).bind fun t203 => (if t203 ≥ 2 then (platenref05_Solid.l1 k x0 x3 (wrap64 (x4 + 1)) x5) else (if x3.length < 8796093022208 then (platenref05_Solid.l0 k x0 (x3 ++ [(⟨x5, wrap64 (x4 - x5)⟩ : S33)]) (wrap64 (x4 + 1))) else (none)))) else (none)) else (if x3.length < 8796093022208 then (platenref05_Solid.l0 k x0 (x3 ++ [(⟨x5, wrap64 (x4 - x5)⟩ : S33)]) (wrap64 (x4 + 1))) else (none))
end
def platenref05_Solid.f (k : Nat) (l0 : List Int) : Option ((List (S33))) := platenref05_Solid.l0 k l0 ([] : List (S33)) 0
theorem platenref05_Solid.mono_l : ∀ k, (∀ y0 y1 y2, LeO (platenref05_Solid.l0 k y0 y1 y2) (platenref05_Solid.l0 (k + 1) y0 y1 y2)) ∧ (∀ y0 y1 y2 y3, LeO (platenref05_Solid.l1 k y0 y1 y2 y3) (platenref05_Solid.l1 (k + 1) y0 y1 y2 y3))
  | 0 => ⟨fun _ _ _ r h => by simp [platenref05_Solid.l0] at h, fun _ _ _ _ r h => by simp [platenref05_Solid.l1] at h⟩
  | k + 1 => by
    obtain ⟨ih0, ih1⟩ := platenref05_Solid.mono_l k
    refine ⟨?_, ?_⟩
    · intro y0 y1 y2
      unfold platenref05_Solid.l0
      repeat' first
      | (with_reducible exact ih0 _ _ _)
      | (with_reducible exact ih1 _ _ _ _)
      | (with_reducible exact LeO.refl _)
      | (with_reducible exact LeO.none _)
      | (with_reducible refine LeO.ite ?_ ?_)
      | (with_reducible refine LeO.bind ?_ (fun _ => ?_))
      | exact ih0 _ _ _
      | exact ih1 _ _ _ _
      | exact LeO.none _
      | refine LeO.ite ?_ ?_
      | refine LeO.bind ?_ (fun _ => ?_)
    · intro y0 y1 y2 y3
      unfold platenref05_Solid.l1
      repeat' first
      | (with_reducible exact ih0 _ _ _)
      | (with_reducible exact ih1 _ _ _ _)
      | (with_reducible exact LeO.refl _)
      | (with_reducible exact LeO.none _)
      | (with_reducible refine LeO.ite ?_ ?_)
      | (with_reducible refine LeO.bind ?_ (fun _ => ?_))
      | exact ih0 _ _ _
      | exact ih1 _ _ _ _
      | exact LeO.none _
      | refine LeO.ite ?_ ?_
      | refine LeO.bind ?_ (fun _ => ?_)
theorem platenref05_Solid.mono : ∀ a0 k, LeO (platenref05_Solid.f k a0) (platenref05_Solid.f (k + 1) a0) := by
  intro a0 k
  obtain ⟨ih0, ih1⟩ := platenref05_Solid.mono_l k
  unfold platenref05_Solid.f
  repeat' first
      | (with_reducible exact ih0 _ _ _)
      | (with_reducible exact ih1 _ _ _ _)
      | (with_reducible exact LeO.refl _)
      | (with_reducible exact LeO.none _)
      | (with_reducible refine LeO.ite ?_ ?_)
      | (with_reducible refine LeO.bind ?_ (fun _ => ?_))
      | exact ih0 _ _ _
      | exact ih1 _ _ _ _
      | exact LeO.none _
      | refine LeO.ite ?_ ?_
      | refine LeO.bind ?_ (fun _ => ?_)
set_option maxHeartbeats 8000000 in
set_option maxRecDepth 100000 in
theorem platenref05_Solid.calls (k : Nat) (A0 : Option Addr) (c0 : Nat) (l0 : List Int) (r : List (S33)) (w : World) (hr0 : Kd.C (Kd.int .u8) w A0 l0.length l0) (hc0 : l0.length ≤ c0) (h : platenref05_Solid.f k l0 = some r) :
    Calls Try.prog 18 #[.slice A0 l0.length c0] w fun e w' => ∃ v0_ : Value, e = .returned (v0_) ∧ Kd.R k33 33 w' w.heap.size (fun _ => True) v0_ r ∧ Below w.heap.size w w' := by
  have hu33 := Try.underlying33
  have HR0 := Aside0.mk hr0
  have HC0 := Aside0.mk hc0
  clear hr0 hc0
  have HB := Aside0.mk (Below.refl w.heap.size w)
  have H : (platenref05_Solid.l0 k l0 ([] : List (S33)) 0) = some r := h
  clear h
  have H' := Aside0.mk H
  clear H
  go_enter Try.func18, Try.ntmps18
  go_wp2
  go_loopg [3, 4] k (fun kq v3 v4 w' => ∃ (x3_1 : List (S33)) (x4_1 : Int), v4 = .int .i64 x4_1 ∧ Aside0 (platenref05_Solid.l0 kq l0 x3_1 x4_1 = some r) ∧ Aside0 (kq ≤ k) ∧ Aside0 (Kd.R k33 33 w' w.heap.size (fun _ => True) v3 x3_1) ∧ Aside0 (Below w.heap.size w w'))
  case atStart => exact ⟨(([] : List (S33))), (0), (by first | rfl | (simp; done) | (simp [*]; done)), H', ⟨Nat.le_refl _⟩, ⟨by first | exact Kd.R_nil _ _ _ _ _ | exact Kd.N_nil _ _ _ _ _ | exact Kd.V_nil _ _ _ _ _ | exact Kd.Q_nil _ _ _ _ _ | exact Kd.S_nil _ _ _ _ _⟩, ⟨by repeat (first | (with_reducible first | exact HB.out | apply below_alloc | apply pw_below_drewN | apply below_drew1) | exact HB.out)⟩⟩
  case round =>
    clear H'
    try clear c1
    obtain ⟨x3_1, x4_1, rfl, HA, HK1, HO_3, HB⟩ := hrel
    cases gk with
    | zero => exact absurd HA.out (by simp [platenref05_Solid.l0])
    | succ k1 =>
      have H := HA.out
      clear HA
      simp only [platenref05_Solid.l0] at H
      by_cases c2 : x4_1 < (l0.length : Int)
      · rw [if_pos c2] at H
        have c2b0 : decide (x4_1 < (l0.length : Int)) = true := decide_eq_true c2
        clear c2
        by_cases c3 : 0 ≤ x4_1
        · rw [if_pos c3] at H
          have c3b0 : decide (0 ≤ x4_1) = true := decide_eq_true c3
          clear c3
          replace H := Option.bind_eq_some_iff.mp H
          obtain ⟨t201, A40, H⟩ := H
          replace H : (if t201 < 2 then (platenref05_Solid.l0 k1 l0 x3_1 (wrap64 (x4_1 + 1))) else (platenref05_Solid.l1 k1 l0 x3_1 x4_1 x4_1)) = some r := H
          have A4 := Aside0.mk A40
          clear A40
          by_cases c5 : t201 < 2
          · rw [if_pos c5] at H
            have c5b0 : decide (t201 < 2) = true := decide_eq_true c5
            clear c5
            have H' := Aside0.mk H
            clear H
            have p200 : 0 ≤ (x4_1 : Int) := of_decide_eq_true (by first | (with_reducible assumption) | assumption)
            have q200 : x4_1 < (l0.length : Int) := of_decide_eq_true (by first | (with_reducible assumption) | assumption)
            obtain ⟨ad200, e200, hx200_0⟩ := Kd.at_int HR0.out x4_1 p200 q200
            cases e200
            replace hx200_0 := (HB.out.cell (World.block_lt_of_cell? w _ hx200_0)).trans hx200_0
            replace p200 := eq_true p200
            replace q200 := eq_true q200
            go_wp2_with (first | ((with_reducible refine gate_callee (f := 19) rfl ?_); refine goesL_ (some 16) rfl rfl Try.func19 (by kernel_rfl) rfl #[.int .u8 (rd l0 x4_1)] rfl (by (try simp only [List.map_toArray, List.map_cons, List.map_nil]); first | done | rfl | (simp only [List.length_drop, List.length_take]; rfl)) ?_; (with_reducible refine (platenref05_Class.calls (rd l0 x4_1) t201 _ A4.out).mono ?_); rintro e w' ⟨rfl, ⟨nd, rfl⟩⟩; refine ⟨_, rfl, ?_⟩))
            go_roundg k1
            case measure => have := HK1.out; omega
            case rel => exact ⟨(x3_1), (wrap64 (x4_1 + 1)), (by first | rfl | (simp; done) | (simp [*]; done)), H', ⟨by have := HK1.out; omega⟩, ⟨by (with_reducible repeat (first | apply Kd.R_alloc | apply Kd.R_drewN | apply Kd.R_drew)); exact HO_3.out⟩, ⟨by repeat (first | (with_reducible first | exact HB.out | apply below_alloc | apply pw_below_drewN | apply below_drew1) | exact HB.out)⟩⟩
          · rw [if_neg c5] at H
            have c5b0 : decide (t201 < 2) = false := decide_eq_false c5
            clear c5
            have H' := Aside0.mk H
            clear H
            have p200 : 0 ≤ (x4_1 : Int) := of_decide_eq_true (by first | (with_reducible assumption) | assumption)
            have q200 : x4_1 < (l0.length : Int) := of_decide_eq_true (by first | (with_reducible assumption) | assumption)
            obtain ⟨ad200, e200, hx200_0⟩ := Kd.at_int HR0.out x4_1 p200 q200
            cases e200
            replace hx200_0 := (HB.out.cell (World.block_lt_of_cell? w _ hx200_0)).trans hx200_0
            replace p200 := eq_true p200
            replace q200 := eq_true q200
            go_wp2_with (first | ((with_reducible refine gate_callee (f := 19) rfl ?_); refine goesL_ (some 16) rfl rfl Try.func19 (by kernel_rfl) rfl #[.int .u8 (rd l0 x4_1)] rfl (by (try simp only [List.map_toArray, List.map_cons, List.map_nil]); first | done | rfl | (simp only [List.length_drop, List.length_take]; rfl)) ?_; (with_reducible refine (platenref05_Class.calls (rd l0 x4_1) t201 _ A4.out).mono ?_); rintro e w' ⟨rfl, ⟨nd, rfl⟩⟩; refine ⟨_, rfl, ?_⟩))
            go_loopg [4] k1 (fun kq v4 w' => ∃ (x4_2 : Int), v4 = .int .i64 x4_2 ∧ Aside0 (platenref05_Solid.l1 kq l0 x3_1 x4_2 x4_1 = some r) ∧ Aside0 (kq ≤ k1) ∧ Aside0 (Kd.R k33 33 w' w.heap.size (fun _ => True) u3 x3_1) ∧ Aside0 (Below w.heap.size w w'))
            case atStart => exact ⟨(x4_1), (by first | rfl | (simp; done) | (simp [*]; done)), H', ⟨Nat.le_refl _⟩, ⟨by (with_reducible repeat (first | apply Kd.R_alloc | apply Kd.R_drewN | apply Kd.R_drew)); exact HO_3.out⟩, ⟨by repeat (first | (with_reducible first | exact HB.out | apply below_alloc | apply pw_below_drewN | apply below_drew1) | exact HB.out)⟩⟩
            case round =>
              clear H'
              try clear c1
              try clear c2
              try clear c2b0
              try clear p2
              try clear q2
              try clear hx2
              try clear c3
              try clear c3b0
              try clear c5
              try clear c5b0
              try clear hx200_0
              try clear p200
              try clear q200
              obtain ⟨x4_2, rfl, HA, HK2, HO_3, HB⟩ := hrel
              cases gk with
              | zero => exact absurd HA.out (by simp [platenref05_Solid.l1])
              | succ k2 =>
                have H := HA.out
                clear HA
                simp only [platenref05_Solid.l1] at H
                by_cases c6 : x4_2 < (l0.length : Int)
                · rw [if_pos c6] at H
                  have c6b0 : decide (x4_2 < (l0.length : Int)) = true := decide_eq_true c6
                  clear c6
                  by_cases c7 : 0 ≤ x4_2
                  · rw [if_pos c7] at H
                    have c7b0 : decide (0 ≤ x4_2) = true := decide_eq_true c7
                    clear c7
                    replace H := Option.bind_eq_some_iff.mp H
                    obtain ⟨t203, A80, H⟩ := H
                    replace H : (if t203 ≥ 2 then (platenref05_Solid.l1 k2 l0 x3_1 (wrap64 (x4_2 + 1)) x4_1) else (if x3_1.length < 8796093022208 then (platenref05_Solid.l0 k2 l0 (x3_1 ++ [(⟨x4_1, wrap64 (x4_2 - x4_1)⟩ : S33)]) (wrap64 (x4_2 + 1))) else (none))) = some r := H
                    have A8 := Aside0.mk A80
                    clear A80
                    by_cases c9 : t203 ≥ 2
                    · rw [if_pos c9] at H
                      have c9b0 : decide (2 ≤ t203) = true := decide_eq_true c9
                      clear c9
                      have H' := Aside0.mk H
                      clear H
                      have p202 : 0 ≤ (x4_2 : Int) := of_decide_eq_true (by first | (with_reducible assumption) | assumption)
                      have q202 : x4_2 < (l0.length : Int) := of_decide_eq_true (by first | (with_reducible assumption) | assumption)
                      obtain ⟨ad202, e202, hx202_0⟩ := Kd.at_int HR0.out x4_2 p202 q202
                      obtain rfl : ad200 = ad202 := (by injection e202)
                      replace hx202_0 := (HB.out.cell (World.block_lt_of_cell? w _ hx202_0)).trans hx202_0
                      replace p202 := eq_true p202
                      replace q202 := eq_true q202
                      go_wp2_with (first | (go_at_call 19; (with_reducible refine (platenref05_Class.calls (rd l0 x4_2) t203 _ A8.out).mono ?_); rintro e w' ⟨rfl, ⟨nd, rfl⟩⟩))
                      go_roundg k2
                      case measure => have := HK1.out; have := HK2.out; omega
                      case rel => exact ⟨(wrap64 (x4_2 + 1)), (by first | rfl | (simp; done) | (simp [*]; done)), H', ⟨by have := HK1.out; have := HK2.out; omega⟩, ⟨by (with_reducible repeat (first | apply Kd.R_alloc | apply Kd.R_drewN | apply Kd.R_drew)); exact HO_3.out⟩, ⟨by repeat (first | (with_reducible first | exact HB.out | apply below_alloc | apply pw_below_drewN | apply below_drew1) | exact HB.out)⟩⟩
                    · rw [if_neg c9] at H
                      have c9b0 : decide (2 ≤ t203) = false := decide_eq_false c9
                      clear c9
                      by_cases c10 : x3_1.length < 8796093022208
                      · rw [if_pos c10] at H
                        have LMc10 := Aside0.mk c10
                        clear c10
                        obtain ⟨y204, hy204⟩ : ∃ y_ : List (S33), y_ = (x3_1 ++ [(⟨x4_1, wrap64 (x4_2 - x4_1)⟩ : S33)]) := ⟨_, rfl⟩
                        replace H : (platenref05_Solid.l0 k2 l0 y204 (wrap64 (x4_2 + 1))) = some r := by first | (rw [hy204]; with_reducible exact H) | (have H2_ := (Option.bind_some _ _).symm.trans H; rw [hy204]; with_reducible exact H2_) | (have H2_ := (Option.bind_some _ _).symm.trans H; with_reducible exact H2_) | with_reducible exact H | (rw [hy204]; exact H) | exact H
                        have Ny204 := Aside0.mk hy204
                        clear hy204
                        have H' := Aside0.mk H
                        clear H
                        have p202 : 0 ≤ (x4_2 : Int) := of_decide_eq_true (by first | (with_reducible assumption) | assumption)
                        have q202 : x4_2 < (l0.length : Int) := of_decide_eq_true (by first | (with_reducible assumption) | assumption)
                        obtain ⟨ad202, e202, hx202_0⟩ := Kd.at_int HR0.out x4_2 p202 q202
                        obtain rfl : ad200 = ad202 := (by injection e202)
                        replace hx202_0 := (HB.out.cell (World.block_lt_of_cell? w _ hx202_0)).trans hx202_0
                        replace p202 := eq_true p202
                        replace q202 := eq_true q202
                        go_wp2_with (first | (go_at_call 19; (with_reducible refine (platenref05_Class.calls (rd l0 x4_2) t203 _ A8.out).mono ?_); rintro e w' ⟨rfl, ⟨nd, rfl⟩⟩) | ((with_reducible refine gate_builtin (b := .append) (xs := #[.tmp 33, .tmp 39]) rfl ?_); at_builtin; refine Kd.R_append k33 (w0 := w) w.heap.size rfl (.tmp 33) (.tmp 39) 25 33 (.agg #[(.int .i64 0), (.int .i64 0)]) 16 rfl Try.underlying25 info33 rfl (by decide) (by omega) u3 x3_1 (⟨x4_1, wrap64 (x4_2 - x4_1)⟩ : S33) [.int .i64 x4_1, .int .i64 (wrap64 (x4_2 - x4_1))] (fun _ => True) (fun _ => False) rfl rfl ?aP (fun _ hk => hk.elim) ?aF ?aO ?aB ?aS ?aL ?_; (case aP => exact k33_mkM _ _ _ (⟨x4_1, wrap64 (x4_2 - x4_1)⟩ : S33)); (case aB => exact (by repeat (first | (with_reducible first | exact HB.out | apply below_alloc | apply pw_below_drewN | apply below_drew1) | exact HB.out))); (case aF => exact (fun _ _ => trivial)); (case aO => exact (by (with_reducible repeat (first | apply Kd.R_alloc | apply Kd.R_drewN | apply Kd.R_drew)); exact HO_3.out)); (case aS => exact (below_size (by repeat (first | (with_reducible first | exact HB.out | apply below_alloc | apply pw_below_drewN | apply below_drew1) | exact HB.out)))); (case aL => have := LMc10.out; omega); intro v205 w11 ho hb hg hat; rw [← Ny204.out] at ho; have n0_ := Aside0.mk (hb); have n1_ := Aside0.mk (ho); clear HB; clear HO_3; have HB := n0_; have HO206 := n1_; clear n0_ n1_; clear ho hb hg hat))
                        go_roundg k2
                        case measure => have := HK1.out; have := HK2.out; omega
                        case rel => exact ⟨(y204), (wrap64 (x4_2 + 1)), (by first | rfl | (simp; done) | (simp [*]; done)), H', ⟨by have := HK1.out; have := HK2.out; omega⟩, ⟨by (with_reducible repeat (first | apply Kd.R_alloc | apply Kd.R_drewN | apply Kd.R_drew)); exact HO206.out⟩, ⟨by repeat (first | (with_reducible first | exact HB.out | apply below_alloc | apply pw_below_drewN | apply below_drew1) | exact HB.out)⟩⟩
                      · rw [if_neg c10] at H
                        exact absurd H (by simp)
                  · rw [if_neg c7] at H
                    exact absurd H (by simp)
                · rw [if_neg c6] at H
                  have c6b0 : decide (x4_2 < (l0.length : Int)) = false := decide_eq_false c6
                  clear c6
                  by_cases c12 : x3_1.length < 8796093022208
                  · rw [if_pos c12] at H
                    have LMc12 := Aside0.mk c12
                    clear c12
                    obtain ⟨y207, hy207⟩ : ∃ y_ : List (S33), y_ = (x3_1 ++ [(⟨x4_1, wrap64 (x4_2 - x4_1)⟩ : S33)]) := ⟨_, rfl⟩
                    replace H : (platenref05_Solid.l0 k2 l0 y207 (wrap64 (x4_2 + 1))) = some r := by first | (rw [hy207]; with_reducible exact H) | (have H2_ := (Option.bind_some _ _).symm.trans H; rw [hy207]; with_reducible exact H2_) | (have H2_ := (Option.bind_some _ _).symm.trans H; with_reducible exact H2_) | with_reducible exact H | (rw [hy207]; exact H) | exact H
                    have Ny207 := Aside0.mk hy207
                    clear hy207
                    have H' := Aside0.mk H
                    clear H
                    go_wp2_with (first | ((with_reducible refine gate_builtin (b := .append) (xs := #[.tmp 33, .tmp 39]) rfl ?_); at_builtin; refine Kd.R_append k33 (w0 := w) w.heap.size rfl (.tmp 33) (.tmp 39) 25 33 (.agg #[(.int .i64 0), (.int .i64 0)]) 16 rfl Try.underlying25 info33 rfl (by decide) (by omega) u3 x3_1 (⟨x4_1, wrap64 (x4_2 - x4_1)⟩ : S33) [.int .i64 x4_1, .int .i64 (wrap64 (x4_2 - x4_1))] (fun _ => True) (fun _ => False) rfl rfl ?aP (fun _ hk => hk.elim) ?aF ?aO ?aB ?aS ?aL ?_; (case aP => exact k33_mkM _ _ _ (⟨x4_1, wrap64 (x4_2 - x4_1)⟩ : S33)); (case aB => exact (by repeat (first | (with_reducible first | exact HB.out | apply below_alloc | apply pw_below_drewN | apply below_drew1) | exact HB.out))); (case aF => exact (fun _ _ => trivial)); (case aO => exact (by (with_reducible repeat (first | apply Kd.R_alloc | apply Kd.R_drewN | apply Kd.R_drew)); exact HO_3.out)); (case aS => exact (below_size (by repeat (first | (with_reducible first | exact HB.out | apply below_alloc | apply pw_below_drewN | apply below_drew1) | exact HB.out)))); (case aL => have := LMc12.out; omega); intro v208 w13 ho hb hg hat; rw [← Ny207.out] at ho; have n0_ := Aside0.mk (hb); have n1_ := Aside0.mk (ho); clear HB; clear HO_3; have HB := n0_; have HO209 := n1_; clear n0_ n1_; clear ho hb hg hat))
                    go_roundg k2
                    case measure => have := HK1.out; have := HK2.out; omega
                    case rel => exact ⟨(y207), (wrap64 (x4_2 + 1)), (by first | rfl | (simp; done) | (simp [*]; done)), H', ⟨by have := HK1.out; have := HK2.out; omega⟩, ⟨by (with_reducible repeat (first | apply Kd.R_alloc | apply Kd.R_drewN | apply Kd.R_drew)); exact HO209.out⟩, ⟨by repeat (first | (with_reducible first | exact HB.out | apply below_alloc | apply pw_below_drewN | apply below_drew1) | exact HB.out)⟩⟩
                  · rw [if_neg c12] at H
                    exact absurd H (by simp)
        · rw [if_neg c3] at H
          exact absurd H (by simp)
      · rw [if_neg c2] at H
        have c2b0 : decide (x4_1 < (l0.length : Int)) = false := decide_eq_false c2
        clear c2
        obtain rfl := Option.some.inj H
        go_wp2
        go_ret
        exact ⟨_, by first | rfl | (simp [errW_none, errW_some] <;> rfl) | (simp [*, errW_none, errW_some] <;> rfl), by (with_reducible repeat (first | apply Kd.R_alloc | apply Kd.R_drewN | apply Kd.R_drew)); exact HO_3.out, by repeat (first | (with_reducible first | exact HB.out | apply below_alloc | apply pw_below_drewN | apply below_drew1) | exact HB.out)⟩

/-! ### platenref18_Solid: function 14 -/
def platenref18_Solid.f (k : Nat) (a0 : Int) (l1 : List Int) (l2 : List Int) : Option (Int) := (platenref05_Solid.f k l1).bind fun t210 => ((platenref05_Solid.f k l2).bind fun t213 => ((platenref18_Place.f k a0 t210 t213 (l2.length : Int)).bind fun t216 => (some t216)))
theorem platenref18_Solid.mono : ∀ a0 a1 a2 k, LeO (platenref18_Solid.f k a0 a1 a2) (platenref18_Solid.f (k + 1) a0 a1 a2) := by
  intro a0 a1 a2 k
  unfold platenref18_Solid.f
  repeat' first
      | (with_reducible exact platenref05_Solid.mono _ _)
      | (with_reducible exact platenref18_Place.mono _ _ _ _ _)
      | (with_reducible exact LeO.refl _)
      | (with_reducible exact LeO.none _)
      | (with_reducible refine LeO.ite ?_ ?_)
      | (with_reducible refine LeO.bind ?_ (fun _ => ?_))
      | exact platenref05_Solid.mono _ _
      | exact platenref18_Place.mono _ _ _ _ _
      | exact LeO.none _
      | refine LeO.ite ?_ ?_
      | refine LeO.bind ?_ (fun _ => ?_)
set_option maxHeartbeats 8000000 in
set_option maxRecDepth 100000 in
theorem platenref18_Solid.calls (k : Nat) (a0 : Int) (A1 : Option Addr) (c1 : Nat) (l1 : List Int) (A2 : Option Addr) (c2 : Nat) (l2 : List Int) (r : Int) (w : World) (hr1 : Kd.C (Kd.int .u8) w A1 l1.length l1) (hc1 : l1.length ≤ c1) (hr2 : Kd.C (Kd.int .u8) w A2 l2.length l2) (hc2 : l2.length ≤ c2) (h : platenref18_Solid.f k a0 l1 l2 = some r) :
    Calls Try.prog 14 #[.int .i64 a0, .slice A1 l1.length c1, .slice A2 l2.length c2] w fun e w' => e = .returned (.int .i64 r) ∧ Below w.heap.size w w' := by
  have HR1 := Aside0.mk hr1
  have HC1 := Aside0.mk hc1
  clear hr1 hc1
  have HR2 := Aside0.mk hr2
  have HC2 := Aside0.mk hc2
  clear hr2 hc2
  have HB := Aside0.mk (Below.refl w.heap.size w)
  have H : ((platenref05_Solid.f k l1).bind fun t210 => ((platenref05_Solid.f k l2).bind fun t213 => ((platenref18_Place.f k a0 t210 t213 (l2.length : Int)).bind fun t216 => (some t216)))) = some r := h
  clear h
  replace H := Option.bind_eq_some_iff.mp H
  obtain ⟨t210, A40, H⟩ := H
  replace H : ((platenref05_Solid.f k l2).bind fun t213 => ((platenref18_Place.f k a0 t210 t213 (l2.length : Int)).bind fun t216 => (some t216))) = some r := H
  have A4 := Aside0.mk A40
  clear A40
  replace H := Option.bind_eq_some_iff.mp H
  obtain ⟨t213, A50, H⟩ := H
  replace H : ((platenref18_Place.f k a0 t210 t213 (l2.length : Int)).bind fun t216 => (some t216)) = some r := H
  have A5 := Aside0.mk A50
  clear A50
  replace H := Option.bind_eq_some_iff.mp H
  obtain ⟨t216, A60, H⟩ := H
  replace H : (some t216) = some r := H
  have A6 := Aside0.mk A60
  clear A60
  obtain rfl := Option.some.inj H
  go_enter Try.func14, Try.ntmps14
  go_wp2_with (first | ((with_reducible refine gate_callee (f := 18) rfl ?_); refine goesL_ (some 9) rfl rfl Try.func18 (by kernel_rfl) rfl #[.slice A1 l1.length c1] rfl (by (try simp only [List.map_toArray, List.map_cons, List.map_nil]); first | done | rfl | (simp only [List.length_drop, List.length_take]; rfl)) ?_; (with_reducible refine (platenref05_Solid.calls k _ _ l1 t210 _ ?side1 ?side2 A4.out).mono ?_); (case side1 => repeat (first | exact HR1.out | (with_reducible refine Kd.C_alloc ?_ _) | (with_reducible refine Kd.C_drewN ?_ _) | (with_reducible refine Kd.C_drew ?_))); (case side2 => exact HC1.out); rintro e w7 ⟨v211, rfl, ho0, hb⟩; refine ⟨_, rfl, ?_⟩; have n0_ := Aside0.mk (Kd.R_lower ho0 (below_size (by repeat (first | (with_reducible first | exact HB.out | apply below_alloc | apply pw_below_drewN | apply below_drew1) | exact HB.out)))); have n1_ := Aside0.mk (below_step (by repeat (first | (with_reducible first | exact HB.out | apply below_alloc | apply pw_below_drewN | apply below_drew1) | exact HB.out)) hb); clear HB; have HO212 := n0_; have HB := n1_; clear n0_ n1_; (try clear hb); (try clear hb2); (try clear hk); (try clear hi); (try clear ho0)) | ((with_reducible refine gate_callee (f := 18) rfl ?_); refine goesL_ (some 11) rfl rfl Try.func18 (by kernel_rfl) rfl #[.slice A2 l2.length c2] rfl (by (try simp only [List.map_toArray, List.map_cons, List.map_nil]); first | done | rfl | (simp only [List.length_drop, List.length_take]; rfl)) ?_; (with_reducible refine (platenref05_Solid.calls k _ _ l2 t213 _ ?side1 ?side2 A5.out).mono ?_); (case side1 => repeat (first | exact (Kd.C_below HR2.out HB.out) | (with_reducible refine Kd.C_alloc ?_ _) | (with_reducible refine Kd.C_drewN ?_ _) | (with_reducible refine Kd.C_drew ?_))); (case side2 => exact HC2.out); rintro e w8 ⟨v214, rfl, ho0, hb⟩; refine ⟨_, rfl, ?_⟩; have n0_ := Aside0.mk (Kd.R_elder' (by (with_reducible repeat (first | apply Kd.R_alloc | apply Kd.R_drewN | apply Kd.R_drew)); exact HO212.out) (Kd.R_base ho0) hb); have n1_ := Aside0.mk (Kd.R_lower (Kd.R_new' ho0 (Kd.R_lt (by (with_reducible repeat (first | apply Kd.R_alloc | apply Kd.R_drewN | apply Kd.R_drew)); exact HO212.out))) (below_size (by repeat (first | (with_reducible first | exact HB.out | apply below_alloc | apply pw_below_drewN | apply below_drew1) | exact HB.out)))); have n2_ := Aside0.mk (below_step (by repeat (first | (with_reducible first | exact HB.out | apply below_alloc | apply pw_below_drewN | apply below_drew1) | exact HB.out)) hb); clear HO212; clear HB; have HO212 := n0_; have HO215 := n1_; have HB := n2_; clear n0_ n1_ n2_; (try clear hb); (try clear hb2); (try clear hk); (try clear hi); (try clear ho0); obtain ⟨Ao9, co9, eo9⟩ := Kd.R_slice HO212.out; subst eo9; obtain ⟨Ao10, co10, eo10⟩ := Kd.R_slice HO215.out; subst eo10) | ((with_reducible refine gate_callee (f := 12) rfl ?_); refine goesL_ (some 14) rfl rfl Try.func12 (by kernel_rfl) rfl #[.int .i64 a0, .slice Ao9 t210.length co9, .slice Ao10 t213.length co10, .int .i64 (l2.length : Int)] rfl (by (try simp only [List.map_toArray, List.map_cons, List.map_nil]); first | done | rfl | (simp only [List.length_drop, List.length_take]; rfl)) ?_; (with_reducible refine (platenref18_Place.calls k a0 _ _ t210 _ _ t213 (l2.length : Int) t216 _ ?side1 ?side2 ?side3 ?side4 A6.out).mono ?_); (case side1 => repeat (first | exact (Kd.R_reads' HO212.out).2.2 | (with_reducible refine Kd.C_alloc ?_ _) | (with_reducible refine Kd.C_drewN ?_ _) | (with_reducible refine Kd.C_drew ?_))); (case side2 => exact (Kd.R_reads' HO212.out).2.1); (case side3 => repeat (first | exact (Kd.R_reads' HO215.out).2.2 | (with_reducible refine Kd.C_alloc ?_ _) | (with_reducible refine Kd.C_drewN ?_ _) | (with_reducible refine Kd.C_drew ?_))); (case side4 => exact (Kd.R_reads' HO215.out).2.1); rintro e w' ⟨rfl, ⟨nd, rfl⟩⟩; refine ⟨_, rfl, ?_⟩))
  go_ret
  exact ⟨by first | rfl | (simp [errW_none, errW_some] <;> rfl) | (simp [*, errW_none, errW_some] <;> rfl), by repeat (first | (with_reducible first | exact HB.out | apply below_alloc | apply pw_below_drewN | apply below_drew1) | exact HB.out)⟩

end Go.Proofs.Ytemmalkgjfdlcaa.Pa
