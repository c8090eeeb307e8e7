-- Laid by a program of this claim's own (wip/tools/mkprint.py, ext.py): walks of the functions that the statements reach.
import Derived.Test.YtcljafgpjoagpaaPax0
import Derived.Test.YtcljafgpjoagpaaPax1
import Derived.Test.YtcljafgpjoagpaaPax4
import Derived.Test.YtcljafgpjoagpaaPax5
import Derived.Test.YtcljafgpjoagpaaPax9
namespace Go.Proofs.Ytcljafgpjoagpaa.Pa
open Go.RowKit Go.Proofs.Ytcljafgpjoagpaa.Ext Go.Proofs.YtcljafgpjoagpaaW.PrintWords Go.Proofs.YtcljafgpjoagpaaW.PrintLast Go.Proofs.YtcljafgpjoagpaaW.PrintMore
attribute [local go_sem] max2_int min2_int max_two min_two max_three min_three max_four min_four   -- for this text's walks alone
set_option linter.unusedVariables false
set_option linter.unusedSimpArgs false

attribute [local go_sem high] eqA27
/-! ### platenlaw20_ObjectIndents: function 7 -/
mutual
def platenlaw20_ObjectIndents.j0 : Nat → List Int → Int → Bool → Option (Bool)
  | 0, _, _, _ => none
  | k + 1, x0, x1, x15 => if x15 = true then ((platenlaw20_inner.f k).bind fun t412 => (some t412)) else ((platenlaw20_place.f x0 x1).bind fun t413 => ((platenref03_Spans.f k x0).bind fun t414 => ((platenref03_Of.f k x0 t413).bind fun t417 => (if 0 ≤ t417 then (if t417 < (t414.length : Int) then ((object_Inner.f k x0 t413 108).bind fun bt420 => ((platenref03_Text.f x0 ((rd_T25 t414 t417).f0) ((rd_T25 t414 t417).f1)).bind fun t425 => ((platenref03_Bare.f k t425).bind fun t428 => (if t428 = true then (if bt420.2.2.2 = 2 then (some ((bt420.1 == 0 && (bt420.2.1 == 0)) && (!bt420.2.2.1))) else (some false)) else (if bt420.2.2.2 = 0 then (if bt420.2.2.1 = true then (platenlaw20_ObjectIndents.j1 k x0 true ((rd_T25 t414 t417).f0) ((rd_T25 t414 t417).f1) bt420.1 bt420.2.1 bt420.2.2.1) else (if bt420.1 < ((rd_T25 t414 t417).f0) then (platenlaw20_ObjectIndents.j1 k x0 true ((rd_T25 t414 t417).f0) ((rd_T25 t414 t417).f1) bt420.1 bt420.2.1 bt420.2.2.1) else (if bt420.2.1 < 1 then (platenlaw20_ObjectIndents.j1 k x0 true ((rd_T25 t414 t417).f0) ((rd_T25 t414 t417).f1) bt420.1 bt420.2.1 bt420.2.2.1) else (platenlaw20_ObjectIndents.j1 k x0 ((wrap64 (bt420.1 + bt420.2.1)) != (wrap64 (((rd_T25 t414 t417).f0) + ((rd_T25 t414 t417).f1)))) ((rd_T25 t414 t417).f0) ((rd_T25 t414 t417).f1) bt420.1 bt420.2.1 bt420.2.2.1)))) else (platenlaw20_ObjectIndents.j1 k x0 true ((rd_T25 t414 t417).f0) ((rd_T25 t414 t417).f1) bt420.1 bt420.2.1 bt420.2.2.1)))))) else (none)) else (none)))))
def platenlaw20_ObjectIndents.j1 : Nat → List Int → Bool → Int → Int → Int → Int → Bool → Option (Bool)
  | 0, _, _, _, _, _, _, _ => none
  | k + 1, x0, x78, x420000, x420001, x425000, x425001, x425002 => if x78 = true then (some false) else (if 0 ≤ x425000 then (if x425000 < (x0.length : Int) then ((platenref05_Class.f (rd x0 x425000)).bind fun t430 => (if t430 ≥ 2 then (if 0 ≤ x420000 then (if x420000 ≤ x425000 then (if x425000 ≤ (x0.length : Int) then ((platenref03_Bare.f k ((x0.take (x425000 : Int).toNat).drop (x420000 : Int).toNat)).bind fun t432 => (some t432)) else (none)) else (none)) else (none)) else (some false))) else (none)) else (none))
end
def platenlaw20_ObjectIndents.f (k : Nat) (l0 : List Int) (a1 : Int) : Option (Bool) := (platenlaw20_inner.f k).bind fun t411 => (if t411 = true then (platenlaw20_ObjectIndents.j0 k l0 a1 (decide ((l0.length : Int) > 200))) else (platenlaw20_ObjectIndents.j0 k l0 a1 true))
theorem platenlaw20_ObjectIndents.mono_l : ∀ k, (∀ y0 y1 y2, LeO (platenlaw20_ObjectIndents.j0 k y0 y1 y2) (platenlaw20_ObjectIndents.j0 (k + 1) y0 y1 y2)) ∧ (∀ y0 y1 y2 y3 y4 y5 y6, LeO (platenlaw20_ObjectIndents.j1 k y0 y1 y2 y3 y4 y5 y6) (platenlaw20_ObjectIndents.j1 (k + 1) y0 y1 y2 y3 y4 y5 y6))
  | 0 => ⟨fun _ _ _ r h => by simp [platenlaw20_ObjectIndents.j0] at h, fun _ _ _ _ _ _ _ r h => by simp [platenlaw20_ObjectIndents.j1] at h⟩
  | k + 1 => by
    obtain ⟨ih0, ih1⟩ := platenlaw20_ObjectIndents.mono_l k
    refine ⟨?_, ?_⟩
    · intro y0 y1 y2
      unfold platenlaw20_ObjectIndents.j0
      repeat' first
      | (with_reducible exact ih0 _ _ _)
      | (with_reducible exact ih1 _ _ _ _ _ _ _)
      | (with_reducible exact object_Inner.mono _ _ _ _)
      | (with_reducible exact platenlaw20_inner.mono _)
      | (with_reducible exact platenref03_Bare.mono _ _)
      | (with_reducible exact platenref03_Of.mono _ _ _)
      | (with_reducible exact platenref03_Spans.mono _ _)
      | (with_reducible exact LeO.refl _)
      | (with_reducible exact LeO.none _)
      | (with_reducible refine LeO.ite ?_ ?_)
      | (with_reducible refine LeO.bind ?_ (fun _ => ?_))
      | exact ih0 _ _ _
      | exact ih1 _ _ _ _ _ _ _
      | exact object_Inner.mono _ _ _ _
      | exact platenlaw20_inner.mono _
      | exact platenref03_Bare.mono _ _
      | exact platenref03_Of.mono _ _ _
      | exact platenref03_Spans.mono _ _
      | exact LeO.none _
      | refine LeO.ite ?_ ?_
      | refine LeO.bind ?_ (fun _ => ?_)
    · intro y0 y1 y2 y3 y4 y5 y6
      unfold platenlaw20_ObjectIndents.j1
      repeat' first
      | (with_reducible exact ih0 _ _ _)
      | (with_reducible exact ih1 _ _ _ _ _ _ _)
      | (with_reducible exact object_Inner.mono _ _ _ _)
      | (with_reducible exact platenlaw20_inner.mono _)
      | (with_reducible exact platenref03_Bare.mono _ _)
      | (with_reducible exact platenref03_Of.mono _ _ _)
      | (with_reducible exact platenref03_Spans.mono _ _)
      | (with_reducible exact LeO.refl _)
      | (with_reducible exact LeO.none _)
      | (with_reducible refine LeO.ite ?_ ?_)
      | (with_reducible refine LeO.bind ?_ (fun _ => ?_))
      | exact ih0 _ _ _
      | exact ih1 _ _ _ _ _ _ _
      | exact object_Inner.mono _ _ _ _
      | exact platenlaw20_inner.mono _
      | exact platenref03_Bare.mono _ _
      | exact platenref03_Of.mono _ _ _
      | exact platenref03_Spans.mono _ _
      | exact LeO.none _
      | refine LeO.ite ?_ ?_
      | refine LeO.bind ?_ (fun _ => ?_)
theorem platenlaw20_ObjectIndents.mono : ∀ a0 a1 k, LeO (platenlaw20_ObjectIndents.f k a0 a1) (platenlaw20_ObjectIndents.f (k + 1) a0 a1) := by
  intro a0 a1 k
  obtain ⟨ih0, ih1⟩ := platenlaw20_ObjectIndents.mono_l k
  unfold platenlaw20_ObjectIndents.f
  repeat' first
      | (with_reducible exact ih0 _ _ _)
      | (with_reducible exact ih1 _ _ _ _ _ _ _)
      | (with_reducible exact object_Inner.mono _ _ _ _)
      | (with_reducible exact platenlaw20_inner.mono _)
      | (with_reducible exact platenref03_Bare.mono _ _)
      | (with_reducible exact platenref03_Of.mono _ _ _)
      | (with_reducible exact platenref03_Spans.mono _ _)
      | (with_reducible exact LeO.refl _)
      | (with_reducible exact LeO.none _)
      | (with_reducible refine LeO.ite ?_ ?_)
      | (with_reducible refine LeO.bind ?_ (fun _ => ?_))
      | exact ih0 _ _ _
      | exact ih1 _ _ _ _ _ _ _
      | exact object_Inner.mono _ _ _ _
      | exact platenlaw20_inner.mono _
      | exact platenref03_Bare.mono _ _
      | exact platenref03_Of.mono _ _ _
      | exact platenref03_Spans.mono _ _
      | exact LeO.none _
      | refine LeO.ite ?_ ?_
      | refine LeO.bind ?_ (fun _ => ?_)
set_option maxHeartbeats 8000000 in
set_option maxRecDepth 100000 in
theorem platenlaw20_ObjectIndents.calls (k : Nat) (A0 : Option Addr) (c0 : Nat) (l0 : List Int) (a1 : Int) (r : Bool) (w : World) (hr0 : Kd.C (Kd.int .u8) w A0 l0.length l0) (hc0 : l0.length ≤ c0) (h : platenlaw20_ObjectIndents.f k l0 a1 = some r) :
    Calls Try.prog 7 #[.slice A0 l0.length c0, .int .u8 a1] w fun e w' => e = .returned (.bool r) ∧ Below w.heap.size w w' := by
  have hu25 := Try.underlying25
  have hu27 := Try.underlying27
  have HR0 := Aside0.mk hr0
  have HC0 := Aside0.mk hc0
  clear hr0 hc0
  have HB := Aside0.mk (Below.refl w.heap.size w)
  have H : ((platenlaw20_inner.f k).bind fun t411 => (if t411 = true then (platenlaw20_ObjectIndents.j0 k l0 a1 (decide ((l0.length : Int) > 200))) else (platenlaw20_ObjectIndents.j0 k l0 a1 true))) = some r := h
  clear h
  have HC3 := Aside0.mk H
  clear H
  go_enter Try.func7, Try.ntmps7
  go_upto_region 1 with (fail)
  go_cut [15] (fun v15 wc => ∃ (kq : Nat) (x15_2 : Bool), v15 = .bool x15_2 ∧ Aside0 (platenlaw20_ObjectIndents.j0 kq l0 a1 x15_2 = some r) ∧ Aside0 (kq ≤ k) ∧ Aside0 (Below w.heap.size w wc))
  case first =>
    have H := HC3.out
    clear HC3
    replace H := Option.bind_eq_some_iff.mp H
    obtain ⟨t411, A40, H⟩ := H
    replace H : (if t411 = true then (platenlaw20_ObjectIndents.j0 k l0 a1 (decide ((l0.length : Int) > 200))) else (platenlaw20_ObjectIndents.j0 k l0 a1 true)) = some r := H
    have A4 := Aside0.mk A40
    clear A40
    by_cases c5 : t411 = true
    · subst c5
      have H1 : (platenlaw20_ObjectIndents.j0 k l0 a1 (decide ((l0.length : Int) > 200))) = some r := by rw [if_pos rfl] at H; exact H
      clear H
      have H := H1
      clear H1
      have H' := Aside0.mk H
      clear H
      go_wp2_with (first | ((with_reducible refine gate_callee (f := 9) rfl ?_); refine goesL_ (some 9) rfl rfl Try.func9 (by kernel_rfl) rfl #[] rfl (by (try simp only [List.map_toArray, List.map_cons, List.map_nil]); first | done | rfl | (simp only [List.length_drop, List.length_take]; rfl)) ?_; (with_reducible refine (platenlaw20_inner.calls k  true _ A4.out).mono ?_); rintro e w6 ⟨rfl, hb⟩; refine ⟨_, rfl, ?_⟩; have n0_ := Aside0.mk (below_step (by repeat (first | (with_reducible first | exact HB.out | apply below_alloc | apply pw_below_drewN | apply below_drew1) | exact HB.out)) hb); clear HB; have HB := n0_; clear n0_; (try clear hb); (try clear hb2); (try clear hk); (try clear hi)))
      go_meet
      case rel => exact ⟨_, (decide ((l0.length : Int) > 200)), (by first | rfl | (simp; done) | (simp [*]; done)), H', ⟨by first | omega | exact Nat.le_refl _⟩, ⟨by repeat (first | (with_reducible first | exact HB.out | apply below_alloc | apply pw_below_drewN | apply below_drew1) | exact HB.out)⟩⟩
    · replace c5 := Bool.eq_false_iff.mpr c5
      subst c5
      have H1 : (platenlaw20_ObjectIndents.j0 k l0 a1 true) = some r := by rw [if_neg (show ¬ (false = true) by decide)] at H; exact H
      clear H
      have H := H1
      clear H1
      have H' := Aside0.mk H
      clear H
      go_wp2_with (first | ((with_reducible refine gate_callee (f := 9) rfl ?_); refine goesL_ (some 9) rfl rfl Try.func9 (by kernel_rfl) rfl #[] rfl (by (try simp only [List.map_toArray, List.map_cons, List.map_nil]); first | done | rfl | (simp only [List.length_drop, List.length_take]; rfl)) ?_; (with_reducible refine (platenlaw20_inner.calls k  false _ A4.out).mono ?_); rintro e w7 ⟨rfl, hb⟩; refine ⟨_, rfl, ?_⟩; have n0_ := Aside0.mk (below_step (by repeat (first | (with_reducible first | exact HB.out | apply below_alloc | apply pw_below_drewN | apply below_drew1) | exact HB.out)) hb); clear HB; have HB := n0_; clear n0_; (try clear hb); (try clear hb2); (try clear hk); (try clear hi)))
      go_meet
      case rel => exact ⟨_, (true), (by first | rfl | (simp; done) | (simp [*]; done)), H', ⟨by first | omega | exact Nat.le_refl _⟩, ⟨by repeat (first | (with_reducible first | exact HB.out | apply below_alloc | apply pw_below_drewN | apply below_drew1) | exact HB.out)⟩⟩
  case rest =>
    clear HC3
    try clear p2
    try clear c5
    try clear c7
    obtain ⟨kq, x15_2, rfl, HA, HJ2, HB⟩ := hcut
    cases kq with
    | zero => exact absurd HA.out (by simp [platenlaw20_ObjectIndents.j0])
    | succ kj2 =>
      have H := HA.out
      clear HA
      simp only [platenlaw20_ObjectIndents.j0] at H
      by_cases c8 : x15_2 = true
      · subst c8
        have H1 : ((platenlaw20_inner.f kj2).bind fun t412 => (some t412)) = some r := by rw [if_pos rfl] at H; exact H
        clear H
        have H := H1
        clear H1
        replace H := Option.bind_eq_some_iff.mp H
        obtain ⟨t412, A90, H⟩ := H
        replace H : (some t412) = some r := H
        have A9 := Aside0.mk A90
        clear A90
        obtain rfl := Option.some.inj H
        go_wp2_with (first | ((with_reducible refine gate_callee (f := 9) rfl ?_); refine goesL_ (some 16) rfl rfl Try.func9 (by kernel_rfl) rfl #[] rfl (by (try simp only [List.map_toArray, List.map_cons, List.map_nil]); first | done | rfl | (simp only [List.length_drop, List.length_take]; rfl)) ?_; (with_reducible refine (platenlaw20_inner.calls kj2  t412 _ A9.out).mono ?_); rintro e w10 ⟨rfl, hb⟩; refine ⟨_, rfl, ?_⟩; have n0_ := Aside0.mk (below_step (by repeat (first | (with_reducible first | exact HB.out | apply below_alloc | apply pw_below_drewN | apply below_drew1) | exact HB.out)) hb); clear HB; have HB := n0_; clear n0_; (try clear hb); (try clear hb2); (try clear hk); (try clear hi)))
        go_ret
        exact ⟨by first | rfl | (simp [errW_none, errW_some] <;> rfl) | (simp [*, errW_none, errW_some] <;> rfl), by repeat (first | (with_reducible first | exact HB.out | apply below_alloc | apply pw_below_drewN | apply below_drew1) | exact HB.out)⟩
      · replace c8 := Bool.eq_false_iff.mpr c8
        subst c8
        have H1 : ((platenlaw20_place.f l0 a1).bind fun t413 => ((platenref03_Spans.f kj2 l0).bind fun t414 => ((platenref03_Of.f kj2 l0 t413).bind fun t417 => (if 0 ≤ t417 then (if t417 < (t414.length : Int) then ((object_Inner.f kj2 l0 t413 108).bind fun bt420 => ((platenref03_Text.f l0 ((rd_T25 t414 t417).f0) ((rd_T25 t414 t417).f1)).bind fun t425 => ((platenref03_Bare.f kj2 t425).bind fun t428 => (if t428 = true then (if bt420.2.2.2 = 2 then (some ((bt420.1 == 0 && (bt420.2.1 == 0)) && (!bt420.2.2.1))) else (some false)) else (if bt420.2.2.2 = 0 then (if bt420.2.2.1 = true then (platenlaw20_ObjectIndents.j1 kj2 l0 true ((rd_T25 t414 t417).f0) ((rd_T25 t414 t417).f1) bt420.1 bt420.2.1 bt420.2.2.1) else (if bt420.1 < ((rd_T25 t414 t417).f0) then (platenlaw20_ObjectIndents.j1 kj2 l0 true ((rd_T25 t414 t417).f0) ((rd_T25 t414 t417).f1) bt420.1 bt420.2.1 bt420.2.2.1) else (if bt420.2.1 < 1 then (platenlaw20_ObjectIndents.j1 kj2 l0 true ((rd_T25 t414 t417).f0) ((rd_T25 t414 t417).f1) bt420.1 bt420.2.1 bt420.2.2.1) else (platenlaw20_ObjectIndents.j1 kj2 l0 ((wrap64 (bt420.1 + bt420.2.1)) != (wrap64 (((rd_T25 t414 t417).f0) + ((rd_T25 t414 t417).f1)))) ((rd_T25 t414 t417).f0) ((rd_T25 t414 t417).f1) bt420.1 bt420.2.1 bt420.2.2.1)))) else (platenlaw20_ObjectIndents.j1 kj2 l0 true ((rd_T25 t414 t417).f0) ((rd_T25 t414 t417).f1) bt420.1 bt420.2.1 bt420.2.2.1)))))) else (none)) else (none))))) = some r := by rw [if_neg (show ¬ (false = true) by decide)] at H; exact H
        clear H
        have H := H1
        clear H1
        replace H := Option.bind_eq_some_iff.mp H
        obtain ⟨t413, A110, H⟩ := H
        replace H : ((platenref03_Spans.f kj2 l0).bind fun t414 => ((platenref03_Of.f kj2 l0 t413).bind fun t417 => (if 0 ≤ t417 then (if t417 < (t414.length : Int) then ((object_Inner.f kj2 l0 t413 108).bind fun bt420 => ((platenref03_Text.f l0 ((rd_T25 t414 t417).f0) ((rd_T25 t414 t417).f1)).bind fun t425 => ((platenref03_Bare.f kj2 t425).bind fun t428 => (if t428 = true then (if bt420.2.2.2 = 2 then (some ((bt420.1 == 0 && (bt420.2.1 == 0)) && (!bt420.2.2.1))) else (some false)) else (if bt420.2.2.2 = 0 then (if bt420.2.2.1 = true then (platenlaw20_ObjectIndents.j1 kj2 l0 true ((rd_T25 t414 t417).f0) ((rd_T25 t414 t417).f1) bt420.1 bt420.2.1 bt420.2.2.1) else (if bt420.1 < ((rd_T25 t414 t417).f0) then (platenlaw20_ObjectIndents.j1 kj2 l0 true ((rd_T25 t414 t417).f0) ((rd_T25 t414 t417).f1) bt420.1 bt420.2.1 bt420.2.2.1) else (if bt420.2.1 < 1 then (platenlaw20_ObjectIndents.j1 kj2 l0 true ((rd_T25 t414 t417).f0) ((rd_T25 t414 t417).f1) bt420.1 bt420.2.1 bt420.2.2.1) else (platenlaw20_ObjectIndents.j1 kj2 l0 ((wrap64 (bt420.1 + bt420.2.1)) != (wrap64 (((rd_T25 t414 t417).f0) + ((rd_T25 t414 t417).f1)))) ((rd_T25 t414 t417).f0) ((rd_T25 t414 t417).f1) bt420.1 bt420.2.1 bt420.2.2.1)))) else (platenlaw20_ObjectIndents.j1 kj2 l0 true ((rd_T25 t414 t417).f0) ((rd_T25 t414 t417).f1) bt420.1 bt420.2.1 bt420.2.2.1)))))) else (none)) else (none)))) = some r := H
        have A11 := Aside0.mk A110
        clear A110
        replace H := Option.bind_eq_some_iff.mp H
        obtain ⟨t414, A120, H⟩ := H
        replace H : ((platenref03_Of.f kj2 l0 t413).bind fun t417 => (if 0 ≤ t417 then (if t417 < (t414.length : Int) then ((object_Inner.f kj2 l0 t413 108).bind fun bt420 => ((platenref03_Text.f l0 ((rd_T25 t414 t417).f0) ((rd_T25 t414 t417).f1)).bind fun t425 => ((platenref03_Bare.f kj2 t425).bind fun t428 => (if t428 = true then (if bt420.2.2.2 = 2 then (some ((bt420.1 == 0 && (bt420.2.1 == 0)) && (!bt420.2.2.1))) else (some false)) else (if bt420.2.2.2 = 0 then (if bt420.2.2.1 = true then (platenlaw20_ObjectIndents.j1 kj2 l0 true ((rd_T25 t414 t417).f0) ((rd_T25 t414 t417).f1) bt420.1 bt420.2.1 bt420.2.2.1) else (if bt420.1 < ((rd_T25 t414 t417).f0) then (platenlaw20_ObjectIndents.j1 kj2 l0 true ((rd_T25 t414 t417).f0) ((rd_T25 t414 t417).f1) bt420.1 bt420.2.1 bt420.2.2.1) else (if bt420.2.1 < 1 then (platenlaw20_ObjectIndents.j1 kj2 l0 true ((rd_T25 t414 t417).f0) ((rd_T25 t414 t417).f1) bt420.1 bt420.2.1 bt420.2.2.1) else (platenlaw20_ObjectIndents.j1 kj2 l0 ((wrap64 (bt420.1 + bt420.2.1)) != (wrap64 (((rd_T25 t414 t417).f0) + ((rd_T25 t414 t417).f1)))) ((rd_T25 t414 t417).f0) ((rd_T25 t414 t417).f1) bt420.1 bt420.2.1 bt420.2.2.1)))) else (platenlaw20_ObjectIndents.j1 kj2 l0 true ((rd_T25 t414 t417).f0) ((rd_T25 t414 t417).f1) bt420.1 bt420.2.1 bt420.2.2.1)))))) else (none)) else (none))) = some r := H
        have A12 := Aside0.mk A120
        clear A120
        replace H := Option.bind_eq_some_iff.mp H
        obtain ⟨t417, A130, H⟩ := H
        replace H : (if 0 ≤ t417 then (if t417 < (t414.length : Int) then ((object_Inner.f kj2 l0 t413 108).bind fun bt420 => ((platenref03_Text.f l0 ((rd_T25 t414 t417).f0) ((rd_T25 t414 t417).f1)).bind fun t425 => ((platenref03_Bare.f kj2 t425).bind fun t428 => (if t428 = true then (if bt420.2.2.2 = 2 then (some ((bt420.1 == 0 && (bt420.2.1 == 0)) && (!bt420.2.2.1))) else (some false)) else (if bt420.2.2.2 = 0 then (if bt420.2.2.1 = true then (platenlaw20_ObjectIndents.j1 kj2 l0 true ((rd_T25 t414 t417).f0) ((rd_T25 t414 t417).f1) bt420.1 bt420.2.1 bt420.2.2.1) else (if bt420.1 < ((rd_T25 t414 t417).f0) then (platenlaw20_ObjectIndents.j1 kj2 l0 true ((rd_T25 t414 t417).f0) ((rd_T25 t414 t417).f1) bt420.1 bt420.2.1 bt420.2.2.1) else (if bt420.2.1 < 1 then (platenlaw20_ObjectIndents.j1 kj2 l0 true ((rd_T25 t414 t417).f0) ((rd_T25 t414 t417).f1) bt420.1 bt420.2.1 bt420.2.2.1) else (platenlaw20_ObjectIndents.j1 kj2 l0 ((wrap64 (bt420.1 + bt420.2.1)) != (wrap64 (((rd_T25 t414 t417).f0) + ((rd_T25 t414 t417).f1)))) ((rd_T25 t414 t417).f0) ((rd_T25 t414 t417).f1) bt420.1 bt420.2.1 bt420.2.2.1)))) else (platenlaw20_ObjectIndents.j1 kj2 l0 true ((rd_T25 t414 t417).f0) ((rd_T25 t414 t417).f1) bt420.1 bt420.2.1 bt420.2.2.1)))))) else (none)) else (none)) = some r := H
        have A13 := Aside0.mk A130
        clear A130
        by_cases c14 : 0 ≤ t417
        · rw [if_pos c14] at H
          have c14b0 : decide (0 ≤ t417) = true := decide_eq_true c14
          clear c14
          by_cases c15 : t417 < (t414.length : Int)
          · rw [if_pos c15] at H
            have c15b0 : decide (t417 < (t414.length : Int)) = true := decide_eq_true c15
            clear c15
            replace H := Option.bind_eq_some_iff.mp H
            obtain ⟨⟨t420, t421, t422, t423⟩, A160, H⟩ := H
            replace H : ((platenref03_Text.f l0 ((rd_T25 t414 t417).f0) ((rd_T25 t414 t417).f1)).bind fun t425 => ((platenref03_Bare.f kj2 t425).bind fun t428 => (if t428 = true then (if t423 = 2 then (some ((t420 == 0 && (t421 == 0)) && (!t422))) else (some false)) else (if t423 = 0 then (if t422 = true then (platenlaw20_ObjectIndents.j1 kj2 l0 true ((rd_T25 t414 t417).f0) ((rd_T25 t414 t417).f1) t420 t421 t422) else (if t420 < ((rd_T25 t414 t417).f0) then (platenlaw20_ObjectIndents.j1 kj2 l0 true ((rd_T25 t414 t417).f0) ((rd_T25 t414 t417).f1) t420 t421 t422) else (if t421 < 1 then (platenlaw20_ObjectIndents.j1 kj2 l0 true ((rd_T25 t414 t417).f0) ((rd_T25 t414 t417).f1) t420 t421 t422) else (platenlaw20_ObjectIndents.j1 kj2 l0 ((wrap64 (t420 + t421)) != (wrap64 (((rd_T25 t414 t417).f0) + ((rd_T25 t414 t417).f1)))) ((rd_T25 t414 t417).f0) ((rd_T25 t414 t417).f1) t420 t421 t422)))) else (platenlaw20_ObjectIndents.j1 kj2 l0 true ((rd_T25 t414 t417).f0) ((rd_T25 t414 t417).f1) t420 t421 t422))))) = some r := H
            have A16 := Aside0.mk A160
            clear A160
            replace H := Option.bind_eq_some_iff.mp H
            obtain ⟨t425, A170, H⟩ := H
            replace H : ((platenref03_Bare.f kj2 t425).bind fun t428 => (if t428 = true then (if t423 = 2 then (some ((t420 == 0 && (t421 == 0)) && (!t422))) else (some false)) else (if t423 = 0 then (if t422 = true then (platenlaw20_ObjectIndents.j1 kj2 l0 true ((rd_T25 t414 t417).f0) ((rd_T25 t414 t417).f1) t420 t421 t422) else (if t420 < ((rd_T25 t414 t417).f0) then (platenlaw20_ObjectIndents.j1 kj2 l0 true ((rd_T25 t414 t417).f0) ((rd_T25 t414 t417).f1) t420 t421 t422) else (if t421 < 1 then (platenlaw20_ObjectIndents.j1 kj2 l0 true ((rd_T25 t414 t417).f0) ((rd_T25 t414 t417).f1) t420 t421 t422) else (platenlaw20_ObjectIndents.j1 kj2 l0 ((wrap64 (t420 + t421)) != (wrap64 (((rd_T25 t414 t417).f0) + ((rd_T25 t414 t417).f1)))) ((rd_T25 t414 t417).f0) ((rd_T25 t414 t417).f1) t420 t421 t422)))) else (platenlaw20_ObjectIndents.j1 kj2 l0 true ((rd_T25 t414 t417).f0) ((rd_T25 t414 t417).f1) t420 t421 t422)))) = some r := H
            have A17 := Aside0.mk A170
            clear A170
            replace H := Option.bind_eq_some_iff.mp H
            obtain ⟨t428, A180, H⟩ := H
            replace H : (if t428 = true then (if t423 = 2 then (some ((t420 == 0 && (t421 == 0)) && (!t422))) else (some false)) else (if t423 = 0 then (if t422 = true then (platenlaw20_ObjectIndents.j1 kj2 l0 true ((rd_T25 t414 t417).f0) ((rd_T25 t414 t417).f1) t420 t421 t422) else (if t420 < ((rd_T25 t414 t417).f0) then (platenlaw20_ObjectIndents.j1 kj2 l0 true ((rd_T25 t414 t417).f0) ((rd_T25 t414 t417).f1) t420 t421 t422) else (if t421 < 1 then (platenlaw20_ObjectIndents.j1 kj2 l0 true ((rd_T25 t414 t417).f0) ((rd_T25 t414 t417).f1) t420 t421 t422) else (platenlaw20_ObjectIndents.j1 kj2 l0 ((wrap64 (t420 + t421)) != (wrap64 (((rd_T25 t414 t417).f0) + ((rd_T25 t414 t417).f1)))) ((rd_T25 t414 t417).f0) ((rd_T25 t414 t417).f1) t420 t421 t422)))) else (platenlaw20_ObjectIndents.j1 kj2 l0 true ((rd_T25 t414 t417).f0) ((rd_T25 t414 t417).f1) t420 t421 t422))) = some r := H
            have A18 := Aside0.mk A180
            clear A180
            by_cases c19 : t428 = true
            · subst c19
              have H1 : (if t423 = 2 then (some ((t420 == 0 && (t421 == 0)) && (!t422))) else (some false)) = some r := by rw [if_pos rfl] at H; exact H
              clear H
              have H := H1
              clear H1
              by_cases c20 : t423 = 2
              · rw [if_pos c20] at H
                have c20b0 : (t423 == 2) = true := beq_iff_eq.mpr c20
                have c20b1 : (t423 != 2) = false := bne_eq_false_iff_eq.mpr c20
                clear c20
                obtain rfl := Option.some.inj H
                go_wp2_with (first | ((with_reducible refine gate_callee (f := 14) rfl ?_); refine goesL_ (some 19) rfl rfl Try.func14 (by kernel_rfl) rfl #[.slice A0 l0.length c0, .int .u8 a1] rfl (by (try simp only [List.map_toArray, List.map_cons, List.map_nil]); first | done | rfl | (simp only [List.length_drop, List.length_take]; rfl)) ?_; (with_reducible refine (platenlaw20_place.calls _ _ l0 a1 t413 _ ?side1 ?side2 A11.out).mono ?_); (case side1 => repeat (first | exact (Kd.C_below HR0.out HB.out) | (with_reducible refine Kd.C_alloc ?_ _) | (with_reducible refine Kd.C_drewN ?_ _) | (with_reducible refine Kd.C_drew ?_))); (case side2 => exact HC0.out); rintro e w' ⟨rfl, ⟨nd, rfl⟩⟩; refine ⟨_, rfl, ?_⟩; (try (rw [drewN_self wc]; generalize hq_ : World.drewN wc _ = wc; have n0_ : Aside0 (Below w.heap.size w wc) := ⟨by rw [← hq_]; exact (by repeat (first | (with_reducible first | exact HB.out | apply below_alloc | apply pw_below_drewN | apply below_drew1) | exact HB.out))⟩; clear HB hq_; have HB := n0_; clear n0_))) | ((with_reducible refine gate_callee (f := 17) rfl ?_); refine goesL_ (some 21) rfl rfl Try.func17 (by kernel_rfl) rfl #[.slice A0 l0.length c0] rfl (by (try simp only [List.map_toArray, List.map_cons, List.map_nil]); first | done | rfl | (simp only [List.length_drop, List.length_take]; rfl)) ?_; (with_reducible refine (platenref03_Spans.calls kj2 _ _ l0 t414 _ ?side1 ?side2 A12.out).mono ?_); (case side1 => repeat (first | exact (Kd.C_below HR0.out HB.out) | (with_reducible refine Kd.C_alloc ?_ _) | (with_reducible refine Kd.C_drewN ?_ _) | (with_reducible refine Kd.C_drew ?_))); (case side2 => exact HC0.out); rintro e w21 ⟨v415, rfl, ho0, hb⟩; refine ⟨_, rfl, ?_⟩; have n0_ := Aside0.mk (Kd.R_lower ho0 (below_size (by repeat (first | (with_reducible first | exact HB.out | apply below_alloc | apply pw_below_drewN | apply below_drew1) | exact HB.out)))); have n1_ := Aside0.mk (below_step (by repeat (first | (with_reducible first | exact HB.out | apply below_alloc | apply pw_below_drewN | apply below_drew1) | exact HB.out)) hb); clear HB; have HO416 := n0_; have HB := n1_; clear n0_ n1_; (try clear hb); (try clear hb2); (try clear hk); (try clear hi); (try clear ho0)) | ((with_reducible refine gate_callee (f := 18) rfl ?_); refine goesL_ (some 24) rfl rfl Try.func18 (by kernel_rfl) rfl #[.slice A0 l0.length c0, .int .i64 t413] rfl (by (try simp only [List.map_toArray, List.map_cons, List.map_nil]); first | done | rfl | (simp only [List.length_drop, List.length_take]; rfl)) ?_; (with_reducible refine (platenref03_Of.calls kj2 _ _ l0 t413 t417 _ ?side1 ?side2 A13.out).mono ?_); (case side1 => repeat (first | exact (Kd.C_below HR0.out HB.out) | (with_reducible refine Kd.C_alloc ?_ _) | (with_reducible refine Kd.C_drewN ?_ _) | (with_reducible refine Kd.C_drew ?_))); (case side2 => exact HC0.out); rintro e w22 ⟨rfl, hb⟩; refine ⟨_, rfl, ?_⟩; have n0_ := Aside0.mk (Kd.R_below (by (with_reducible repeat (first | apply Kd.R_alloc | apply Kd.R_drewN | apply Kd.R_drew)); exact HO416.out) hb); have n1_ := Aside0.mk (below_step (by repeat (first | (with_reducible first | exact HB.out | apply below_alloc | apply pw_below_drewN | apply below_drew1) | exact HB.out)) hb); clear HO416; clear HB; have HO416 := n0_; have HB := n1_; clear n0_ n1_; (try clear hb); (try clear hb2); (try clear hk); (try clear hi); obtain ⟨Ao23, co23, eo23⟩ := Kd.R_slice HO416.out; subst eo23; have p418 : 0 ≤ (t417 : Int) := of_decide_eq_true (by first | (with_reducible assumption) | assumption); have q418 : t417 < (t414.length : Int) := of_decide_eq_true (by first | (with_reducible assumption) | assumption); obtain ⟨ad418, e418, hx418_0, hx418_1⟩ := at_T25 (Kd.R_reads' HO416.out).2.2 t417 p418 q418; cases e418; replace p418 := eq_true p418; replace q418 := eq_true q418) | ((with_reducible refine gate_dst (N := 6) rfl ?_); (try (refine gate_guard (by rfl) ?_; dsimp only)); refine box_event ?hg (N := 6) ?hd (cs := #[.int .i64 0, .int .i64 0]) (t := 25) ?hr ?_; (case hd => rfl); (case hg => rfl); (case hr => first | (go_simp; done) | (go_simp; rfl)); intro gb419 hg w24 hbox hb; have n0_ := Aside0.mk (Kd.R_below (Kd.R_elderB (by (with_reducible repeat (first | apply Kd.R_alloc | apply Kd.R_drewN | apply Kd.R_drew)); exact HO416.out) gb419 (Nat.le_of_eq hg.symm)) hb); have n1_ := Aside0.mk (below_step (by repeat (first | (with_reducible first | exact HB.out | apply below_alloc | apply pw_below_drewN | apply below_drew1) | exact HB.out)) hb); have n2_ := Aside0.mk (hbox); have n3_ := Aside0.mk ((by rw [hg]; exact (below_size (by repeat (first | (with_reducible first | exact HB.out | apply below_alloc | apply pw_below_drewN | apply below_drew1) | exact HB.out))) : w.heap.size ≤ gb419)); have n4_ := Aside0.mk ((by rw [hg]; exact (below_size (by repeat (first | (with_reducible first | exact HB.out | apply below_alloc | apply pw_below_drewN | apply below_drew1) | exact HB.out))) : w.heap.size ≤ gb419)); clear HO416; clear HB; have HO416 := n0_; have HB := n1_; have BK419 := n2_; have GW419 := n3_; have GE419 := n4_; clear n0_ n1_ n2_ n3_ n4_; clear hb hbox hg; have hcz25_0 : w24.cell? ⟨gb419, 0, none⟩ = some (.int .i64 0) := (blk_cell BK419.out 0).trans rfl; have hcz25_1 : w24.cell? ⟨gb419, 1, none⟩ = some (.int .i64 0) := (blk_cell BK419.out 1).trans rfl; have hfz25_0 := blk_frozen BK419.out 0; have hfz25_1 := blk_frozen BK419.out 1) | ((with_reducible refine gate_callee (f := 13) rfl ?_); refine goesL_ (some 30) rfl rfl Try.func13 (by kernel_rfl) rfl #[.slice A0 l0.length c0, .int .i64 t413, .int .u8 108] rfl (by (try simp only [List.map_toArray, List.map_cons, List.map_nil]); first | done | rfl | (simp only [List.length_drop, List.length_take]; rfl)) ?_; (with_reducible refine (object_Inner.calls kj2 _ _ l0 t413 108 t420 t421 t422 t423 _ ?side1 ?side2 A16.out).mono ?_); (case side1 => exact Kd.C_below HR0.out (by repeat (first | (with_reducible first | exact HB.out | apply below_alloc | apply pw_below_drewN | apply below_drew1 | refine below_set ?_ GE419.out) | exact HB.out))); (case side2 => exact HC0.out); rintro e w26 ⟨rfl, hb⟩; refine ⟨_, rfl, ?_⟩; have n0_ := Aside0.mk (Kd.R_below (by (with_reducible repeat (first | apply Kd.R_alloc | apply Kd.R_drewN | apply Kd.R_drew)); exact (Kd.R_mono (Kd.R_far (p := ⟨gb419, 1, none⟩) (Kd.R_far (p := ⟨gb419, 0, none⟩) (Kd.R_mono HO416.out (fun k_ hk => (⟨hk, hk.2⟩ : _ ∧ k_ ≠ gb419))) (fun _ hk => hk.2) (.int .i64 ((rd_T25 t414 t417).f0))) (fun _ hk => hk.2) (.int .i64 ((rd_T25 t414 t417).f1))) (fun _ h_ => h_.1))) hb); have n1_ := Aside0.mk (blk_below (g := gb419) (o := .cells #[.int .i64 ((rd_T25 t414 t417).f0), .int .i64 ((rd_T25 t414 t417).f1)] 25 (0, 0)) (by (with_reducible repeat (first | refine blk_drewN ?_ _ | refine blk_drew ?_ | refine blk_alloc ?_ _)); refine blk_put (cs := #[.int .i64 ((rd_T25 t414 t417).f0), .int .i64 0]) ?_ 1 _ rfl; (with_reducible repeat (first | refine blk_drewN ?_ _ | refine blk_drew ?_ | refine blk_alloc ?_ _)); refine blk_put (cs := #[.int .i64 0, .int .i64 0]) ?_ 0 _ rfl; (with_reducible repeat (first | refine blk_drewN ?_ _ | refine blk_drew ?_ | refine blk_alloc ?_ _)); exact BK419.out) hb); have n2_ := Aside0.mk (below_step (by repeat (first | (with_reducible first | exact HB.out | apply below_alloc | apply pw_below_drewN | apply below_drew1 | refine below_set ?_ GE419.out) | exact HB.out)) hb); clear HO416; clear BK419; clear HB; have HO416 := n0_; have BK419 := n1_; have HB := n2_; clear n0_ n1_ n2_; (try clear hb); (try clear hb2); (try clear hk); (try clear hi)) | ((with_reducible refine gate_dst (N := 7) rfl ?_); (try (refine gate_guard (by rfl) ?_; dsimp only)); refine box_event ?hg (N := 7) ?hd (cs := #[.int .i64 0, .int .i64 0, .bool false]) (t := 27) ?hr ?_; (case hd => rfl); (case hg => rfl); (case hr => first | (go_simp; done) | (go_simp; rfl)); intro gb424 hg w27 hbox hb; have n0_ := Aside0.mk (Kd.R_below (by (with_reducible repeat (first | apply Kd.R_alloc | apply Kd.R_drewN | apply Kd.R_drew)); exact HO416.out) hb); have n1_ := Aside0.mk (blk_below (g := gb419) (o := .cells #[.int .i64 ((rd_T25 t414 t417).f0), .int .i64 ((rd_T25 t414 t417).f1)] 25 (0, 0)) (by (with_reducible repeat (first | refine blk_drewN ?_ _ | refine blk_drew ?_ | refine blk_alloc ?_ _)); exact BK419.out) hb); have n2_ := Aside0.mk (below_step (by repeat (first | (with_reducible first | exact HB.out | apply below_alloc | apply pw_below_drewN | apply below_drew1 | refine below_set ?_ GE419.out) | exact HB.out)) hb); have n3_ := Aside0.mk (hbox); have n4_ := Aside0.mk ((by rw [hg]; exact (below_size (by repeat (first | (with_reducible first | exact HB.out | apply below_alloc | apply pw_below_drewN | apply below_drew1 | refine below_set ?_ GE419.out) | exact HB.out))) : w.heap.size ≤ gb424)); have n5_ := Aside0.mk ((by rw [hg]; exact (below_size (by repeat (first | (with_reducible first | exact HB.out | apply below_alloc | apply pw_below_drewN | apply below_drew1 | refine below_set ?_ GE419.out) | exact HB.out))) : w.heap.size ≤ gb424)); have n6_ := Aside0.mk ((by rw [hg]; exact Nat.ne_of_lt (blk_lt (g := gb419) (o := .cells #[.int .i64 ((rd_T25 t414 t417).f0), .int .i64 ((rd_T25 t414 t417).f1)] 25 (0, 0)) (by (with_reducible repeat (first | refine blk_drewN ?_ _ | refine blk_drew ?_ | refine blk_alloc ?_ _)); exact BK419.out)) : gb419 ≠ gb424)); have n7_ := Aside0.mk ((by rw [hg]; exact Nat.ne_of_gt (blk_lt (g := gb419) (o := .cells #[.int .i64 ((rd_T25 t414 t417).f0), .int .i64 ((rd_T25 t414 t417).f1)] 25 (0, 0)) (by (with_reducible repeat (first | refine blk_drewN ?_ _ | refine blk_drew ?_ | refine blk_alloc ?_ _)); exact BK419.out)) : gb424 ≠ gb419)); clear HO416; clear BK419; clear HB; have HO416 := n0_; have BK419 := n1_; have HB := n2_; have BK424 := n3_; have GW424 := n4_; have GE424 := n5_; have NB419_424 := n6_; have NB424_419 := n7_; clear n0_ n1_ n2_ n3_ n4_ n5_ n6_ n7_; clear hb hbox hg; have hnb28 := NB424_419.out; have hnc28 := NB419_424.out; have hcz29_0 : w27.cell? ⟨gb424, 0, none⟩ = some (.int .i64 0) := (blk_cell BK424.out 0).trans rfl; have hcz29_1 : w27.cell? ⟨gb424, 1, none⟩ = some (.int .i64 0) := (blk_cell BK424.out 1).trans rfl; have hcz29_2 : w27.cell? ⟨gb424, 2, none⟩ = some (.bool false) := (blk_cell BK424.out 2).trans rfl; have hfz29_0 := blk_frozen BK424.out 0; have hfz29_1 := blk_frozen BK424.out 1; have hfz29_2 := blk_frozen BK424.out 2) | ((with_reducible refine gate_store (t := 27) (p := 7) rfl ?_); refine store_event (t := 27) (p := 7) (v := ?vo_w30) (w1 := (((w27.setCell ⟨gb424, 0, none⟩ (.int .i64 t420)).setCell ⟨gb424, 1, none⟩ (.int .i64 t421)).setCell ⟨gb424, 2, none⟩ (.bool t422))) ?hg ?ho ?hn ?hr ?_; (case ho => rfl); (case hg => rfl); (case hn => rfl); (case hr => first | (go_simp; done) | (go_simp; rfl)); intro w30 hw; have n0_ : Aside0 (Kd.R k25 25 w30 w.heap.size (fun k_ => k_ ≠ gb419) (.slice (some ad418) t414.length co23) t414) := ⟨(by rw [hw]; exact (by (with_reducible repeat (first | apply Kd.R_alloc | apply Kd.R_drewN | apply Kd.R_drew)); exact Kd.R_mono (Kd.R_far (p := ⟨gb424, 2, none⟩) (Kd.R_far (p := ⟨gb424, 1, none⟩) (Kd.R_far (p := ⟨gb424, 0, none⟩) (Kd.R_types HO416.out BK424.out (by decide)) (fun _ hk => hk.2) (.int .i64 t420)) (fun _ hk => hk.2) (.int .i64 t421)) (fun _ hk => hk.2) (.bool t422)) (fun _ hk => hk.1.2)))⟩; have n1_ : Aside0 (w30.heap[gb419]? = some (.cells #[.int .i64 ((rd_T25 t414 t417).f0), .int .i64 ((rd_T25 t414 t417).f1)] 25 (0, 0))) := ⟨(by rw [hw]; exact (by (with_reducible repeat (first | refine blk_drewN ?_ _ | refine blk_drew ?_ | refine blk_alloc ?_ _)); refine blk_far ?_ NB419_424.out _; (with_reducible repeat (first | refine blk_drewN ?_ _ | refine blk_drew ?_ | refine blk_alloc ?_ _)); refine blk_far ?_ NB419_424.out _; (with_reducible repeat (first | refine blk_drewN ?_ _ | refine blk_drew ?_ | refine blk_alloc ?_ _)); refine blk_far ?_ NB419_424.out _; (with_reducible repeat (first | refine blk_drewN ?_ _ | refine blk_drew ?_ | refine blk_alloc ?_ _)); exact BK419.out))⟩; have n2_ : Aside0 (w30.heap[gb424]? = some (.cells #[.int .i64 t420, .int .i64 t421, .bool t422] 27 (0, 0))) := ⟨(by rw [hw]; exact (by (with_reducible repeat (first | refine blk_drewN ?_ _ | refine blk_drew ?_ | refine blk_alloc ?_ _)); refine blk_put (cs := #[.int .i64 t420, .int .i64 t421, .bool false]) ?_ 2 _ rfl; (with_reducible repeat (first | refine blk_drewN ?_ _ | refine blk_drew ?_ | refine blk_alloc ?_ _)); refine blk_put (cs := #[.int .i64 t420, .int .i64 0, .bool false]) ?_ 1 _ rfl; (with_reducible repeat (first | refine blk_drewN ?_ _ | refine blk_drew ?_ | refine blk_alloc ?_ _)); refine blk_put (cs := #[.int .i64 0, .int .i64 0, .bool false]) ?_ 0 _ rfl; (with_reducible repeat (first | refine blk_drewN ?_ _ | refine blk_drew ?_ | refine blk_alloc ?_ _)); exact BK424.out))⟩; have n3_ : Aside0 (Below w.heap.size w w30) := ⟨(by rw [hw]; exact (by repeat (first | (with_reducible first | exact HB.out | apply below_alloc | apply pw_below_drewN | apply below_drew1 | refine below_set ?_ GE419.out | refine below_set ?_ GE424.out) | exact HB.out)))⟩; clear hw; clear HO416; clear BK419; clear BK424; clear HB; have HO416 := n0_; have BK419 := n1_; have BK424 := n2_; have HB := n3_; clear n0_ n1_ n2_ n3_; have hcz31_0 : w30.cell? ⟨gb419, 0, none⟩ = some (.int .i64 ((rd_T25 t414 t417).f0)) := (blk_cell BK419.out 0).trans rfl; have hcz31_1 : w30.cell? ⟨gb419, 1, none⟩ = some (.int .i64 ((rd_T25 t414 t417).f1)) := (blk_cell BK419.out 1).trans rfl; have hfz31_0 := blk_frozen BK419.out 0; have hfz31_1 := blk_frozen BK419.out 1) | ((with_reducible refine gate_callee (f := 20) rfl ?_); refine goesL_ (some 35) rfl rfl Try.func20 (by kernel_rfl) rfl #[.slice A0 l0.length c0, .agg #[.int .i64 ((rd_T25 t414 t417).f0), .int .i64 ((rd_T25 t414 t417).f1)]] rfl (by (try simp only [List.map_toArray, List.map_cons, List.map_nil]); first | done | rfl | (simp only [List.length_drop, List.length_take]; rfl)) ?_; (with_reducible refine (platenref03_Text.calls (fun k_ => k_ < w.heap.size) _ _ l0 ((rd_T25 t414 t417).f0) ((rd_T25 t414 t417).f1) t425 _ ?side1 A17.out).mono ?_); (case side1 => exact Kd.V_mk HC0.out (Kd.F_below (Kd.C_F (Kd.heap_int .u8) HR0.out) (by repeat (first | (with_reducible first | exact HB.out | apply below_alloc | apply pw_below_drewN | apply below_drew1 | refine below_set ?_ GE419.out | refine below_set ?_ GE424.out) | exact HB.out)))); rintro e w32 ⟨v426, rfl, ho0, hb⟩; refine ⟨_, rfl, ?_⟩; have n0_ := Aside0.mk (Kd.R_below (by (with_reducible repeat (first | apply Kd.R_alloc | apply Kd.R_drewN | apply Kd.R_drew)); exact HO416.out) hb); have n1_ := Aside0.mk (Kd.V_lower (Kd.V_mono (ok' := fun k_ => some k_ ≠ (.slice (some ad418) t414.length co23 : Value).ownBlock ∧ k_ ≠ gb419 ∧ k_ ≠ gb424) ho0 (fun k_ hk_ => ⟨Or.elim hk_ (fun hs_ => fun e_ => Nat.not_le.2 hs_ (Kd.R_base HO416.out k_ e_.symm)) (fun hn_ => (Kd.fresh' (Kd.R_lt (by (with_reducible repeat (first | apply Kd.R_alloc | apply Kd.R_drewN | apply Kd.R_drew)); exact HO416.out)) k_ hn_)), Or.elim hk_ (fun hs_ => fun e_ => Nat.not_le.2 hs_ (by rw [e_]; exact GW419.out)) (fun hn_ => (Kd.freshB (g := gb419) (o := .cells #[.int .i64 ((rd_T25 t414 t417).f0), .int .i64 ((rd_T25 t414 t417).f1)] 25 (0, 0)) (by (with_reducible repeat (first | refine blk_drewN ?_ _ | refine blk_drew ?_ | refine blk_alloc ?_ _)); exact BK419.out) k_ hn_)), Or.elim hk_ (fun hs_ => fun e_ => Nat.not_le.2 hs_ (by rw [e_]; exact GW424.out)) (fun hn_ => (Kd.freshB (g := gb424) (o := .cells #[.int .i64 t420, .int .i64 t421, .bool t422] 27 (0, 0)) (by (with_reducible repeat (first | refine blk_drewN ?_ _ | refine blk_drew ?_ | refine blk_alloc ?_ _)); exact BK424.out) k_ hn_))⟩)) (below_size (by repeat (first | (with_reducible first | exact HB.out | apply below_alloc | apply pw_below_drewN | apply below_drew1 | refine below_set ?_ GE419.out | refine below_set ?_ GE424.out) | exact HB.out)))); have n2_ := Aside0.mk (blk_below (g := gb419) (o := .cells #[.int .i64 ((rd_T25 t414 t417).f0), .int .i64 ((rd_T25 t414 t417).f1)] 25 (0, 0)) (by (with_reducible repeat (first | refine blk_drewN ?_ _ | refine blk_drew ?_ | refine blk_alloc ?_ _)); exact BK419.out) hb); have n3_ := Aside0.mk (blk_below (g := gb424) (o := .cells #[.int .i64 t420, .int .i64 t421, .bool t422] 27 (0, 0)) (by (with_reducible repeat (first | refine blk_drewN ?_ _ | refine blk_drew ?_ | refine blk_alloc ?_ _)); exact BK424.out) hb); have n4_ := Aside0.mk (below_step (by repeat (first | (with_reducible first | exact HB.out | apply below_alloc | apply pw_below_drewN | apply below_drew1 | refine below_set ?_ GE419.out | refine below_set ?_ GE424.out) | exact HB.out)) hb); clear HO416; clear BK419; clear BK424; clear HB; have HO416 := n0_; have HO427 := n1_; have BK419 := n2_; have BK424 := n3_; have HB := n4_; clear n0_ n1_ n2_ n3_ n4_; (try clear hb); (try clear hb2); (try clear hk); (try clear hi); (try clear ho0); obtain ⟨Ao33, co33, eo33⟩ := Kd.V_slice HO427.out; subst eo33) | ((with_reducible refine gate_callee (f := 19) rfl ?_); refine goesL_ (some 36) rfl rfl Try.func19 (by kernel_rfl) rfl #[.slice Ao33 t425.length co33] rfl (by (try simp only [List.map_toArray, List.map_cons, List.map_nil]); first | done | rfl | (simp only [List.length_drop, List.length_take]; rfl)) ?_; (with_reducible refine (platenref03_Bare.calls kj2 _ _ t425 true _ ?side1 ?side2 A18.out).mono ?_); (case side1 => repeat (first | exact (Kd.V_reads' HO427.out).2.2 | (with_reducible refine Kd.C_alloc ?_ _) | (with_reducible refine Kd.C_drewN ?_ _) | (with_reducible refine Kd.C_drew ?_))); (case side2 => exact (Kd.V_reads' HO427.out).2.1); rintro e w' ⟨rfl, ⟨nd, rfl⟩⟩; refine ⟨_, rfl, ?_⟩; have hcz34_0 : w32.cell? ⟨gb424, 0, none⟩ = some (.int .i64 t420) := (blk_cell BK424.out 0).trans rfl; have hcz34_1 : w32.cell? ⟨gb424, 1, none⟩ = some (.int .i64 t421) := (blk_cell BK424.out 1).trans rfl; have hcz34_2 : w32.cell? ⟨gb424, 2, none⟩ = some (.bool t422) := (blk_cell BK424.out 2).trans rfl; have hfz34_0 := blk_frozen BK424.out 0; have hfz34_1 := blk_frozen BK424.out 1; have hfz34_2 := blk_frozen BK424.out 2))
                go_ret
                exact ⟨by first | rfl | (simp [errW_none, errW_some] <;> rfl) | (simp [*, errW_none, errW_some] <;> rfl), by repeat (first | (with_reducible first | exact HB.out | apply below_alloc | apply pw_below_drewN | apply below_drew1 | refine below_set ?_ GE419.out | refine below_set ?_ GE424.out) | exact HB.out)⟩
              · rw [if_neg c20] at H
                have c20b0 : (t423 == 2) = false := beq_eq_false_iff_ne.mpr c20
                have c20b1 : (t423 != 2) = true := bne_iff_ne.mpr c20
                obtain rfl := Option.some.inj H
                go_wp2_with (first | ((with_reducible refine gate_callee (f := 14) rfl ?_); refine goesL_ (some 19) rfl rfl Try.func14 (by kernel_rfl) rfl #[.slice A0 l0.length c0, .int .u8 a1] rfl (by (try simp only [List.map_toArray, List.map_cons, List.map_nil]); first | done | rfl | (simp only [List.length_drop, List.length_take]; rfl)) ?_; (with_reducible refine (platenlaw20_place.calls _ _ l0 a1 t413 _ ?side1 ?side2 A11.out).mono ?_); (case side1 => repeat (first | exact (Kd.C_below HR0.out HB.out) | (with_reducible refine Kd.C_alloc ?_ _) | (with_reducible refine Kd.C_drewN ?_ _) | (with_reducible refine Kd.C_drew ?_))); (case side2 => exact HC0.out); rintro e w' ⟨rfl, ⟨nd, rfl⟩⟩; refine ⟨_, rfl, ?_⟩; (try (rw [drewN_self wc]; generalize hq_ : World.drewN wc _ = wc; have n0_ : Aside0 (Below w.heap.size w wc) := ⟨by rw [← hq_]; exact (by repeat (first | (with_reducible first | exact HB.out | apply below_alloc | apply pw_below_drewN | apply below_drew1) | exact HB.out))⟩; clear HB hq_; have HB := n0_; clear n0_))) | ((with_reducible refine gate_callee (f := 17) rfl ?_); refine goesL_ (some 21) rfl rfl Try.func17 (by kernel_rfl) rfl #[.slice A0 l0.length c0] rfl (by (try simp only [List.map_toArray, List.map_cons, List.map_nil]); first | done | rfl | (simp only [List.length_drop, List.length_take]; rfl)) ?_; (with_reducible refine (platenref03_Spans.calls kj2 _ _ l0 t414 _ ?side1 ?side2 A12.out).mono ?_); (case side1 => repeat (first | exact (Kd.C_below HR0.out HB.out) | (with_reducible refine Kd.C_alloc ?_ _) | (with_reducible refine Kd.C_drewN ?_ _) | (with_reducible refine Kd.C_drew ?_))); (case side2 => exact HC0.out); rintro e w35 ⟨v415, rfl, ho0, hb⟩; refine ⟨_, rfl, ?_⟩; have n0_ := Aside0.mk (Kd.R_lower ho0 (below_size (by repeat (first | (with_reducible first | exact HB.out | apply below_alloc | apply pw_below_drewN | apply below_drew1) | exact HB.out)))); have n1_ := Aside0.mk (below_step (by repeat (first | (with_reducible first | exact HB.out | apply below_alloc | apply pw_below_drewN | apply below_drew1) | exact HB.out)) hb); clear HB; have HO416 := n0_; have HB := n1_; clear n0_ n1_; (try clear hb); (try clear hb2); (try clear hk); (try clear hi); (try clear ho0)) | ((with_reducible refine gate_callee (f := 18) rfl ?_); refine goesL_ (some 24) rfl rfl Try.func18 (by kernel_rfl) rfl #[.slice A0 l0.length c0, .int .i64 t413] rfl (by (try simp only [List.map_toArray, List.map_cons, List.map_nil]); first | done | rfl | (simp only [List.length_drop, List.length_take]; rfl)) ?_; (with_reducible refine (platenref03_Of.calls kj2 _ _ l0 t413 t417 _ ?side1 ?side2 A13.out).mono ?_); (case side1 => repeat (first | exact (Kd.C_below HR0.out HB.out) | (with_reducible refine Kd.C_alloc ?_ _) | (with_reducible refine Kd.C_drewN ?_ _) | (with_reducible refine Kd.C_drew ?_))); (case side2 => exact HC0.out); rintro e w36 ⟨rfl, hb⟩; refine ⟨_, rfl, ?_⟩; have n0_ := Aside0.mk (Kd.R_below (by (with_reducible repeat (first | apply Kd.R_alloc | apply Kd.R_drewN | apply Kd.R_drew)); exact HO416.out) hb); have n1_ := Aside0.mk (below_step (by repeat (first | (with_reducible first | exact HB.out | apply below_alloc | apply pw_below_drewN | apply below_drew1) | exact HB.out)) hb); clear HO416; clear HB; have HO416 := n0_; have HB := n1_; clear n0_ n1_; (try clear hb); (try clear hb2); (try clear hk); (try clear hi); obtain ⟨Ao37, co37, eo37⟩ := Kd.R_slice HO416.out; subst eo37; have p418 : 0 ≤ (t417 : Int) := of_decide_eq_true (by first | (with_reducible assumption) | assumption); have q418 : t417 < (t414.length : Int) := of_decide_eq_true (by first | (with_reducible assumption) | assumption); obtain ⟨ad418, e418, hx418_0, hx418_1⟩ := at_T25 (Kd.R_reads' HO416.out).2.2 t417 p418 q418; cases e418; replace p418 := eq_true p418; replace q418 := eq_true q418) | ((with_reducible refine gate_dst (N := 6) rfl ?_); (try (refine gate_guard (by rfl) ?_; dsimp only)); refine box_event ?hg (N := 6) ?hd (cs := #[.int .i64 0, .int .i64 0]) (t := 25) ?hr ?_; (case hd => rfl); (case hg => rfl); (case hr => first | (go_simp; done) | (go_simp; rfl)); intro gb419 hg w38 hbox hb; have n0_ := Aside0.mk (Kd.R_below (Kd.R_elderB (by (with_reducible repeat (first | apply Kd.R_alloc | apply Kd.R_drewN | apply Kd.R_drew)); exact HO416.out) gb419 (Nat.le_of_eq hg.symm)) hb); have n1_ := Aside0.mk (below_step (by repeat (first | (with_reducible first | exact HB.out | apply below_alloc | apply pw_below_drewN | apply below_drew1) | exact HB.out)) hb); have n2_ := Aside0.mk (hbox); have n3_ := Aside0.mk ((by rw [hg]; exact (below_size (by repeat (first | (with_reducible first | exact HB.out | apply below_alloc | apply pw_below_drewN | apply below_drew1) | exact HB.out))) : w.heap.size ≤ gb419)); have n4_ := Aside0.mk ((by rw [hg]; exact (below_size (by repeat (first | (with_reducible first | exact HB.out | apply below_alloc | apply pw_below_drewN | apply below_drew1) | exact HB.out))) : w.heap.size ≤ gb419)); clear HO416; clear HB; have HO416 := n0_; have HB := n1_; have BK419 := n2_; have GW419 := n3_; have GE419 := n4_; clear n0_ n1_ n2_ n3_ n4_; clear hb hbox hg; have hcz39_0 : w38.cell? ⟨gb419, 0, none⟩ = some (.int .i64 0) := (blk_cell BK419.out 0).trans rfl; have hcz39_1 : w38.cell? ⟨gb419, 1, none⟩ = some (.int .i64 0) := (blk_cell BK419.out 1).trans rfl; have hfz39_0 := blk_frozen BK419.out 0; have hfz39_1 := blk_frozen BK419.out 1) | ((with_reducible refine gate_callee (f := 13) rfl ?_); refine goesL_ (some 30) rfl rfl Try.func13 (by kernel_rfl) rfl #[.slice A0 l0.length c0, .int .i64 t413, .int .u8 108] rfl (by (try simp only [List.map_toArray, List.map_cons, List.map_nil]); first | done | rfl | (simp only [List.length_drop, List.length_take]; rfl)) ?_; (with_reducible refine (object_Inner.calls kj2 _ _ l0 t413 108 t420 t421 t422 t423 _ ?side1 ?side2 A16.out).mono ?_); (case side1 => exact Kd.C_below HR0.out (by repeat (first | (with_reducible first | exact HB.out | apply below_alloc | apply pw_below_drewN | apply below_drew1 | refine below_set ?_ GE419.out) | exact HB.out))); (case side2 => exact HC0.out); rintro e w40 ⟨rfl, hb⟩; refine ⟨_, rfl, ?_⟩; have n0_ := Aside0.mk (Kd.R_below (by (with_reducible repeat (first | apply Kd.R_alloc | apply Kd.R_drewN | apply Kd.R_drew)); exact (Kd.R_mono (Kd.R_far (p := ⟨gb419, 1, none⟩) (Kd.R_far (p := ⟨gb419, 0, none⟩) (Kd.R_mono HO416.out (fun k_ hk => (⟨hk, hk.2⟩ : _ ∧ k_ ≠ gb419))) (fun _ hk => hk.2) (.int .i64 ((rd_T25 t414 t417).f0))) (fun _ hk => hk.2) (.int .i64 ((rd_T25 t414 t417).f1))) (fun _ h_ => h_.1))) hb); have n1_ := Aside0.mk (blk_below (g := gb419) (o := .cells #[.int .i64 ((rd_T25 t414 t417).f0), .int .i64 ((rd_T25 t414 t417).f1)] 25 (0, 0)) (by (with_reducible repeat (first | refine blk_drewN ?_ _ | refine blk_drew ?_ | refine blk_alloc ?_ _)); refine blk_put (cs := #[.int .i64 ((rd_T25 t414 t417).f0), .int .i64 0]) ?_ 1 _ rfl; (with_reducible repeat (first | refine blk_drewN ?_ _ | refine blk_drew ?_ | refine blk_alloc ?_ _)); refine blk_put (cs := #[.int .i64 0, .int .i64 0]) ?_ 0 _ rfl; (with_reducible repeat (first | refine blk_drewN ?_ _ | refine blk_drew ?_ | refine blk_alloc ?_ _)); exact BK419.out) hb); have n2_ := Aside0.mk (below_step (by repeat (first | (with_reducible first | exact HB.out | apply below_alloc | apply pw_below_drewN | apply below_drew1 | refine below_set ?_ GE419.out) | exact HB.out)) hb); clear HO416; clear BK419; clear HB; have HO416 := n0_; have BK419 := n1_; have HB := n2_; clear n0_ n1_ n2_; (try clear hb); (try clear hb2); (try clear hk); (try clear hi)) | ((with_reducible refine gate_dst (N := 7) rfl ?_); (try (refine gate_guard (by rfl) ?_; dsimp only)); refine box_event ?hg (N := 7) ?hd (cs := #[.int .i64 0, .int .i64 0, .bool false]) (t := 27) ?hr ?_; (case hd => rfl); (case hg => rfl); (case hr => first | (go_simp; done) | (go_simp; rfl)); intro gb424 hg w41 hbox hb; have n0_ := Aside0.mk (Kd.R_below (by (with_reducible repeat (first | apply Kd.R_alloc | apply Kd.R_drewN | apply Kd.R_drew)); exact HO416.out) hb); have n1_ := Aside0.mk (blk_below (g := gb419) (o := .cells #[.int .i64 ((rd_T25 t414 t417).f0), .int .i64 ((rd_T25 t414 t417).f1)] 25 (0, 0)) (by (with_reducible repeat (first | refine blk_drewN ?_ _ | refine blk_drew ?_ | refine blk_alloc ?_ _)); exact BK419.out) hb); have n2_ := Aside0.mk (below_step (by repeat (first | (with_reducible first | exact HB.out | apply below_alloc | apply pw_below_drewN | apply below_drew1 | refine below_set ?_ GE419.out) | exact HB.out)) hb); have n3_ := Aside0.mk (hbox); have n4_ := Aside0.mk ((by rw [hg]; exact (below_size (by repeat (first | (with_reducible first | exact HB.out | apply below_alloc | apply pw_below_drewN | apply below_drew1 | refine below_set ?_ GE419.out) | exact HB.out))) : w.heap.size ≤ gb424)); have n5_ := Aside0.mk ((by rw [hg]; exact (below_size (by repeat (first | (with_reducible first | exact HB.out | apply below_alloc | apply pw_below_drewN | apply below_drew1 | refine below_set ?_ GE419.out) | exact HB.out))) : w.heap.size ≤ gb424)); have n6_ := Aside0.mk ((by rw [hg]; exact Nat.ne_of_lt (blk_lt (g := gb419) (o := .cells #[.int .i64 ((rd_T25 t414 t417).f0), .int .i64 ((rd_T25 t414 t417).f1)] 25 (0, 0)) (by (with_reducible repeat (first | refine blk_drewN ?_ _ | refine blk_drew ?_ | refine blk_alloc ?_ _)); exact BK419.out)) : gb419 ≠ gb424)); have n7_ := Aside0.mk ((by rw [hg]; exact Nat.ne_of_gt (blk_lt (g := gb419) (o := .cells #[.int .i64 ((rd_T25 t414 t417).f0), .int .i64 ((rd_T25 t414 t417).f1)] 25 (0, 0)) (by (with_reducible repeat (first | refine blk_drewN ?_ _ | refine blk_drew ?_ | refine blk_alloc ?_ _)); exact BK419.out)) : gb424 ≠ gb419)); clear HO416; clear BK419; clear HB; have HO416 := n0_; have BK419 := n1_; have HB := n2_; have BK424 := n3_; have GW424 := n4_; have GE424 := n5_; have NB419_424 := n6_; have NB424_419 := n7_; clear n0_ n1_ n2_ n3_ n4_ n5_ n6_ n7_; clear hb hbox hg; have hnb42 := NB424_419.out; have hnc42 := NB419_424.out; have hcz43_0 : w41.cell? ⟨gb424, 0, none⟩ = some (.int .i64 0) := (blk_cell BK424.out 0).trans rfl; have hcz43_1 : w41.cell? ⟨gb424, 1, none⟩ = some (.int .i64 0) := (blk_cell BK424.out 1).trans rfl; have hcz43_2 : w41.cell? ⟨gb424, 2, none⟩ = some (.bool false) := (blk_cell BK424.out 2).trans rfl; have hfz43_0 := blk_frozen BK424.out 0; have hfz43_1 := blk_frozen BK424.out 1; have hfz43_2 := blk_frozen BK424.out 2) | ((with_reducible refine gate_store (t := 27) (p := 7) rfl ?_); refine store_event (t := 27) (p := 7) (v := ?vo_w44) (w1 := (((w41.setCell ⟨gb424, 0, none⟩ (.int .i64 t420)).setCell ⟨gb424, 1, none⟩ (.int .i64 t421)).setCell ⟨gb424, 2, none⟩ (.bool t422))) ?hg ?ho ?hn ?hr ?_; (case ho => rfl); (case hg => rfl); (case hn => rfl); (case hr => first | (go_simp; done) | (go_simp; rfl)); intro w44 hw; have n0_ : Aside0 (Kd.R k25 25 w44 w.heap.size (fun k_ => k_ ≠ gb419) (.slice (some ad418) t414.length co37) t414) := ⟨(by rw [hw]; exact (by (with_reducible repeat (first | apply Kd.R_alloc | apply Kd.R_drewN | apply Kd.R_drew)); exact Kd.R_mono (Kd.R_far (p := ⟨gb424, 2, none⟩) (Kd.R_far (p := ⟨gb424, 1, none⟩) (Kd.R_far (p := ⟨gb424, 0, none⟩) (Kd.R_types HO416.out BK424.out (by decide)) (fun _ hk => hk.2) (.int .i64 t420)) (fun _ hk => hk.2) (.int .i64 t421)) (fun _ hk => hk.2) (.bool t422)) (fun _ hk => hk.1.2)))⟩; have n1_ : Aside0 (w44.heap[gb419]? = some (.cells #[.int .i64 ((rd_T25 t414 t417).f0), .int .i64 ((rd_T25 t414 t417).f1)] 25 (0, 0))) := ⟨(by rw [hw]; exact (by (with_reducible repeat (first | refine blk_drewN ?_ _ | refine blk_drew ?_ | refine blk_alloc ?_ _)); refine blk_far ?_ NB419_424.out _; (with_reducible repeat (first | refine blk_drewN ?_ _ | refine blk_drew ?_ | refine blk_alloc ?_ _)); refine blk_far ?_ NB419_424.out _; (with_reducible repeat (first | refine blk_drewN ?_ _ | refine blk_drew ?_ | refine blk_alloc ?_ _)); refine blk_far ?_ NB419_424.out _; (with_reducible repeat (first | refine blk_drewN ?_ _ | refine blk_drew ?_ | refine blk_alloc ?_ _)); exact BK419.out))⟩; have n2_ : Aside0 (w44.heap[gb424]? = some (.cells #[.int .i64 t420, .int .i64 t421, .bool t422] 27 (0, 0))) := ⟨(by rw [hw]; exact (by (with_reducible repeat (first | refine blk_drewN ?_ _ | refine blk_drew ?_ | refine blk_alloc ?_ _)); refine blk_put (cs := #[.int .i64 t420, .int .i64 t421, .bool false]) ?_ 2 _ rfl; (with_reducible repeat (first | refine blk_drewN ?_ _ | refine blk_drew ?_ | refine blk_alloc ?_ _)); refine blk_put (cs := #[.int .i64 t420, .int .i64 0, .bool false]) ?_ 1 _ rfl; (with_reducible repeat (first | refine blk_drewN ?_ _ | refine blk_drew ?_ | refine blk_alloc ?_ _)); refine blk_put (cs := #[.int .i64 0, .int .i64 0, .bool false]) ?_ 0 _ rfl; (with_reducible repeat (first | refine blk_drewN ?_ _ | refine blk_drew ?_ | refine blk_alloc ?_ _)); exact BK424.out))⟩; have n3_ : Aside0 (Below w.heap.size w w44) := ⟨(by rw [hw]; exact (by repeat (first | (with_reducible first | exact HB.out | apply below_alloc | apply pw_below_drewN | apply below_drew1 | refine below_set ?_ GE419.out | refine below_set ?_ GE424.out) | exact HB.out)))⟩; clear hw; clear HO416; clear BK419; clear BK424; clear HB; have HO416 := n0_; have BK419 := n1_; have BK424 := n2_; have HB := n3_; clear n0_ n1_ n2_ n3_; have hcz45_0 : w44.cell? ⟨gb419, 0, none⟩ = some (.int .i64 ((rd_T25 t414 t417).f0)) := (blk_cell BK419.out 0).trans rfl; have hcz45_1 : w44.cell? ⟨gb419, 1, none⟩ = some (.int .i64 ((rd_T25 t414 t417).f1)) := (blk_cell BK419.out 1).trans rfl; have hfz45_0 := blk_frozen BK419.out 0; have hfz45_1 := blk_frozen BK419.out 1) | ((with_reducible refine gate_callee (f := 20) rfl ?_); refine goesL_ (some 35) rfl rfl Try.func20 (by kernel_rfl) rfl #[.slice A0 l0.length c0, .agg #[.int .i64 ((rd_T25 t414 t417).f0), .int .i64 ((rd_T25 t414 t417).f1)]] rfl (by (try simp only [List.map_toArray, List.map_cons, List.map_nil]); first | done | rfl | (simp only [List.length_drop, List.length_take]; rfl)) ?_; (with_reducible refine (platenref03_Text.calls (fun k_ => k_ < w.heap.size) _ _ l0 ((rd_T25 t414 t417).f0) ((rd_T25 t414 t417).f1) t425 _ ?side1 A17.out).mono ?_); (case side1 => exact Kd.V_mk HC0.out (Kd.F_below (Kd.C_F (Kd.heap_int .u8) HR0.out) (by repeat (first | (with_reducible first | exact HB.out | apply below_alloc | apply pw_below_drewN | apply below_drew1 | refine below_set ?_ GE419.out | refine below_set ?_ GE424.out) | exact HB.out)))); rintro e w46 ⟨v426, rfl, ho0, hb⟩; refine ⟨_, rfl, ?_⟩; have n0_ := Aside0.mk (Kd.R_below (by (with_reducible repeat (first | apply Kd.R_alloc | apply Kd.R_drewN | apply Kd.R_drew)); exact HO416.out) hb); have n1_ := Aside0.mk (Kd.V_lower (Kd.V_mono (ok' := fun k_ => some k_ ≠ (.slice (some ad418) t414.length co37 : Value).ownBlock ∧ k_ ≠ gb419 ∧ k_ ≠ gb424) ho0 (fun k_ hk_ => ⟨Or.elim hk_ (fun hs_ => fun e_ => Nat.not_le.2 hs_ (Kd.R_base HO416.out k_ e_.symm)) (fun hn_ => (Kd.fresh' (Kd.R_lt (by (with_reducible repeat (first | apply Kd.R_alloc | apply Kd.R_drewN | apply Kd.R_drew)); exact HO416.out)) k_ hn_)), Or.elim hk_ (fun hs_ => fun e_ => Nat.not_le.2 hs_ (by rw [e_]; exact GW419.out)) (fun hn_ => (Kd.freshB (g := gb419) (o := .cells #[.int .i64 ((rd_T25 t414 t417).f0), .int .i64 ((rd_T25 t414 t417).f1)] 25 (0, 0)) (by (with_reducible repeat (first | refine blk_drewN ?_ _ | refine blk_drew ?_ | refine blk_alloc ?_ _)); exact BK419.out) k_ hn_)), Or.elim hk_ (fun hs_ => fun e_ => Nat.not_le.2 hs_ (by rw [e_]; exact GW424.out)) (fun hn_ => (Kd.freshB (g := gb424) (o := .cells #[.int .i64 t420, .int .i64 t421, .bool t422] 27 (0, 0)) (by (with_reducible repeat (first | refine blk_drewN ?_ _ | refine blk_drew ?_ | refine blk_alloc ?_ _)); exact BK424.out) k_ hn_))⟩)) (below_size (by repeat (first | (with_reducible first | exact HB.out | apply below_alloc | apply pw_below_drewN | apply below_drew1 | refine below_set ?_ GE419.out | refine below_set ?_ GE424.out) | exact HB.out)))); have n2_ := Aside0.mk (blk_below (g := gb419) (o := .cells #[.int .i64 ((rd_T25 t414 t417).f0), .int .i64 ((rd_T25 t414 t417).f1)] 25 (0, 0)) (by (with_reducible repeat (first | refine blk_drewN ?_ _ | refine blk_drew ?_ | refine blk_alloc ?_ _)); exact BK419.out) hb); have n3_ := Aside0.mk (blk_below (g := gb424) (o := .cells #[.int .i64 t420, .int .i64 t421, .bool t422] 27 (0, 0)) (by (with_reducible repeat (first | refine blk_drewN ?_ _ | refine blk_drew ?_ | refine blk_alloc ?_ _)); exact BK424.out) hb); have n4_ := Aside0.mk (below_step (by repeat (first | (with_reducible first | exact HB.out | apply below_alloc | apply pw_below_drewN | apply below_drew1 | refine below_set ?_ GE419.out | refine below_set ?_ GE424.out) | exact HB.out)) hb); clear HO416; clear BK419; clear BK424; clear HB; have HO416 := n0_; have HO427 := n1_; have BK419 := n2_; have BK424 := n3_; have HB := n4_; clear n0_ n1_ n2_ n3_ n4_; (try clear hb); (try clear hb2); (try clear hk); (try clear hi); (try clear ho0); obtain ⟨Ao47, co47, eo47⟩ := Kd.V_slice HO427.out; subst eo47) | ((with_reducible refine gate_callee (f := 19) rfl ?_); refine goesL_ (some 36) rfl rfl Try.func19 (by kernel_rfl) rfl #[.slice Ao47 t425.length co47] rfl (by (try simp only [List.map_toArray, List.map_cons, List.map_nil]); first | done | rfl | (simp only [List.length_drop, List.length_take]; rfl)) ?_; (with_reducible refine (platenref03_Bare.calls kj2 _ _ t425 true _ ?side1 ?side2 A18.out).mono ?_); (case side1 => repeat (first | exact (Kd.V_reads' HO427.out).2.2 | (with_reducible refine Kd.C_alloc ?_ _) | (with_reducible refine Kd.C_drewN ?_ _) | (with_reducible refine Kd.C_drew ?_))); (case side2 => exact (Kd.V_reads' HO427.out).2.1); rintro e w' ⟨rfl, ⟨nd, rfl⟩⟩; refine ⟨_, rfl, ?_⟩))
                go_ret
                exact ⟨by first | rfl | (simp [errW_none, errW_some] <;> rfl) | (simp [*, errW_none, errW_some] <;> rfl), by repeat (first | (with_reducible first | exact HB.out | apply below_alloc | apply pw_below_drewN | apply below_drew1 | refine below_set ?_ GE419.out | refine below_set ?_ GE424.out) | exact HB.out)⟩
            · replace c19 := Bool.eq_false_iff.mpr c19
              subst c19
              have H1 : (if t423 = 0 then (if t422 = true then (platenlaw20_ObjectIndents.j1 kj2 l0 true ((rd_T25 t414 t417).f0) ((rd_T25 t414 t417).f1) t420 t421 t422) else (if t420 < ((rd_T25 t414 t417).f0) then (platenlaw20_ObjectIndents.j1 kj2 l0 true ((rd_T25 t414 t417).f0) ((rd_T25 t414 t417).f1) t420 t421 t422) else (if t421 < 1 then (platenlaw20_ObjectIndents.j1 kj2 l0 true ((rd_T25 t414 t417).f0) ((rd_T25 t414 t417).f1) t420 t421 t422) else (platenlaw20_ObjectIndents.j1 kj2 l0 ((wrap64 (t420 + t421)) != (wrap64 (((rd_T25 t414 t417).f0) + ((rd_T25 t414 t417).f1)))) ((rd_T25 t414 t417).f0) ((rd_T25 t414 t417).f1) t420 t421 t422)))) else (platenlaw20_ObjectIndents.j1 kj2 l0 true ((rd_T25 t414 t417).f0) ((rd_T25 t414 t417).f1) t420 t421 t422)) = some r := by rw [if_neg (show ¬ (false = true) by decide)] at H; exact H
              clear H
              have H := H1
              clear H1
              have HC48 := Aside0.mk H
              clear H
              go_upto_region 8 with (first | ((with_reducible refine gate_callee (f := 14) rfl ?_); refine goesL_ (some 19) rfl rfl Try.func14 (by kernel_rfl) rfl #[.slice A0 l0.length c0, .int .u8 a1] rfl (by (try simp only [List.map_toArray, List.map_cons, List.map_nil]); first | done | rfl | (simp only [List.length_drop, List.length_take]; rfl)) ?_; (with_reducible refine (platenlaw20_place.calls _ _ l0 a1 t413 _ ?side1 ?side2 A11.out).mono ?_); (case side1 => repeat (first | exact (Kd.C_below HR0.out HB.out) | (with_reducible refine Kd.C_alloc ?_ _) | (with_reducible refine Kd.C_drewN ?_ _) | (with_reducible refine Kd.C_drew ?_))); (case side2 => exact HC0.out); rintro e w' ⟨rfl, ⟨nd, rfl⟩⟩; refine ⟨_, rfl, ?_⟩; (try (rw [drewN_self wc]; generalize hq_ : World.drewN wc _ = wc; have n0_ : Aside0 (Below w.heap.size w wc) := ⟨by rw [← hq_]; exact (by repeat (first | (with_reducible first | exact HB.out | apply below_alloc | apply pw_below_drewN | apply below_drew1) | exact HB.out))⟩; clear HB hq_; have HB := n0_; clear n0_))) | ((with_reducible refine gate_callee (f := 17) rfl ?_); refine goesL_ (some 21) rfl rfl Try.func17 (by kernel_rfl) rfl #[.slice A0 l0.length c0] rfl (by (try simp only [List.map_toArray, List.map_cons, List.map_nil]); first | done | rfl | (simp only [List.length_drop, List.length_take]; rfl)) ?_; (with_reducible refine (platenref03_Spans.calls kj2 _ _ l0 t414 _ ?side1 ?side2 A12.out).mono ?_); (case side1 => repeat (first | exact (Kd.C_below HR0.out HB.out) | (with_reducible refine Kd.C_alloc ?_ _) | (with_reducible refine Kd.C_drewN ?_ _) | (with_reducible refine Kd.C_drew ?_))); (case side2 => exact HC0.out); rintro e w49 ⟨v415, rfl, ho0, hb⟩; refine ⟨_, rfl, ?_⟩; have n0_ := Aside0.mk (Kd.R_lower ho0 (below_size (by repeat (first | (with_reducible first | exact HB.out | apply below_alloc | apply pw_below_drewN | apply below_drew1) | exact HB.out)))); have n1_ := Aside0.mk (below_step (by repeat (first | (with_reducible first | exact HB.out | apply below_alloc | apply pw_below_drewN | apply below_drew1) | exact HB.out)) hb); clear HB; have HO416 := n0_; have HB := n1_; clear n0_ n1_; (try clear hb); (try clear hb2); (try clear hk); (try clear hi); (try clear ho0)) | ((with_reducible refine gate_callee (f := 18) rfl ?_); refine goesL_ (some 24) rfl rfl Try.func18 (by kernel_rfl) rfl #[.slice A0 l0.length c0, .int .i64 t413] rfl (by (try simp only [List.map_toArray, List.map_cons, List.map_nil]); first | done | rfl | (simp only [List.length_drop, List.length_take]; rfl)) ?_; (with_reducible refine (platenref03_Of.calls kj2 _ _ l0 t413 t417 _ ?side1 ?side2 A13.out).mono ?_); (case side1 => repeat (first | exact (Kd.C_below HR0.out HB.out) | (with_reducible refine Kd.C_alloc ?_ _) | (with_reducible refine Kd.C_drewN ?_ _) | (with_reducible refine Kd.C_drew ?_))); (case side2 => exact HC0.out); rintro e w50 ⟨rfl, hb⟩; refine ⟨_, rfl, ?_⟩; have n0_ := Aside0.mk (Kd.R_below (by (with_reducible repeat (first | apply Kd.R_alloc | apply Kd.R_drewN | apply Kd.R_drew)); exact HO416.out) hb); have n1_ := Aside0.mk (below_step (by repeat (first | (with_reducible first | exact HB.out | apply below_alloc | apply pw_below_drewN | apply below_drew1) | exact HB.out)) hb); clear HO416; clear HB; have HO416 := n0_; have HB := n1_; clear n0_ n1_; (try clear hb); (try clear hb2); (try clear hk); (try clear hi); obtain ⟨Ao51, co51, eo51⟩ := Kd.R_slice HO416.out; subst eo51; have p418 : 0 ≤ (t417 : Int) := of_decide_eq_true (by first | (with_reducible assumption) | assumption); have q418 : t417 < (t414.length : Int) := of_decide_eq_true (by first | (with_reducible assumption) | assumption); obtain ⟨ad418, e418, hx418_0, hx418_1⟩ := at_T25 (Kd.R_reads' HO416.out).2.2 t417 p418 q418; cases e418; replace p418 := eq_true p418; replace q418 := eq_true q418) | ((with_reducible refine gate_dst (N := 6) rfl ?_); (try (refine gate_guard (by rfl) ?_; dsimp only)); refine box_event ?hg (N := 6) ?hd (cs := #[.int .i64 0, .int .i64 0]) (t := 25) ?hr ?_; (case hd => rfl); (case hg => rfl); (case hr => first | (go_simp; done) | (go_simp; rfl)); intro gb419 hg w52 hbox hb; have n0_ := Aside0.mk (Kd.R_below (Kd.R_elderB (by (with_reducible repeat (first | apply Kd.R_alloc | apply Kd.R_drewN | apply Kd.R_drew)); exact HO416.out) gb419 (Nat.le_of_eq hg.symm)) hb); have n1_ := Aside0.mk (below_step (by repeat (first | (with_reducible first | exact HB.out | apply below_alloc | apply pw_below_drewN | apply below_drew1) | exact HB.out)) hb); have n2_ := Aside0.mk (hbox); have n3_ := Aside0.mk ((by rw [hg]; exact (below_size (by repeat (first | (with_reducible first | exact HB.out | apply below_alloc | apply pw_below_drewN | apply below_drew1) | exact HB.out))) : w.heap.size ≤ gb419)); have n4_ := Aside0.mk ((by rw [hg]; exact (below_size (by repeat (first | (with_reducible first | exact HB.out | apply below_alloc | apply pw_below_drewN | apply below_drew1) | exact HB.out))) : w.heap.size ≤ gb419)); clear HO416; clear HB; have HO416 := n0_; have HB := n1_; have BK419 := n2_; have GW419 := n3_; have GE419 := n4_; clear n0_ n1_ n2_ n3_ n4_; clear hb hbox hg; have hcz53_0 : w52.cell? ⟨gb419, 0, none⟩ = some (.int .i64 0) := (blk_cell BK419.out 0).trans rfl; have hcz53_1 : w52.cell? ⟨gb419, 1, none⟩ = some (.int .i64 0) := (blk_cell BK419.out 1).trans rfl; have hfz53_0 := blk_frozen BK419.out 0; have hfz53_1 := blk_frozen BK419.out 1) | ((with_reducible refine gate_callee (f := 13) rfl ?_); refine goesL_ (some 30) rfl rfl Try.func13 (by kernel_rfl) rfl #[.slice A0 l0.length c0, .int .i64 t413, .int .u8 108] rfl (by (try simp only [List.map_toArray, List.map_cons, List.map_nil]); first | done | rfl | (simp only [List.length_drop, List.length_take]; rfl)) ?_; (with_reducible refine (object_Inner.calls kj2 _ _ l0 t413 108 t420 t421 t422 t423 _ ?side1 ?side2 A16.out).mono ?_); (case side1 => exact Kd.C_below HR0.out (by repeat (first | (with_reducible first | exact HB.out | apply below_alloc | apply pw_below_drewN | apply below_drew1 | refine below_set ?_ GE419.out) | exact HB.out))); (case side2 => exact HC0.out); rintro e w54 ⟨rfl, hb⟩; refine ⟨_, rfl, ?_⟩; have n0_ := Aside0.mk (Kd.R_below (by (with_reducible repeat (first | apply Kd.R_alloc | apply Kd.R_drewN | apply Kd.R_drew)); exact (Kd.R_mono (Kd.R_far (p := ⟨gb419, 1, none⟩) (Kd.R_far (p := ⟨gb419, 0, none⟩) (Kd.R_mono HO416.out (fun k_ hk => (⟨hk, hk.2⟩ : _ ∧ k_ ≠ gb419))) (fun _ hk => hk.2) (.int .i64 ((rd_T25 t414 t417).f0))) (fun _ hk => hk.2) (.int .i64 ((rd_T25 t414 t417).f1))) (fun _ h_ => h_.1))) hb); have n1_ := Aside0.mk (blk_below (g := gb419) (o := .cells #[.int .i64 ((rd_T25 t414 t417).f0), .int .i64 ((rd_T25 t414 t417).f1)] 25 (0, 0)) (by (with_reducible repeat (first | refine blk_drewN ?_ _ | refine blk_drew ?_ | refine blk_alloc ?_ _)); refine blk_put (cs := #[.int .i64 ((rd_T25 t414 t417).f0), .int .i64 0]) ?_ 1 _ rfl; (with_reducible repeat (first | refine blk_drewN ?_ _ | refine blk_drew ?_ | refine blk_alloc ?_ _)); refine blk_put (cs := #[.int .i64 0, .int .i64 0]) ?_ 0 _ rfl; (with_reducible repeat (first | refine blk_drewN ?_ _ | refine blk_drew ?_ | refine blk_alloc ?_ _)); exact BK419.out) hb); have n2_ := Aside0.mk (below_step (by repeat (first | (with_reducible first | exact HB.out | apply below_alloc | apply pw_below_drewN | apply below_drew1 | refine below_set ?_ GE419.out) | exact HB.out)) hb); clear HO416; clear BK419; clear HB; have HO416 := n0_; have BK419 := n1_; have HB := n2_; clear n0_ n1_ n2_; (try clear hb); (try clear hb2); (try clear hk); (try clear hi)) | ((with_reducible refine gate_dst (N := 7) rfl ?_); (try (refine gate_guard (by rfl) ?_; dsimp only)); refine box_event ?hg (N := 7) ?hd (cs := #[.int .i64 0, .int .i64 0, .bool false]) (t := 27) ?hr ?_; (case hd => rfl); (case hg => rfl); (case hr => first | (go_simp; done) | (go_simp; rfl)); intro gb424 hg w55 hbox hb; have n0_ := Aside0.mk (Kd.R_below (by (with_reducible repeat (first | apply Kd.R_alloc | apply Kd.R_drewN | apply Kd.R_drew)); exact HO416.out) hb); have n1_ := Aside0.mk (blk_below (g := gb419) (o := .cells #[.int .i64 ((rd_T25 t414 t417).f0), .int .i64 ((rd_T25 t414 t417).f1)] 25 (0, 0)) (by (with_reducible repeat (first | refine blk_drewN ?_ _ | refine blk_drew ?_ | refine blk_alloc ?_ _)); exact BK419.out) hb); have n2_ := Aside0.mk (below_step (by repeat (first | (with_reducible first | exact HB.out | apply below_alloc | apply pw_below_drewN | apply below_drew1 | refine below_set ?_ GE419.out) | exact HB.out)) hb); have n3_ := Aside0.mk (hbox); have n4_ := Aside0.mk ((by rw [hg]; exact (below_size (by repeat (first | (with_reducible first | exact HB.out | apply below_alloc | apply pw_below_drewN | apply below_drew1 | refine below_set ?_ GE419.out) | exact HB.out))) : w.heap.size ≤ gb424)); have n5_ := Aside0.mk ((by rw [hg]; exact (below_size (by repeat (first | (with_reducible first | exact HB.out | apply below_alloc | apply pw_below_drewN | apply below_drew1 | refine below_set ?_ GE419.out) | exact HB.out))) : w.heap.size ≤ gb424)); have n6_ := Aside0.mk ((by rw [hg]; exact Nat.ne_of_lt (blk_lt (g := gb419) (o := .cells #[.int .i64 ((rd_T25 t414 t417).f0), .int .i64 ((rd_T25 t414 t417).f1)] 25 (0, 0)) (by (with_reducible repeat (first | refine blk_drewN ?_ _ | refine blk_drew ?_ | refine blk_alloc ?_ _)); exact BK419.out)) : gb419 ≠ gb424)); have n7_ := Aside0.mk ((by rw [hg]; exact Nat.ne_of_gt (blk_lt (g := gb419) (o := .cells #[.int .i64 ((rd_T25 t414 t417).f0), .int .i64 ((rd_T25 t414 t417).f1)] 25 (0, 0)) (by (with_reducible repeat (first | refine blk_drewN ?_ _ | refine blk_drew ?_ | refine blk_alloc ?_ _)); exact BK419.out)) : gb424 ≠ gb419)); clear HO416; clear BK419; clear HB; have HO416 := n0_; have BK419 := n1_; have HB := n2_; have BK424 := n3_; have GW424 := n4_; have GE424 := n5_; have NB419_424 := n6_; have NB424_419 := n7_; clear n0_ n1_ n2_ n3_ n4_ n5_ n6_ n7_; clear hb hbox hg; have hnb56 := NB424_419.out; have hnc56 := NB419_424.out; have hcz57_0 : w55.cell? ⟨gb424, 0, none⟩ = some (.int .i64 0) := (blk_cell BK424.out 0).trans rfl; have hcz57_1 : w55.cell? ⟨gb424, 1, none⟩ = some (.int .i64 0) := (blk_cell BK424.out 1).trans rfl; have hcz57_2 : w55.cell? ⟨gb424, 2, none⟩ = some (.bool false) := (blk_cell BK424.out 2).trans rfl; have hfz57_0 := blk_frozen BK424.out 0; have hfz57_1 := blk_frozen BK424.out 1; have hfz57_2 := blk_frozen BK424.out 2) | ((with_reducible refine gate_store (t := 27) (p := 7) rfl ?_); refine store_event (t := 27) (p := 7) (v := ?vo_w58) (w1 := (((w55.setCell ⟨gb424, 0, none⟩ (.int .i64 t420)).setCell ⟨gb424, 1, none⟩ (.int .i64 t421)).setCell ⟨gb424, 2, none⟩ (.bool t422))) ?hg ?ho ?hn ?hr ?_; (case ho => rfl); (case hg => rfl); (case hn => rfl); (case hr => first | (go_simp; done) | (go_simp; rfl)); intro w58 hw; have n0_ : Aside0 (Kd.R k25 25 w58 w.heap.size (fun k_ => k_ ≠ gb419) (.slice (some ad418) t414.length co51) t414) := ⟨(by rw [hw]; exact (by (with_reducible repeat (first | apply Kd.R_alloc | apply Kd.R_drewN | apply Kd.R_drew)); exact Kd.R_mono (Kd.R_far (p := ⟨gb424, 2, none⟩) (Kd.R_far (p := ⟨gb424, 1, none⟩) (Kd.R_far (p := ⟨gb424, 0, none⟩) (Kd.R_types HO416.out BK424.out (by decide)) (fun _ hk => hk.2) (.int .i64 t420)) (fun _ hk => hk.2) (.int .i64 t421)) (fun _ hk => hk.2) (.bool t422)) (fun _ hk => hk.1.2)))⟩; have n1_ : Aside0 (w58.heap[gb419]? = some (.cells #[.int .i64 ((rd_T25 t414 t417).f0), .int .i64 ((rd_T25 t414 t417).f1)] 25 (0, 0))) := ⟨(by rw [hw]; exact (by (with_reducible repeat (first | refine blk_drewN ?_ _ | refine blk_drew ?_ | refine blk_alloc ?_ _)); refine blk_far ?_ NB419_424.out _; (with_reducible repeat (first | refine blk_drewN ?_ _ | refine blk_drew ?_ | refine blk_alloc ?_ _)); refine blk_far ?_ NB419_424.out _; (with_reducible repeat (first | refine blk_drewN ?_ _ | refine blk_drew ?_ | refine blk_alloc ?_ _)); refine blk_far ?_ NB419_424.out _; (with_reducible repeat (first | refine blk_drewN ?_ _ | refine blk_drew ?_ | refine blk_alloc ?_ _)); exact BK419.out))⟩; have n2_ : Aside0 (w58.heap[gb424]? = some (.cells #[.int .i64 t420, .int .i64 t421, .bool t422] 27 (0, 0))) := ⟨(by rw [hw]; exact (by (with_reducible repeat (first | refine blk_drewN ?_ _ | refine blk_drew ?_ | refine blk_alloc ?_ _)); refine blk_put (cs := #[.int .i64 t420, .int .i64 t421, .bool false]) ?_ 2 _ rfl; (with_reducible repeat (first | refine blk_drewN ?_ _ | refine blk_drew ?_ | refine blk_alloc ?_ _)); refine blk_put (cs := #[.int .i64 t420, .int .i64 0, .bool false]) ?_ 1 _ rfl; (with_reducible repeat (first | refine blk_drewN ?_ _ | refine blk_drew ?_ | refine blk_alloc ?_ _)); refine blk_put (cs := #[.int .i64 0, .int .i64 0, .bool false]) ?_ 0 _ rfl; (with_reducible repeat (first | refine blk_drewN ?_ _ | refine blk_drew ?_ | refine blk_alloc ?_ _)); exact BK424.out))⟩; have n3_ : Aside0 (Below w.heap.size w w58) := ⟨(by rw [hw]; exact (by repeat (first | (with_reducible first | exact HB.out | apply below_alloc | apply pw_below_drewN | apply below_drew1 | refine below_set ?_ GE419.out | refine below_set ?_ GE424.out) | exact HB.out)))⟩; clear hw; clear HO416; clear BK419; clear BK424; clear HB; have HO416 := n0_; have BK419 := n1_; have BK424 := n2_; have HB := n3_; clear n0_ n1_ n2_ n3_; have hcz59_0 : w58.cell? ⟨gb419, 0, none⟩ = some (.int .i64 ((rd_T25 t414 t417).f0)) := (blk_cell BK419.out 0).trans rfl; have hcz59_1 : w58.cell? ⟨gb419, 1, none⟩ = some (.int .i64 ((rd_T25 t414 t417).f1)) := (blk_cell BK419.out 1).trans rfl; have hfz59_0 := blk_frozen BK419.out 0; have hfz59_1 := blk_frozen BK419.out 1) | ((with_reducible refine gate_callee (f := 20) rfl ?_); refine goesL_ (some 35) rfl rfl Try.func20 (by kernel_rfl) rfl #[.slice A0 l0.length c0, .agg #[.int .i64 ((rd_T25 t414 t417).f0), .int .i64 ((rd_T25 t414 t417).f1)]] rfl (by (try simp only [List.map_toArray, List.map_cons, List.map_nil]); first | done | rfl | (simp only [List.length_drop, List.length_take]; rfl)) ?_; (with_reducible refine (platenref03_Text.calls (fun k_ => k_ < w.heap.size) _ _ l0 ((rd_T25 t414 t417).f0) ((rd_T25 t414 t417).f1) t425 _ ?side1 A17.out).mono ?_); (case side1 => exact Kd.V_mk HC0.out (Kd.F_below (Kd.C_F (Kd.heap_int .u8) HR0.out) (by repeat (first | (with_reducible first | exact HB.out | apply below_alloc | apply pw_below_drewN | apply below_drew1 | refine below_set ?_ GE419.out | refine below_set ?_ GE424.out) | exact HB.out)))); rintro e w60 ⟨v426, rfl, ho0, hb⟩; refine ⟨_, rfl, ?_⟩; have n0_ := Aside0.mk (Kd.R_below (by (with_reducible repeat (first | apply Kd.R_alloc | apply Kd.R_drewN | apply Kd.R_drew)); exact HO416.out) hb); have n1_ := Aside0.mk (Kd.V_lower (Kd.V_mono (ok' := fun k_ => some k_ ≠ (.slice (some ad418) t414.length co51 : Value).ownBlock ∧ k_ ≠ gb419 ∧ k_ ≠ gb424) ho0 (fun k_ hk_ => ⟨Or.elim hk_ (fun hs_ => fun e_ => Nat.not_le.2 hs_ (Kd.R_base HO416.out k_ e_.symm)) (fun hn_ => (Kd.fresh' (Kd.R_lt (by (with_reducible repeat (first | apply Kd.R_alloc | apply Kd.R_drewN | apply Kd.R_drew)); exact HO416.out)) k_ hn_)), Or.elim hk_ (fun hs_ => fun e_ => Nat.not_le.2 hs_ (by rw [e_]; exact GW419.out)) (fun hn_ => (Kd.freshB (g := gb419) (o := .cells #[.int .i64 ((rd_T25 t414 t417).f0), .int .i64 ((rd_T25 t414 t417).f1)] 25 (0, 0)) (by (with_reducible repeat (first | refine blk_drewN ?_ _ | refine blk_drew ?_ | refine blk_alloc ?_ _)); exact BK419.out) k_ hn_)), Or.elim hk_ (fun hs_ => fun e_ => Nat.not_le.2 hs_ (by rw [e_]; exact GW424.out)) (fun hn_ => (Kd.freshB (g := gb424) (o := .cells #[.int .i64 t420, .int .i64 t421, .bool t422] 27 (0, 0)) (by (with_reducible repeat (first | refine blk_drewN ?_ _ | refine blk_drew ?_ | refine blk_alloc ?_ _)); exact BK424.out) k_ hn_))⟩)) (below_size (by repeat (first | (with_reducible first | exact HB.out | apply below_alloc | apply pw_below_drewN | apply below_drew1 | refine below_set ?_ GE419.out | refine below_set ?_ GE424.out) | exact HB.out)))); have n2_ := Aside0.mk (blk_below (g := gb419) (o := .cells #[.int .i64 ((rd_T25 t414 t417).f0), .int .i64 ((rd_T25 t414 t417).f1)] 25 (0, 0)) (by (with_reducible repeat (first | refine blk_drewN ?_ _ | refine blk_drew ?_ | refine blk_alloc ?_ _)); exact BK419.out) hb); have n3_ := Aside0.mk (blk_below (g := gb424) (o := .cells #[.int .i64 t420, .int .i64 t421, .bool t422] 27 (0, 0)) (by (with_reducible repeat (first | refine blk_drewN ?_ _ | refine blk_drew ?_ | refine blk_alloc ?_ _)); exact BK424.out) hb); have n4_ := Aside0.mk (below_step (by repeat (first | (with_reducible first | exact HB.out | apply below_alloc | apply pw_below_drewN | apply below_drew1 | refine below_set ?_ GE419.out | refine below_set ?_ GE424.out) | exact HB.out)) hb); clear HO416; clear BK419; clear BK424; clear HB; have HO416 := n0_; have HO427 := n1_; have BK419 := n2_; have BK424 := n3_; have HB := n4_; clear n0_ n1_ n2_ n3_ n4_; (try clear hb); (try clear hb2); (try clear hk); (try clear hi); (try clear ho0); obtain ⟨Ao61, co61, eo61⟩ := Kd.V_slice HO427.out; subst eo61) | ((with_reducible refine gate_callee (f := 19) rfl ?_); refine goesL_ (some 36) rfl rfl Try.func19 (by kernel_rfl) rfl #[.slice Ao61 t425.length co61] rfl (by (try simp only [List.map_toArray, List.map_cons, List.map_nil]); first | done | rfl | (simp only [List.length_drop, List.length_take]; rfl)) ?_; (with_reducible refine (platenref03_Bare.calls kj2 _ _ t425 false _ ?side1 ?side2 A18.out).mono ?_); (case side1 => repeat (first | exact (Kd.V_reads' HO427.out).2.2 | (with_reducible refine Kd.C_alloc ?_ _) | (with_reducible refine Kd.C_drewN ?_ _) | (with_reducible refine Kd.C_drew ?_))); (case side2 => exact (Kd.V_reads' HO427.out).2.1); rintro e w' ⟨rfl, ⟨nd, rfl⟩⟩; refine ⟨_, rfl, ?_⟩))
              (try simp only [Act.put, List.setIfInBounds_toArray, List.set_cons_zero, List.set_cons_succ])
              go_cut [78] (fun v78 wc => ∃ (kq : Nat) (x78_47 : Bool), v78 = .bool x78_47 ∧ Aside0 (platenlaw20_ObjectIndents.j1 kq l0 x78_47 ((rd_T25 t414 t417).f0) ((rd_T25 t414 t417).f1) t420 t421 t422 = some r) ∧ Aside0 (kq ≤ kj2) ∧ Aside0 (wc.heap[gb419]? = some (.cells #[.int .i64 ((rd_T25 t414 t417).f0), .int .i64 ((rd_T25 t414 t417).f1)] 25 (0, 0))) ∧ Aside0 (wc.heap[gb424]? = some (.cells #[.int .i64 t420, .int .i64 t421, .bool t422] 27 (0, 0))) ∧ Aside0 (Below w.heap.size w wc))
              case first =>
                have H := HC48.out
                clear HC48
                by_cases c62 : t423 = 0
                · rw [if_pos c62] at H
                  have c62b0 : (t423 == 0) = true := beq_iff_eq.mpr c62
                  have c62b1 : (t423 != 0) = false := bne_eq_false_iff_eq.mpr c62
                  clear c62
                  (first | rw [c62b0] | (simp only [i64_w, i32_w]; rw [c62b0]) | skip)
                  by_cases c63 : t422 = true
                  · subst c63
                    have H1 : (platenlaw20_ObjectIndents.j1 kj2 l0 true ((rd_T25 t414 t417).f0) ((rd_T25 t414 t417).f1) t420 t421 true) = some r := by rw [if_pos rfl] at H; exact H
                    clear H
                    have H := H1
                    clear H1
                    have H' := Aside0.mk H
                    clear H
                    have hnb64 := NB424_419.out
                    have hnc64 := NB419_424.out
                    have hcz65_0 : w60.cell? ⟨gb424, 0, none⟩ = some (.int .i64 t420) := (blk_cell BK424.out 0).trans rfl
                    have hcz65_1 : w60.cell? ⟨gb424, 1, none⟩ = some (.int .i64 t421) := (blk_cell BK424.out 1).trans rfl
                    have hcz65_2 : w60.cell? ⟨gb424, 2, none⟩ = some (.bool true) := (blk_cell BK424.out 2).trans rfl
                    have hfz65_0 := blk_frozen BK424.out 0
                    have hfz65_1 := blk_frozen BK424.out 1
                    have hfz65_2 := blk_frozen BK424.out 2
                    go_wp2
                    go_meet
                    case rel => exact ⟨_, (true), (by first | rfl | (simp; done) | (simp [*]; done)), H', ⟨by have := HJ2.out; first | omega | exact Nat.le_refl _⟩, ⟨by (with_reducible repeat (first | refine blk_drewN ?_ _ | refine blk_drew ?_ | refine blk_alloc ?_ _)); exact BK419.out⟩, ⟨by (with_reducible repeat (first | refine blk_drewN ?_ _ | refine blk_drew ?_ | refine blk_alloc ?_ _)); exact BK424.out⟩, ⟨by repeat (first | (with_reducible first | exact HB.out | apply below_alloc | apply pw_below_drewN | apply below_drew1 | refine below_set ?_ GE419.out | refine below_set ?_ GE424.out) | exact HB.out)⟩⟩
                  · replace c63 := Bool.eq_false_iff.mpr c63
                    subst c63
                    have H1 : (if t420 < ((rd_T25 t414 t417).f0) then (platenlaw20_ObjectIndents.j1 kj2 l0 true ((rd_T25 t414 t417).f0) ((rd_T25 t414 t417).f1) t420 t421 false) else (if t421 < 1 then (platenlaw20_ObjectIndents.j1 kj2 l0 true ((rd_T25 t414 t417).f0) ((rd_T25 t414 t417).f1) t420 t421 false) else (platenlaw20_ObjectIndents.j1 kj2 l0 ((wrap64 (t420 + t421)) != (wrap64 (((rd_T25 t414 t417).f0) + ((rd_T25 t414 t417).f1)))) ((rd_T25 t414 t417).f0) ((rd_T25 t414 t417).f1) t420 t421 false))) = some r := by rw [if_neg (show ¬ (false = true) by decide)] at H; exact H
                    clear H
                    have H := H1
                    clear H1
                    by_cases c66 : t420 < ((rd_T25 t414 t417).f0)
                    · rw [if_pos c66] at H
                      have c66b0 : decide (t420 < ((rd_T25 t414 t417).f0)) = true := decide_eq_true c66
                      clear c66
                      have H' := Aside0.mk H
                      clear H
                      have hnb67 := NB424_419.out
                      have hnc67 := NB419_424.out
                      have hcz68_0 : w60.cell? ⟨gb424, 0, none⟩ = some (.int .i64 t420) := (blk_cell BK424.out 0).trans rfl
                      have hcz68_1 : w60.cell? ⟨gb424, 1, none⟩ = some (.int .i64 t421) := (blk_cell BK424.out 1).trans rfl
                      have hcz68_2 : w60.cell? ⟨gb424, 2, none⟩ = some (.bool false) := (blk_cell BK424.out 2).trans rfl
                      have hfz68_0 := blk_frozen BK424.out 0
                      have hfz68_1 := blk_frozen BK424.out 1
                      have hfz68_2 := blk_frozen BK424.out 2
                      have hcz69_0 : w60.cell? ⟨gb419, 0, none⟩ = some (.int .i64 ((rd_T25 t414 t417).f0)) := (blk_cell BK419.out 0).trans rfl
                      have hcz69_1 : w60.cell? ⟨gb419, 1, none⟩ = some (.int .i64 ((rd_T25 t414 t417).f1)) := (blk_cell BK419.out 1).trans rfl
                      have hfz69_0 := blk_frozen BK419.out 0
                      have hfz69_1 := blk_frozen BK419.out 1
                      go_wp2
                      go_meet
                      case rel => exact ⟨_, (true), (by first | rfl | (simp; done) | (simp [*]; done)), H', ⟨by have := HJ2.out; first | omega | exact Nat.le_refl _⟩, ⟨by (with_reducible repeat (first | refine blk_drewN ?_ _ | refine blk_drew ?_ | refine blk_alloc ?_ _)); exact BK419.out⟩, ⟨by (with_reducible repeat (first | refine blk_drewN ?_ _ | refine blk_drew ?_ | refine blk_alloc ?_ _)); exact BK424.out⟩, ⟨by repeat (first | (with_reducible first | exact HB.out | apply below_alloc | apply pw_below_drewN | apply below_drew1 | refine below_set ?_ GE419.out | refine below_set ?_ GE424.out) | exact HB.out)⟩⟩
                    · rw [if_neg c66] at H
                      have c66b0 : decide (t420 < ((rd_T25 t414 t417).f0)) = false := decide_eq_false c66
                      clear c66
                      by_cases c70 : t421 < 1
                      · rw [if_pos c70] at H
                        have c70b0 : decide (t421 < 1) = true := decide_eq_true c70
                        clear c70
                        have H' := Aside0.mk H
                        clear H
                        have hnb71 := NB424_419.out
                        have hnc71 := NB419_424.out
                        have hcz72_0 : w60.cell? ⟨gb424, 0, none⟩ = some (.int .i64 t420) := (blk_cell BK424.out 0).trans rfl
                        have hcz72_1 : w60.cell? ⟨gb424, 1, none⟩ = some (.int .i64 t421) := (blk_cell BK424.out 1).trans rfl
                        have hcz72_2 : w60.cell? ⟨gb424, 2, none⟩ = some (.bool false) := (blk_cell BK424.out 2).trans rfl
                        have hfz72_0 := blk_frozen BK424.out 0
                        have hfz72_1 := blk_frozen BK424.out 1
                        have hfz72_2 := blk_frozen BK424.out 2
                        have hcz73_0 : w60.cell? ⟨gb419, 0, none⟩ = some (.int .i64 ((rd_T25 t414 t417).f0)) := (blk_cell BK419.out 0).trans rfl
                        have hcz73_1 : w60.cell? ⟨gb419, 1, none⟩ = some (.int .i64 ((rd_T25 t414 t417).f1)) := (blk_cell BK419.out 1).trans rfl
                        have hfz73_0 := blk_frozen BK419.out 0
                        have hfz73_1 := blk_frozen BK419.out 1
                        go_wp2
                        go_meet
                        case rel => exact ⟨_, (true), (by first | rfl | (simp; done) | (simp [*]; done)), H', ⟨by have := HJ2.out; first | omega | exact Nat.le_refl _⟩, ⟨by (with_reducible repeat (first | refine blk_drewN ?_ _ | refine blk_drew ?_ | refine blk_alloc ?_ _)); exact BK419.out⟩, ⟨by (with_reducible repeat (first | refine blk_drewN ?_ _ | refine blk_drew ?_ | refine blk_alloc ?_ _)); exact BK424.out⟩, ⟨by repeat (first | (with_reducible first | exact HB.out | apply below_alloc | apply pw_below_drewN | apply below_drew1 | refine below_set ?_ GE419.out | refine below_set ?_ GE424.out) | exact HB.out)⟩⟩
                      · rw [if_neg c70] at H
                        have c70b0 : decide (t421 < 1) = false := decide_eq_false c70
                        clear c70
                        have H' := Aside0.mk H
                        clear H
                        have hnb74 := NB424_419.out
                        have hnc74 := NB419_424.out
                        have hcz75_0 : w60.cell? ⟨gb424, 0, none⟩ = some (.int .i64 t420) := (blk_cell BK424.out 0).trans rfl
                        have hcz75_1 : w60.cell? ⟨gb424, 1, none⟩ = some (.int .i64 t421) := (blk_cell BK424.out 1).trans rfl
                        have hcz75_2 : w60.cell? ⟨gb424, 2, none⟩ = some (.bool false) := (blk_cell BK424.out 2).trans rfl
                        have hfz75_0 := blk_frozen BK424.out 0
                        have hfz75_1 := blk_frozen BK424.out 1
                        have hfz75_2 := blk_frozen BK424.out 2
                        have hcz76_0 : w60.cell? ⟨gb419, 0, none⟩ = some (.int .i64 ((rd_T25 t414 t417).f0)) := (blk_cell BK419.out 0).trans rfl
                        have hcz76_1 : w60.cell? ⟨gb419, 1, none⟩ = some (.int .i64 ((rd_T25 t414 t417).f1)) := (blk_cell BK419.out 1).trans rfl
                        have hfz76_0 := blk_frozen BK419.out 0
                        have hfz76_1 := blk_frozen BK419.out 1
                        go_wp2
                        go_meet
                        case rel => exact ⟨_, (((wrap64 (t420 + t421)) != (wrap64 (((rd_T25 t414 t417).f0) + ((rd_T25 t414 t417).f1))))), (by first | rfl | (simp; done) | (simp [*]; done)), H', ⟨by have := HJ2.out; first | omega | exact Nat.le_refl _⟩, ⟨by (with_reducible repeat (first | refine blk_drewN ?_ _ | refine blk_drew ?_ | refine blk_alloc ?_ _)); exact BK419.out⟩, ⟨by (with_reducible repeat (first | refine blk_drewN ?_ _ | refine blk_drew ?_ | refine blk_alloc ?_ _)); exact BK424.out⟩, ⟨by repeat (first | (with_reducible first | exact HB.out | apply below_alloc | apply pw_below_drewN | apply below_drew1 | refine below_set ?_ GE419.out | refine below_set ?_ GE424.out) | exact HB.out)⟩⟩
                · rw [if_neg c62] at H
                  have c62b0 : (t423 == 0) = false := beq_eq_false_iff_ne.mpr c62
                  have c62b1 : (t423 != 0) = true := bne_iff_ne.mpr c62
                  (first | rw [c62b0] | (simp only [i64_w, i32_w]; rw [c62b0]) | skip)
                  have H' := Aside0.mk H
                  clear H
                  go_wp2
                  go_meet
                  case rel => exact ⟨_, (true), (by first | rfl | (simp; done) | (simp [*]; done)), H', ⟨by have := HJ2.out; first | omega | exact Nat.le_refl _⟩, ⟨by (with_reducible repeat (first | refine blk_drewN ?_ _ | refine blk_drew ?_ | refine blk_alloc ?_ _)); exact BK419.out⟩, ⟨by (with_reducible repeat (first | refine blk_drewN ?_ _ | refine blk_drew ?_ | refine blk_alloc ?_ _)); exact BK424.out⟩, ⟨by repeat (first | (with_reducible first | exact HB.out | apply below_alloc | apply pw_below_drewN | apply below_drew1 | refine below_set ?_ GE419.out | refine below_set ?_ GE424.out) | exact HB.out)⟩⟩
              case rest =>
                clear HC48
                try clear c1
                try clear c2
                try clear p2
                try clear c4
                try clear p4
                try clear q4
                try clear hx4
                try clear c5
                try clear c6
                try clear p6
                try clear c7
                try clear c8
                try clear c9
                try clear c13
                try clear c14
                try clear c14b0
                try clear c15
                try clear c15b0
                try clear c17
                try clear c18
                try clear c19
                try clear c20
                try clear c20b0
                try clear c20b1
                try clear c28
                try clear p41
                try clear q41
                try clear hx41
                try clear c42
                try clear c56
                try clear c62
                try clear c62b0
                try clear c62b1
                try clear c63
                try clear c64
                try clear p64
                try clear c66
                try clear c66b0
                try clear c67
                try clear c70
                try clear c70b0
                try clear c71
                try clear c74
                try clear hcz25_0
                try clear hcz25_1
                try clear hcz29_0
                try clear hcz29_1
                try clear hcz29_2
                try clear hcz31_0
                try clear hcz31_1
                try clear hcz34_0
                try clear hcz34_1
                try clear hcz34_2
                try clear hcz39_0
                try clear hcz39_1
                try clear hcz43_0
                try clear hcz43_1
                try clear hcz43_2
                try clear hcz45_0
                try clear hcz45_1
                try clear hcz53_0
                try clear hcz53_1
                try clear hcz57_0
                try clear hcz57_1
                try clear hcz57_2
                try clear hcz59_0
                try clear hcz59_1
                try clear hcz65_0
                try clear hcz65_1
                try clear hcz65_2
                try clear hcz68_0
                try clear hcz68_1
                try clear hcz68_2
                try clear hcz69_0
                try clear hcz69_1
                try clear hcz72_0
                try clear hcz72_1
                try clear hcz72_2
                try clear hcz73_0
                try clear hcz73_1
                try clear hcz75_0
                try clear hcz75_1
                try clear hcz75_2
                try clear hcz76_0
                try clear hcz76_1
                try clear hfz25_0
                try clear hfz25_1
                try clear hfz29_0
                try clear hfz29_1
                try clear hfz29_2
                try clear hfz31_0
                try clear hfz31_1
                try clear hfz34_0
                try clear hfz34_1
                try clear hfz34_2
                try clear hfz39_0
                try clear hfz39_1
                try clear hfz43_0
                try clear hfz43_1
                try clear hfz43_2
                try clear hfz45_0
                try clear hfz45_1
                try clear hfz53_0
                try clear hfz53_1
                try clear hfz57_0
                try clear hfz57_1
                try clear hfz57_2
                try clear hfz59_0
                try clear hfz59_1
                try clear hfz65_0
                try clear hfz65_1
                try clear hfz65_2
                try clear hfz68_0
                try clear hfz68_1
                try clear hfz68_2
                try clear hfz69_0
                try clear hfz69_1
                try clear hfz72_0
                try clear hfz72_1
                try clear hfz72_2
                try clear hfz73_0
                try clear hfz73_1
                try clear hfz75_0
                try clear hfz75_1
                try clear hfz75_2
                try clear hfz76_0
                try clear hfz76_1
                try clear hx418_0
                try clear hx418_1
                try clear p2
                try clear p418
                try clear q418
                obtain ⟨kq, x78_47, rfl, HA, HJ47, BK419, BK424, HB⟩ := hcut
                cases kq with
                | zero => exact absurd HA.out (by simp [platenlaw20_ObjectIndents.j1])
                | succ kj47 =>
                  have H := HA.out
                  clear HA
                  simp only [platenlaw20_ObjectIndents.j1] at H
                  by_cases c77 : x78_47 = true
                  · subst c77
                    have H1 : (some false) = some r := by rw [if_pos rfl] at H; exact H
                    clear H
                    have H := H1
                    clear H1
                    obtain rfl := Option.some.inj H
                    go_wp2
                    go_ret
                    exact ⟨by first | rfl | (simp [errW_none, errW_some] <;> rfl) | (simp [*, errW_none, errW_some] <;> rfl), by repeat (first | (with_reducible first | exact HB.out | apply below_alloc | apply pw_below_drewN | apply below_drew1 | refine below_set ?_ GE419.out | refine below_set ?_ GE424.out) | exact HB.out)⟩
                  · replace c77 := Bool.eq_false_iff.mpr c77
                    subst c77
                    have H1 : (if 0 ≤ t420 then (if t420 < (l0.length : Int) then ((platenref05_Class.f (rd l0 t420)).bind fun t430 => (if t430 ≥ 2 then (if 0 ≤ ((rd_T25 t414 t417).f0) then (if ((rd_T25 t414 t417).f0) ≤ t420 then (if t420 ≤ (l0.length : Int) then ((platenref03_Bare.f kj47 ((l0.take (t420 : Int).toNat).drop (((rd_T25 t414 t417).f0) : Int).toNat)).bind fun t432 => (some t432)) else (none)) else (none)) else (none)) else (some false))) else (none)) else (none)) = some r := by rw [if_neg (show ¬ (false = true) by decide)] at H; exact H
                    clear H
                    have H := H1
                    clear H1
                    by_cases c78 : 0 ≤ t420
                    · rw [if_pos c78] at H
                      have c78b0 : decide (0 ≤ t420) = true := decide_eq_true c78
                      clear c78
                      by_cases c79 : t420 < (l0.length : Int)
                      · rw [if_pos c79] at H
                        have c79b0 : decide (t420 < (l0.length : Int)) = true := decide_eq_true c79
                        clear c79
                        replace H := Option.bind_eq_some_iff.mp H
                        obtain ⟨t430, A800, H⟩ := H
                        replace H : (if t430 ≥ 2 then (if 0 ≤ ((rd_T25 t414 t417).f0) then (if ((rd_T25 t414 t417).f0) ≤ t420 then (if t420 ≤ (l0.length : Int) then ((platenref03_Bare.f kj47 ((l0.take (t420 : Int).toNat).drop (((rd_T25 t414 t417).f0) : Int).toNat)).bind fun t432 => (some t432)) else (none)) else (none)) else (none)) else (some false)) = some r := H
                        have A80 := Aside0.mk A800
                        clear A800
                        by_cases c81 : t430 ≥ 2
                        · rw [if_pos c81] at H
                          have c81b0 : decide (2 ≤ t430) = true := decide_eq_true c81
                          clear c81
                          by_cases c82 : 0 ≤ ((rd_T25 t414 t417).f0)
                          · rw [if_pos c82] at H
                            have c82b0 := eq_true c82
                            have c82b1 : decide (0 ≤ ((rd_T25 t414 t417).f0)) = true := decide_eq_true c82
                            clear c82
                            by_cases c83 : ((rd_T25 t414 t417).f0) ≤ t420
                            · rw [if_pos c83] at H
                              have c83b0 := eq_true c83
                              have c83b1 : decide (((rd_T25 t414 t417).f0) ≤ t420) = true := decide_eq_true c83
                              clear c83
                              by_cases c84 : t420 ≤ (l0.length : Int)
                              · rw [if_pos c84] at H
                                have c84b0 := eq_true c84
                                have c84b1 : decide (t420 ≤ (l0.length : Int)) = true := decide_eq_true c84
                                clear c84
                                replace H := Option.bind_eq_some_iff.mp H
                                obtain ⟨t432, A850, H⟩ := H
                                replace H : (some t432) = some r := H
                                have A85 := Aside0.mk A850
                                clear A850
                                obtain rfl := Option.some.inj H
                                have hnb86 := NB424_419.out
                                have hnc86 := NB419_424.out
                                have hcz87_0 : wc.cell? ⟨gb424, 0, none⟩ = some (.int .i64 t420) := (blk_cell BK424.out 0).trans rfl
                                have hcz87_1 : wc.cell? ⟨gb424, 1, none⟩ = some (.int .i64 t421) := (blk_cell BK424.out 1).trans rfl
                                have hcz87_2 : wc.cell? ⟨gb424, 2, none⟩ = some (.bool t422) := (blk_cell BK424.out 2).trans rfl
                                have hfz87_0 := blk_frozen BK424.out 0
                                have hfz87_1 := blk_frozen BK424.out 1
                                have hfz87_2 := blk_frozen BK424.out 2
                                have p429 : 0 ≤ (t420 : Int) := of_decide_eq_true (by first | (with_reducible assumption) | assumption)
                                have q429 : t420 < (l0.length : Int) := of_decide_eq_true (by first | (with_reducible assumption) | assumption)
                                obtain ⟨ad429, e429, hx429_0⟩ := Kd.at_int HR0.out t420 p429 q429
                                cases e429
                                replace hx429_0 := (HB.out.cell (World.block_lt_of_cell? w _ hx429_0)).trans hx429_0
                                replace p429 := eq_true p429
                                replace q429 := eq_true q429
                                go_wp2_with (first | ((with_reducible refine gate_callee (f := 16) rfl ?_); refine goesL_ (some 85) rfl rfl Try.func16 (by kernel_rfl) rfl #[.int .u8 (rd l0 t420)] rfl (by (try simp only [List.map_toArray, List.map_cons, List.map_nil]); first | done | rfl | (simp only [List.length_drop, List.length_take]; rfl)) ?_; (with_reducible refine (platenref05_Class.calls (rd l0 t420) t430 _ A80.out).mono ?_); rintro e w' ⟨rfl, ⟨nd, rfl⟩⟩; refine ⟨_, rfl, ?_⟩; have hcz88_0 : wc.cell? ⟨gb419, 0, none⟩ = some (.int .i64 ((rd_T25 t414 t417).f0)) := (blk_cell BK419.out 0).trans rfl; have hcz88_1 : wc.cell? ⟨gb419, 1, none⟩ = some (.int .i64 ((rd_T25 t414 t417).f1)) := (blk_cell BK419.out 1).trans rfl; have hfz88_0 := blk_frozen BK419.out 0; have hfz88_1 := blk_frozen BK419.out 1; obtain ⟨i089, hi089, _, hsz89, _⟩ := info_parts info5; obtain ⟨A89, hcut89, hA89, hC89⟩ := print_mid_of (P := Try.prog) (Value.int .u8) 0 22 5 .i64 .i64 Try.underlying22 hi089 hsz89 (some ad429) c0 l0 ((rd_T25 t414 t417).f0) t420 (of_decide_eq_true (by first | (with_reducible assumption) | assumption)) (by first | omega | exact of_decide_eq_true (by first | (with_reducible assumption) | assumption)) (of_decide_eq_true (by first | (with_reducible assumption) | assumption)) HC0.out; have HR431 := Aside0.mk (Kd.C_of_reads (h1 := fun _ => rfl) (hA89 _ (Kd.reads_of_C HR0.out))); have HC431 := Aside0.mk hC89; clear hA89 hC89 hi089 hsz89) | (go_at_call 19; refine calls_of_args (args' := #[.slice A89 ((l0.take (t420 : Int).toNat).drop (((rd_T25 t414 t417).f0) : Int).toNat).length (c0 - ((rd_T25 t414 t417).f0).toNat)]) (by first | (rw [show ((l0.take (t420 : Int).toNat).drop (((rd_T25 t414 t417).f0) : Int).toNat).length = (t420.toNat - ((rd_T25 t414 t417).f0).toNat) from (by rw [List.length_drop, List.length_take]; have h_ : (t420 : Int) ≤ (l0.length : Int) := of_decide_eq_true (by first | (with_reducible assumption) | assumption); omega)] <;> rfl) | rfl) ?_; (with_reducible refine (platenref03_Bare.calls kj47 _ _ ((l0.take (t420 : Int).toNat).drop (((rd_T25 t414 t417).f0) : Int).toNat) t432 _ ?side1 ?side2 A85.out).mono ?_); (case side1 => repeat (first | exact (Kd.C_below HR431.out (by repeat (first | (with_reducible first | exact HB.out | apply below_alloc | apply pw_below_drewN | apply below_drew1 | refine below_set ?_ GE419.out | refine below_set ?_ GE424.out) | exact HB.out))) | (with_reducible refine Kd.C_alloc ?_ _) | (with_reducible refine Kd.C_drewN ?_ _) | (with_reducible refine Kd.C_drew ?_))); (case side2 => exact HC431.out); rintro e w' ⟨rfl, ⟨nd, rfl⟩⟩))
                                go_ret
                                exact ⟨by first | rfl | (simp [errW_none, errW_some] <;> rfl) | (simp [*, errW_none, errW_some] <;> rfl), by repeat (first | (with_reducible first | exact HB.out | apply below_alloc | apply pw_below_drewN | apply below_drew1 | refine below_set ?_ GE419.out | refine below_set ?_ GE424.out) | exact HB.out)⟩
                              · rw [if_neg c84] at H
                                exact absurd H (by simp)
                            · rw [if_neg c83] at H
                              exact absurd H (by simp)
                          · rw [if_neg c82] at H
                            exact absurd H (by simp)
                        · rw [if_neg c81] at H
                          have c81b0 : decide (2 ≤ t430) = false := decide_eq_false c81
                          clear c81
                          obtain rfl := Option.some.inj H
                          have hnb90 := NB424_419.out
                          have hnc90 := NB419_424.out
                          have hcz91_0 : wc.cell? ⟨gb424, 0, none⟩ = some (.int .i64 t420) := (blk_cell BK424.out 0).trans rfl
                          have hcz91_1 : wc.cell? ⟨gb424, 1, none⟩ = some (.int .i64 t421) := (blk_cell BK424.out 1).trans rfl
                          have hcz91_2 : wc.cell? ⟨gb424, 2, none⟩ = some (.bool t422) := (blk_cell BK424.out 2).trans rfl
                          have hfz91_0 := blk_frozen BK424.out 0
                          have hfz91_1 := blk_frozen BK424.out 1
                          have hfz91_2 := blk_frozen BK424.out 2
                          have p429 : 0 ≤ (t420 : Int) := of_decide_eq_true (by first | (with_reducible assumption) | assumption)
                          have q429 : t420 < (l0.length : Int) := of_decide_eq_true (by first | (with_reducible assumption) | assumption)
                          obtain ⟨ad429, e429, hx429_0⟩ := Kd.at_int HR0.out t420 p429 q429
                          cases e429
                          replace hx429_0 := (HB.out.cell (World.block_lt_of_cell? w _ hx429_0)).trans hx429_0
                          replace p429 := eq_true p429
                          replace q429 := eq_true q429
                          go_wp2_with (first | ((with_reducible refine gate_callee (f := 16) rfl ?_); refine goesL_ (some 85) rfl rfl Try.func16 (by kernel_rfl) rfl #[.int .u8 (rd l0 t420)] rfl (by (try simp only [List.map_toArray, List.map_cons, List.map_nil]); first | done | rfl | (simp only [List.length_drop, List.length_take]; rfl)) ?_; (with_reducible refine (platenref05_Class.calls (rd l0 t420) t430 _ A80.out).mono ?_); rintro e w' ⟨rfl, ⟨nd, rfl⟩⟩; refine ⟨_, rfl, ?_⟩))
                          go_ret
                          exact ⟨by first | rfl | (simp [errW_none, errW_some] <;> rfl) | (simp [*, errW_none, errW_some] <;> rfl), by repeat (first | (with_reducible first | exact HB.out | apply below_alloc | apply pw_below_drewN | apply below_drew1 | refine below_set ?_ GE419.out | refine below_set ?_ GE424.out) | exact HB.out)⟩
                      · rw [if_neg c79] at H
                        exact absurd H (by simp)
                    · rw [if_neg c78] at H
                      exact absurd H (by simp)
          · rw [if_neg c15] at H
            exact absurd H (by simp)
        · rw [if_neg c14] at H
          exact absurd H (by simp)

/-- THE ONE PURE STATEMENT of platenlaw20_ObjectIndents: yours. -/
def platenlaw20_ObjectIndents.Pure : Prop := ∀ (l0 : List Int) (a1 : Int), l0.length ≤ maxLen → l0.length * 1 ≤ 140737488351232 → (∀ x ∈ l0, (Lit.int .u8 x).wf = true) → (Lit.int .u8 a1).wf = true → ∃ k, platenlaw20_ObjectIndents.f k l0 a1 = some true
theorem platenlaw20_ObjectIndents.walk (P : platenlaw20_ObjectIndents.Pure) (a0 : Option Addr) (len0 cap0 : Nat) (z0 : List Int) (a1 : Int) (w : World) (w0 : (a0 = none ∧ len0 = 0 ∧ cap0 = 0 ∧ z0 = []) ∨ ∃ x, a0 = some x ∧ len0 ≤ cap0 ∧ cap0 ≤ maxLen ∧ z0.length = cap0 ∧ (∀ i, i < z0.length → w.cell? (x.add i) = some (.int .u8 (z0.getD i 0))) ∧ ∀ n ∈ z0, (Lit.int .u8 n).wf = true) (y0 : len0 * 1 ≤ 140737488351232) (w1 : (Lit.int .u8 a1).wf = true) :
    Calls Try.prog 7 #[.slice a0 len0 cap0, .int .u8 a1] w fun e w' => e = .returned (.bool true) ∧ Below w.heap.size w w' := by
  obtain ⟨l0, rfl, hr0, hm0, hw0, hc0⟩ := ReadsInt.ofRowC w0
  obtain ⟨k, h⟩ := P l0 a1 hm0 y0 hw0 w1
  refine (platenlaw20_ObjectIndents.calls k _ _ l0 a1 true w (Kd.C_of_reads (d := (0 : Int)) (h1 := fun _ => rfl) hr0) hc0 h).mono ?_
  rintro e w' ⟨rfl, hd⟩
  exact ⟨rfl, hd⟩

end Go.Proofs.Ytcljafgpjoagpaa.Pa
