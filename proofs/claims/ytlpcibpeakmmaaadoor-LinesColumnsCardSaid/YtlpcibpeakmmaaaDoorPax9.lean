-- Laid by a program of this claim's own (wip/tools/mkprint.py, ext.py): walks of the functions that the statements reach.
import Derived.Test.YtlpcibpeakmmaaaDoorPax0
import Derived.Test.YtlpcibpeakmmaaaDoorPax3
import Derived.Test.YtlpcibpeakmmaaaDoorPax8
namespace Go.Proofs.YtlpcibpeakmmaaaDoor.Pa
open Go.RowKit Go.Proofs.YtlpcibpeakmmaaaDoor.Ext Go.Proofs.YtlpcibpeakmmaaaDoorW.PrintWords Go.Proofs.YtlpcibpeakmmaaaDoorW.PrintLast Go.Proofs.YtlpcibpeakmmaaaDoorW.PrintMore
attribute [local go_sem] max2_int min2_int max_two min_two max_three min_three max_four min_four   -- for this text's walks alone
set_option linter.unusedVariables false
set_option linter.unusedSimpArgs false

/-! ### platenlaw03_LinesColumns: function 5 -/
def platenlaw03_LinesColumns.j0 : Nat → List Int → Int → Int → Bool → Option (Bool)
  | 0, _, _, _, _ => none
  | k + 1, x0, x1, x2, x13 => if x13 = true then ((platenlaw03_rows.f k).bind fun t205 => (some t205)) else ((lines_Column.f k x0 x1 (wrap64 (x2))).bind fun t206 => ((platenref03_Column.f k x0 x1 (wrap64 (x2))).bind fun t207 => (some (t206 == t207))))
def platenlaw03_LinesColumns.f (k : Nat) (l0 : List Int) (a1 : Int) (a2 : Int) : Option (Bool) := (platenlaw03_rows.f k).bind fun t204 => (if t204 = true then (platenlaw03_LinesColumns.j0 k l0 a1 a2 (decide ((l0.length : Int) > 200))) else (platenlaw03_LinesColumns.j0 k l0 a1 a2 true))
theorem platenlaw03_LinesColumns.mono_l : ∀ k, (∀ y0 y1 y2 y3, LeO (platenlaw03_LinesColumns.j0 k y0 y1 y2 y3) (platenlaw03_LinesColumns.j0 (k + 1) y0 y1 y2 y3))
  | 0 => fun _ _ _ _ r h => by simp [platenlaw03_LinesColumns.j0] at h
  | k + 1 => by
    have ih0 := platenlaw03_LinesColumns.mono_l k
    · intro y0 y1 y2 y3
      unfold platenlaw03_LinesColumns.j0
      repeat' first
      | (with_reducible exact ih0 _ _ _ _)
      | (with_reducible exact lines_Column.mono _ _ _ _)
      | (with_reducible exact platenlaw03_rows.mono _)
      | (with_reducible exact platenref03_Column.mono _ _ _ _)
      | (with_reducible exact LeO.refl _)
      | (with_reducible exact LeO.none _)
      | (with_reducible refine LeO.ite ?_ ?_)
      | (with_reducible refine LeO.bind ?_ (fun _ => ?_))
      | exact ih0 _ _ _ _
      | exact lines_Column.mono _ _ _ _
      | exact platenlaw03_rows.mono _
      | exact platenref03_Column.mono _ _ _ _
      | exact LeO.none _
      | refine LeO.ite ?_ ?_
      | refine LeO.bind ?_ (fun _ => ?_)
theorem platenlaw03_LinesColumns.mono : ∀ a0 a1 a2 k, LeO (platenlaw03_LinesColumns.f k a0 a1 a2) (platenlaw03_LinesColumns.f (k + 1) a0 a1 a2) := by
  intro a0 a1 a2 k
  have ih0 := platenlaw03_LinesColumns.mono_l k
  unfold platenlaw03_LinesColumns.f
  repeat' first
      | (with_reducible exact ih0 _ _ _ _)
      | (with_reducible exact lines_Column.mono _ _ _ _)
      | (with_reducible exact platenlaw03_rows.mono _)
      | (with_reducible exact platenref03_Column.mono _ _ _ _)
      | (with_reducible exact LeO.refl _)
      | (with_reducible exact LeO.none _)
      | (with_reducible refine LeO.ite ?_ ?_)
      | (with_reducible refine LeO.bind ?_ (fun _ => ?_))
      | exact ih0 _ _ _ _
      | exact lines_Column.mono _ _ _ _
      | exact platenlaw03_rows.mono _
      | exact platenref03_Column.mono _ _ _ _
      | exact LeO.none _
      | refine LeO.ite ?_ ?_
      | refine LeO.bind ?_ (fun _ => ?_)
set_option maxHeartbeats 8000000 in
set_option maxRecDepth 100000 in
theorem platenlaw03_LinesColumns.calls (k : Nat) (A0 : Option Addr) (c0 : Nat) (l0 : List Int) (a1 : Int) (a2 : Int) (r : Bool) (w : World) (hT : Tabs w) (hr0 : Kd.C (Kd.int .u8) w A0 l0.length l0) (hc0 : l0.length ≤ c0) (h : platenlaw03_LinesColumns.f k l0 a1 a2 = some r) :
    Calls Tryd.prog 5 #[.slice A0 l0.length c0, .int .i64 a1, .int .i8 a2] w fun e w' => e = .returned (.bool r) ∧ Below w.heap.size w w' := by
  have HR0 := Aside0.mk hr0
  have HC0 := Aside0.mk hc0
  clear hr0 hc0
  have HB := Aside0.mk (Below.refl w.heap.size w)
  have HT := Aside0.mk hT
  clear hT
  have H : ((platenlaw03_rows.f k).bind fun t204 => (if t204 = true then (platenlaw03_LinesColumns.j0 k l0 a1 a2 (decide ((l0.length : Int) > 200))) else (platenlaw03_LinesColumns.j0 k l0 a1 a2 true))) = some r := h
  clear h
  have HC4 := Aside0.mk H
  clear H
  go_enter Tryd.func5, Tryd.ntmps5
  go_upto_region 1 with (fail)
  go_cut [13] (fun v13 wc => ∃ (kq : Nat) (x13_3 : Bool), v13 = .bool x13_3 ∧ Aside0 (platenlaw03_LinesColumns.j0 kq l0 a1 a2 x13_3 = some r) ∧ Aside0 (kq ≤ k) ∧ Aside0 (Below w.heap.size w wc))
  case first =>
    have H := HC4.out
    clear HC4
    replace H := Option.bind_eq_some_iff.mp H
    obtain ⟨t204, A50, H⟩ := H
    replace H : (if t204 = true then (platenlaw03_LinesColumns.j0 k l0 a1 a2 (decide ((l0.length : Int) > 200))) else (platenlaw03_LinesColumns.j0 k l0 a1 a2 true)) = some r := H
    have A5 := Aside0.mk A50
    clear A50
    by_cases c6 : t204 = true
    · subst c6
      have H1 : (platenlaw03_LinesColumns.j0 k l0 a1 a2 (decide ((l0.length : Int) > 200))) = some r := by rw [if_pos rfl] at H; exact H
      clear H
      have H := H1
      clear H1
      have H' := Aside0.mk H
      clear H
      go_wp2_with (first | ((with_reducible refine gate_callee (f := 11) rfl ?_); refine goesL_ (some 7) rfl rfl Tryd.func11 (by kernel_rfl) rfl #[] rfl (by (try simp only [List.map_toArray, List.map_cons, List.map_nil]); first | done | rfl | (simp only [List.length_drop, List.length_take]; rfl)) ?_; (with_reducible refine (platenlaw03_rows.calls k  true _ ?side1 A5.out).mono ?_); (case side1 => exact Tabs.below HT.out (by repeat (first | (with_reducible first | exact HB.out | apply below_alloc | apply pw_below_drewN | apply below_drew1) | exact HB.out))); rintro e w7 ⟨rfl, hb⟩; refine ⟨_, rfl, ?_⟩; have n0_ := Aside0.mk (below_step (by repeat (first | (with_reducible first | exact HB.out | apply below_alloc | apply pw_below_drewN | apply below_drew1) | exact HB.out)) hb); clear HB; have HB := n0_; clear n0_; (try clear hb); (try clear hb2); (try clear hk); (try clear hi)))
      go_meet
      case rel => exact ⟨_, (decide ((l0.length : Int) > 200)), (by first | rfl | (simp; done) | (simp [*]; done)), H', ⟨by first | omega | exact Nat.le_refl _⟩, ⟨by repeat (first | (with_reducible first | exact HB.out | apply below_alloc | apply pw_below_drewN | apply below_drew1) | exact HB.out)⟩⟩
    · replace c6 := Bool.eq_false_iff.mpr c6
      subst c6
      have H1 : (platenlaw03_LinesColumns.j0 k l0 a1 a2 true) = some r := by rw [if_neg (show ¬ (false = true) by decide)] at H; exact H
      clear H
      have H := H1
      clear H1
      have H' := Aside0.mk H
      clear H
      go_wp2_with (first | ((with_reducible refine gate_callee (f := 11) rfl ?_); refine goesL_ (some 7) rfl rfl Tryd.func11 (by kernel_rfl) rfl #[] rfl (by (try simp only [List.map_toArray, List.map_cons, List.map_nil]); first | done | rfl | (simp only [List.length_drop, List.length_take]; rfl)) ?_; (with_reducible refine (platenlaw03_rows.calls k  false _ ?side1 A5.out).mono ?_); (case side1 => exact Tabs.below HT.out (by repeat (first | (with_reducible first | exact HB.out | apply below_alloc | apply pw_below_drewN | apply below_drew1) | exact HB.out))); rintro e w8 ⟨rfl, hb⟩; refine ⟨_, rfl, ?_⟩; have n0_ := Aside0.mk (below_step (by repeat (first | (with_reducible first | exact HB.out | apply below_alloc | apply pw_below_drewN | apply below_drew1) | exact HB.out)) hb); clear HB; have HB := n0_; clear n0_; (try clear hb); (try clear hb2); (try clear hk); (try clear hi)))
      go_meet
      case rel => exact ⟨_, (true), (by first | rfl | (simp; done) | (simp [*]; done)), H', ⟨by first | omega | exact Nat.le_refl _⟩, ⟨by repeat (first | (with_reducible first | exact HB.out | apply below_alloc | apply pw_below_drewN | apply below_drew1) | exact HB.out)⟩⟩
  case rest =>
    clear HC4
    try clear c1
    try clear p2
    try clear c5
    try clear c6
    obtain ⟨kq, x13_3, rfl, HA, HJ3, HB⟩ := hcut
    cases kq with
    | zero => exact absurd HA.out (by simp [platenlaw03_LinesColumns.j0])
    | succ kj3 =>
      have H := HA.out
      clear HA
      simp only [platenlaw03_LinesColumns.j0] at H
      by_cases c9 : x13_3 = true
      · subst c9
        have H1 : ((platenlaw03_rows.f kj3).bind fun t205 => (some t205)) = some r := by rw [if_pos rfl] at H; exact H
        clear H
        have H := H1
        clear H1
        replace H := Option.bind_eq_some_iff.mp H
        obtain ⟨t205, A100, H⟩ := H
        replace H : (some t205) = some r := H
        have A10 := Aside0.mk A100
        clear A100
        obtain rfl := Option.some.inj H
        go_wp2_with (first | ((with_reducible refine gate_callee (f := 11) rfl ?_); refine goesL_ (some 14) rfl rfl Tryd.func11 (by kernel_rfl) rfl #[] rfl (by (try simp only [List.map_toArray, List.map_cons, List.map_nil]); first | done | rfl | (simp only [List.length_drop, List.length_take]; rfl)) ?_; (with_reducible refine (platenlaw03_rows.calls kj3  t205 _ ?side1 A10.out).mono ?_); (case side1 => exact Tabs.below HT.out (by repeat (first | (with_reducible first | exact HB.out | apply below_alloc | apply pw_below_drewN | apply below_drew1) | exact HB.out))); rintro e w11 ⟨rfl, hb⟩; refine ⟨_, rfl, ?_⟩; have n0_ := Aside0.mk (below_step (by repeat (first | (with_reducible first | exact HB.out | apply below_alloc | apply pw_below_drewN | apply below_drew1) | exact HB.out)) hb); clear HB; have HB := n0_; clear n0_; (try clear hb); (try clear hb2); (try clear hk); (try clear hi)))
        go_ret
        exact ⟨by first | rfl | (simp [errW_none, errW_some] <;> rfl) | (simp [*, errW_none, errW_some] <;> rfl), by repeat (first | (with_reducible first | exact HB.out | apply below_alloc | apply pw_below_drewN | apply below_drew1) | exact HB.out)⟩
      · replace c9 := Bool.eq_false_iff.mpr c9
        subst c9
        have H1 : ((lines_Column.f kj3 l0 a1 (wrap64 (a2))).bind fun t206 => ((platenref03_Column.f kj3 l0 a1 (wrap64 (a2))).bind fun t207 => (some (t206 == t207)))) = some r := by rw [if_neg (show ¬ (false = true) by decide)] at H; exact H
        clear H
        have H := H1
        clear H1
        replace H := Option.bind_eq_some_iff.mp H
        obtain ⟨t206, A120, H⟩ := H
        replace H : ((platenref03_Column.f kj3 l0 a1 (wrap64 (a2))).bind fun t207 => (some (t206 == t207))) = some r := H
        have A12 := Aside0.mk A120
        clear A120
        replace H := Option.bind_eq_some_iff.mp H
        obtain ⟨t207, A130, H⟩ := H
        replace H : (some (t206 == t207)) = some r := H
        have A13 := Aside0.mk A130
        clear A130
        obtain rfl := Option.some.inj H
        go_wp2_with (first | ((with_reducible refine gate_callee (f := 18) rfl ?_); refine goesL_ (some 19) rfl rfl Tryd.func18 (by kernel_rfl) rfl #[.slice A0 l0.length c0, .int .i64 a1, .int .i64 (wrap64 (a2))] rfl (by (try simp only [List.map_toArray, List.map_cons, List.map_nil]); first | done | rfl | (simp only [List.length_drop, List.length_take]; rfl)) ?_; (with_reducible refine (lines_Column.calls kj3 _ _ l0 a1 (wrap64 (a2)) t206 _ ?side3 ?side1 ?side2 A12.out).mono ?_); (case side1 => repeat (first | exact (Kd.C_below HR0.out HB.out) | (with_reducible refine Kd.C_alloc ?_ _) | (with_reducible refine Kd.C_drewN ?_ _) | (with_reducible refine Kd.C_drew ?_))); (case side2 => exact HC0.out); (case side3 => exact Tabs.below HT.out (by repeat (first | (with_reducible first | exact HB.out | apply below_alloc | apply pw_below_drewN | apply below_drew1) | exact HB.out))); rintro e w14 ⟨rfl, hb⟩; refine ⟨_, rfl, ?_⟩; have n0_ := Aside0.mk (below_step (by repeat (first | (with_reducible first | exact HB.out | apply below_alloc | apply pw_below_drewN | apply below_drew1) | exact HB.out)) hb); clear HB; have HB := n0_; clear n0_; (try clear hb); (try clear hb2); (try clear hk); (try clear hi)) | ((with_reducible refine gate_callee (f := 19) rfl ?_); refine goesL_ (some 24) rfl rfl Tryd.func19 (by kernel_rfl) rfl #[.slice A0 l0.length c0, .int .i64 a1, .int .i64 (wrap64 (a2))] rfl (by (try simp only [List.map_toArray, List.map_cons, List.map_nil]); first | done | rfl | (simp only [List.length_drop, List.length_take]; rfl)) ?_; (with_reducible refine (platenref03_Column.calls kj3 _ _ l0 a1 (wrap64 (a2)) t207 _ ?side1 ?side2 A13.out).mono ?_); (case side1 => repeat (first | exact (Kd.C_below HR0.out HB.out) | (with_reducible refine Kd.C_alloc ?_ _) | (with_reducible refine Kd.C_drewN ?_ _) | (with_reducible refine Kd.C_drew ?_))); (case side2 => exact HC0.out); rintro e w15 ⟨rfl, hb⟩; refine ⟨_, rfl, ?_⟩; have n0_ := Aside0.mk (below_step (by repeat (first | (with_reducible first | exact HB.out | apply below_alloc | apply pw_below_drewN | apply below_drew1) | exact HB.out)) hb); clear HB; have HB := n0_; clear n0_; (try clear hb); (try clear hb2); (try clear hk); (try clear hi)))
        go_ret
        exact ⟨by first | rfl | (simp [errW_none, errW_some] <;> rfl) | (simp [*, errW_none, errW_some] <;> rfl), by repeat (first | (with_reducible first | exact HB.out | apply below_alloc | apply pw_below_drewN | apply below_drew1) | exact HB.out)⟩

/-- THE ONE PURE STATEMENT of platenlaw03_LinesColumns: yours. -/
def platenlaw03_LinesColumns.Pure : Prop := ∀ (l0 : List Int) (a1 : Int) (a2 : Int), l0.length ≤ maxLen → l0.length * 1 ≤ 140737488351232 → (∀ x ∈ l0, (Lit.int .u8 x).wf = true) → (Lit.int .i64 a1).wf = true → (Lit.int .i8 a2).wf = true → ∃ k, platenlaw03_LinesColumns.f k l0 a1 a2 = some true
theorem platenlaw03_LinesColumns.walk (P : platenlaw03_LinesColumns.Pure) (a0 : Option Addr) (len0 cap0 : Nat) (z0 : List Int) (a1 : Int) (a2 : Int) (w : World) (hT : Tabs w) (w0 : (a0 = none ∧ len0 = 0 ∧ cap0 = 0 ∧ z0 = []) ∨ ∃ x, a0 = some x ∧ len0 ≤ cap0 ∧ cap0 ≤ maxLen ∧ z0.length = cap0 ∧ (∀ i, i < z0.length → w.cell? (x.add i) = some (.int .u8 (z0.getD i 0))) ∧ ∀ n ∈ z0, (Lit.int .u8 n).wf = true) (y0 : len0 * 1 ≤ 140737488351232) (w1 : (Lit.int .i64 a1).wf = true) (w2 : (Lit.int .i8 a2).wf = true) :
    Calls Tryd.prog 5 #[.slice a0 len0 cap0, .int .i64 a1, .int .i8 a2] w fun e w' => e = .returned (.bool true) ∧ Below w.heap.size w w' := by
  obtain ⟨l0, rfl, hr0, hm0, hw0, hc0⟩ := ReadsInt.ofRowC w0
  obtain ⟨k, h⟩ := P l0 a1 a2 hm0 y0 hw0 w1 w2
  refine (platenlaw03_LinesColumns.calls k _ _ l0 a1 a2 true w hT (Kd.C_of_reads (d := (0 : Int)) (h1 := fun _ => rfl) hr0) hc0 h).mono ?_
  rintro e w' ⟨rfl, hd⟩
  exact ⟨rfl, hd⟩

end Go.Proofs.YtlpcibpeakmmaaaDoor.Pa
