-- Laid by a program of this claim's own (wip/tools/mkprint.py, ext.py): walks of the functions that the statements reach.
import Derived.Test.YtlpcibpeakmmaaaDoorPax0
import Derived.Test.YtlpcibpeakmmaaaDoorPax3
import Derived.Test.YtlpcibpeakmmaaaDoorPax12
namespace Go.Proofs.YtlpcibpeakmmaaaDoor.Pa
open Go.RowKit Go.Proofs.YtlpcibpeakmmaaaDoor.Ext Go.Proofs.YtlpcibpeakmmaaaDoorW.PrintWords Go.Proofs.YtlpcibpeakmmaaaDoorW.PrintLast Go.Proofs.YtlpcibpeakmmaaaDoorW.PrintMore
attribute [local go_sem] max2_int min2_int max_two min_two max_three min_three max_four min_four   -- for this text's walks alone
set_option linter.unusedVariables false
set_option linter.unusedSimpArgs false

/-! ### platenlaw03_LinesIndents: function 7 -/
def platenlaw03_LinesIndents.j0 : Nat → ByteArray → Bool → Option (Bool)
  | 0, _, _ => none
  | k + 1, x0, x10 => if x10 = true then ((platenlaw03_rows.f k).bind fun t237 => (some t237)) else ((lines_Indent.f k x0).bind fun t238 => (if x0.size ≤ 9223372036854775807 then ((platenref03_Indent.f k (bytesOf x0)).bind fun t242 => (if t238 = t242 then ((lines_Bare.f k x0).bind fun t243 => (some (t243 == (t238 == (x0.size : Int))))) else (some false))) else (none)))
def platenlaw03_LinesIndents.f (k : Nat) (a0 : ByteArray) : Option (Bool) := (platenlaw03_rows.f k).bind fun t236 => (if t236 = true then (platenlaw03_LinesIndents.j0 k a0 (decide ((a0.size : Int) > 300))) else (platenlaw03_LinesIndents.j0 k a0 true))
theorem platenlaw03_LinesIndents.mono_l : ∀ k, (∀ y0 y1, LeO (platenlaw03_LinesIndents.j0 k y0 y1) (platenlaw03_LinesIndents.j0 (k + 1) y0 y1))
  | 0 => fun _ _ r h => by simp [platenlaw03_LinesIndents.j0] at h
  | k + 1 => by
    have ih0 := platenlaw03_LinesIndents.mono_l k
    · intro y0 y1
      unfold platenlaw03_LinesIndents.j0
      repeat' first
      | (with_reducible exact ih0 _ _)
      | (with_reducible exact lines_Bare.mono _ _)
      | (with_reducible exact lines_Indent.mono _ _)
      | (with_reducible exact platenlaw03_rows.mono _)
      | (with_reducible exact platenref03_Indent.mono _ _)
      | (with_reducible exact LeO.refl _)
      | (with_reducible exact LeO.none _)
      | (with_reducible refine LeO.ite ?_ ?_)
      | (with_reducible refine LeO.bind ?_ (fun _ => ?_))
      | exact ih0 _ _
      | exact lines_Bare.mono _ _
      | exact lines_Indent.mono _ _
      | exact platenlaw03_rows.mono _
      | exact platenref03_Indent.mono _ _
      | exact LeO.none _
      | refine LeO.ite ?_ ?_
      | refine LeO.bind ?_ (fun _ => ?_)
theorem platenlaw03_LinesIndents.mono : ∀ a0 k, LeO (platenlaw03_LinesIndents.f k a0) (platenlaw03_LinesIndents.f (k + 1) a0) := by
  intro a0 k
  have ih0 := platenlaw03_LinesIndents.mono_l k
  unfold platenlaw03_LinesIndents.f
  repeat' first
      | (with_reducible exact ih0 _ _)
      | (with_reducible exact lines_Bare.mono _ _)
      | (with_reducible exact lines_Indent.mono _ _)
      | (with_reducible exact platenlaw03_rows.mono _)
      | (with_reducible exact platenref03_Indent.mono _ _)
      | (with_reducible exact LeO.refl _)
      | (with_reducible exact LeO.none _)
      | (with_reducible refine LeO.ite ?_ ?_)
      | (with_reducible refine LeO.bind ?_ (fun _ => ?_))
      | exact ih0 _ _
      | exact lines_Bare.mono _ _
      | exact lines_Indent.mono _ _
      | exact platenlaw03_rows.mono _
      | exact platenref03_Indent.mono _ _
      | exact LeO.none _
      | refine LeO.ite ?_ ?_
      | refine LeO.bind ?_ (fun _ => ?_)
set_option maxHeartbeats 8000000 in
set_option maxRecDepth 100000 in
theorem platenlaw03_LinesIndents.calls (k : Nat) (a0 : ByteArray) (r : Bool) (w : World) (hT : Tabs w) (h : platenlaw03_LinesIndents.f k a0 = some r) :
    Calls Tryd.prog 7 #[.string a0] w fun e w' => e = .returned (.bool r) ∧ Below w.heap.size w w' := by
  have HB := Aside0.mk (Below.refl w.heap.size w)
  have HT := Aside0.mk hT
  clear hT
  have H : ((platenlaw03_rows.f k).bind fun t236 => (if t236 = true then (platenlaw03_LinesIndents.j0 k a0 (decide ((a0.size : Int) > 300))) else (platenlaw03_LinesIndents.j0 k a0 true))) = some r := h
  clear h
  have HC2 := Aside0.mk H
  clear H
  go_enter Tryd.func7, Tryd.ntmps7
  go_upto_region 1 with (fail)
  go_cut [10] (fun v10 wc => ∃ (kq : Nat) (x10_1 : Bool), v10 = .bool x10_1 ∧ Aside0 (platenlaw03_LinesIndents.j0 kq a0 x10_1 = some r) ∧ Aside0 (kq ≤ k) ∧ Aside0 (Below w.heap.size w wc))
  case first =>
    have H := HC2.out
    clear HC2
    replace H := Option.bind_eq_some_iff.mp H
    obtain ⟨t236, A30, H⟩ := H
    replace H : (if t236 = true then (platenlaw03_LinesIndents.j0 k a0 (decide ((a0.size : Int) > 300))) else (platenlaw03_LinesIndents.j0 k a0 true)) = some r := H
    have A3 := Aside0.mk A30
    clear A30
    by_cases c4 : t236 = true
    · subst c4
      have H1 : (platenlaw03_LinesIndents.j0 k a0 (decide ((a0.size : Int) > 300))) = some r := by rw [if_pos rfl] at H; exact H
      clear H
      have H := H1
      clear H1
      have H' := Aside0.mk H
      clear H
      go_wp2_with (first | ((with_reducible refine gate_callee (f := 11) rfl ?_); refine goesL_ (some 4) rfl rfl Tryd.func11 (by kernel_rfl) rfl #[] rfl (by (try simp only [List.map_toArray, List.map_cons, List.map_nil]); first | done | rfl | (simp only [List.length_drop, List.length_take]; rfl)) ?_; (with_reducible refine (platenlaw03_rows.calls k  true _ ?side1 A3.out).mono ?_); (case side1 => exact Tabs.below HT.out (by repeat (first | (with_reducible first | exact HB.out | apply below_alloc | apply pw_below_drewN | apply below_drew1) | exact HB.out))); rintro e w5 ⟨rfl, hb⟩; refine ⟨_, rfl, ?_⟩; have n0_ := Aside0.mk (below_step (by repeat (first | (with_reducible first | exact HB.out | apply below_alloc | apply pw_below_drewN | apply below_drew1) | exact HB.out)) hb); clear HB; have HB := n0_; clear n0_; (try clear hb); (try clear hb2); (try clear hk); (try clear hi)))
      go_meet
      case rel => exact ⟨_, (decide ((a0.size : Int) > 300)), (by first | rfl | (simp; done) | (simp [*]; done)), H', ⟨by first | omega | exact Nat.le_refl _⟩, ⟨by repeat (first | (with_reducible first | exact HB.out | apply below_alloc | apply pw_below_drewN | apply below_drew1) | exact HB.out)⟩⟩
    · replace c4 := Bool.eq_false_iff.mpr c4
      subst c4
      have H1 : (platenlaw03_LinesIndents.j0 k a0 true) = some r := by rw [if_neg (show ¬ (false = true) by decide)] at H; exact H
      clear H
      have H := H1
      clear H1
      have H' := Aside0.mk H
      clear H
      go_wp2_with (first | ((with_reducible refine gate_callee (f := 11) rfl ?_); refine goesL_ (some 4) rfl rfl Tryd.func11 (by kernel_rfl) rfl #[] rfl (by (try simp only [List.map_toArray, List.map_cons, List.map_nil]); first | done | rfl | (simp only [List.length_drop, List.length_take]; rfl)) ?_; (with_reducible refine (platenlaw03_rows.calls k  false _ ?side1 A3.out).mono ?_); (case side1 => exact Tabs.below HT.out (by repeat (first | (with_reducible first | exact HB.out | apply below_alloc | apply pw_below_drewN | apply below_drew1) | exact HB.out))); rintro e w6 ⟨rfl, hb⟩; refine ⟨_, rfl, ?_⟩; have n0_ := Aside0.mk (below_step (by repeat (first | (with_reducible first | exact HB.out | apply below_alloc | apply pw_below_drewN | apply below_drew1) | exact HB.out)) hb); clear HB; have HB := n0_; clear n0_; (try clear hb); (try clear hb2); (try clear hk); (try clear hi)))
      go_meet
      case rel => exact ⟨_, (true), (by first | rfl | (simp; done) | (simp [*]; done)), H', ⟨by first | omega | exact Nat.le_refl _⟩, ⟨by repeat (first | (with_reducible first | exact HB.out | apply below_alloc | apply pw_below_drewN | apply below_drew1) | exact HB.out)⟩⟩
  case rest =>
    clear HC2
    try clear c1
    try clear p2
    try clear c4
    obtain ⟨kq, x10_1, rfl, HA, HJ1, HB⟩ := hcut
    cases kq with
    | zero => exact absurd HA.out (by simp [platenlaw03_LinesIndents.j0])
    | succ kj1 =>
      have H := HA.out
      clear HA
      simp only [platenlaw03_LinesIndents.j0] at H
      by_cases c7 : x10_1 = true
      · subst c7
        have H1 : ((platenlaw03_rows.f kj1).bind fun t237 => (some t237)) = some r := by rw [if_pos rfl] at H; exact H
        clear H
        have H := H1
        clear H1
        replace H := Option.bind_eq_some_iff.mp H
        obtain ⟨t237, A80, H⟩ := H
        replace H : (some t237) = some r := H
        have A8 := Aside0.mk A80
        clear A80
        obtain rfl := Option.some.inj H
        go_wp2_with (first | ((with_reducible refine gate_callee (f := 11) rfl ?_); refine goesL_ (some 11) rfl rfl Tryd.func11 (by kernel_rfl) rfl #[] rfl (by (try simp only [List.map_toArray, List.map_cons, List.map_nil]); first | done | rfl | (simp only [List.length_drop, List.length_take]; rfl)) ?_; (with_reducible refine (platenlaw03_rows.calls kj1  t237 _ ?side1 A8.out).mono ?_); (case side1 => exact Tabs.below HT.out (by repeat (first | (with_reducible first | exact HB.out | apply below_alloc | apply pw_below_drewN | apply below_drew1) | exact HB.out))); rintro e w9 ⟨rfl, hb⟩; refine ⟨_, rfl, ?_⟩; have n0_ := Aside0.mk (below_step (by repeat (first | (with_reducible first | exact HB.out | apply below_alloc | apply pw_below_drewN | apply below_drew1) | exact HB.out)) hb); clear HB; have HB := n0_; clear n0_; (try clear hb); (try clear hb2); (try clear hk); (try clear hi)))
        go_ret
        exact ⟨by first | rfl | (simp [errW_none, errW_some] <;> rfl) | (simp [*, errW_none, errW_some] <;> rfl), by repeat (first | (with_reducible first | exact HB.out | apply below_alloc | apply pw_below_drewN | apply below_drew1) | exact HB.out)⟩
      · replace c7 := Bool.eq_false_iff.mpr c7
        subst c7
        have H1 : ((lines_Indent.f kj1 a0).bind fun t238 => (if a0.size ≤ 9223372036854775807 then ((platenref03_Indent.f kj1 (bytesOf a0)).bind fun t242 => (if t238 = t242 then ((lines_Bare.f kj1 a0).bind fun t243 => (some (t243 == (t238 == (a0.size : Int))))) else (some false))) else (none))) = some r := by rw [if_neg (show ¬ (false = true) by decide)] at H; exact H
        clear H
        have H := H1
        clear H1
        replace H := Option.bind_eq_some_iff.mp H
        obtain ⟨t238, A100, H⟩ := H
        replace H : (if a0.size ≤ 9223372036854775807 then ((platenref03_Indent.f kj1 (bytesOf a0)).bind fun t242 => (if t238 = t242 then ((lines_Bare.f kj1 a0).bind fun t243 => (some (t243 == (t238 == (a0.size : Int))))) else (some false))) else (none)) = some r := H
        have A10 := Aside0.mk A100
        clear A100
        by_cases c11 : a0.size ≤ 9223372036854775807
        · rw [if_pos c11] at H
          have c11b0 := eq_true c11
          have c11b1 : decide (a0.size ≤ 9223372036854775807) = true := decide_eq_true c11
          try have c11b2 : (9223372036854775807 < a0.size) = False := eq_false (Nat.not_lt.2 c11)
          clear c11
          obtain ⟨y239, hy239⟩ : ∃ y_ : List Int, y_ = (bytesOf a0) := ⟨_, rfl⟩
          replace H : ((platenref03_Indent.f kj1 y239).bind fun t242 => (if t238 = t242 then ((lines_Bare.f kj1 a0).bind fun t243 => (some (t243 == (t238 == (a0.size : Int))))) else (some false))) = some r := by first | (rw [hy239]; with_reducible exact H) | (have H2_ := (Option.bind_some _ _).symm.trans H; rw [hy239]; with_reducible exact H2_) | (have H2_ := (Option.bind_some _ _).symm.trans H; with_reducible exact H2_) | with_reducible exact H | (rw [hy239]; exact H) | exact H
          have Ny239 := Aside0.mk hy239
          clear hy239
          replace H := Option.bind_eq_some_iff.mp H
          obtain ⟨t242, A120, H⟩ := H
          replace H : (if t238 = t242 then ((lines_Bare.f kj1 a0).bind fun t243 => (some (t243 == (t238 == (a0.size : Int))))) else (some false)) = some r := H
          have A12 := Aside0.mk A120
          clear A120
          by_cases c13 : t238 = t242
          · rw [if_pos c13] at H
            have c13b0 : (t238 == t242) = true := beq_iff_eq.mpr c13
            have c13b1 : (t238 != t242) = false := bne_eq_false_iff_eq.mpr c13
            clear c13
            replace H := Option.bind_eq_some_iff.mp H
            obtain ⟨t243, A140, H⟩ := H
            replace H : (some (t243 == (t238 == (a0.size : Int)))) = some r := H
            have A14 := Aside0.mk A140
            clear A140
            obtain rfl := Option.some.inj H
            go_wp2_with (first | ((with_reducible refine gate_callee (f := 21) rfl ?_); refine goesL_ (some 13) rfl rfl Tryd.func21 (by kernel_rfl) rfl #[.string a0] rfl (by (try simp only [List.map_toArray, List.map_cons, List.map_nil]); first | done | rfl | (simp only [List.length_drop, List.length_take]; rfl)) ?_; (with_reducible refine (lines_Indent.calls kj1 a0 t238 _ A10.out).mono ?_); rintro e w' ⟨rfl, ⟨nd, rfl⟩⟩; refine ⟨_, rfl, ?_⟩) | ((with_reducible refine gate_dst (N := 16) rfl ?_); (try (refine gate_guard (by rfl) ?_; dsimp only)); refine V_conv 9 22 5 ?hg (N := 16) ?hd (.tmp 15) ?ho Tryd.underlying9 Tryd.underlying22 Tryd.underlying5 a0 ?hx (of_decide_eq_true (by first | (with_reducible assumption) | assumption)) ?_; (case hd => rfl); (case hg => rfl); (case ho => rfl); (case hx => first | rfl | (go_simp; done) | (go_simp; rfl)); intro v240 w15 ho16 hb hg_ hnew_; clear hg_ hnew_; (first | rw [← Ny239.out] at ho16 | (simp only [Int.reduceToNat] at ho16; rw [← Ny239.out] at ho16)); have n0_ := Aside0.mk (Kd.V_lower (Kd.V_mono (ok' := fun k_ => True) ho16 (fun k_ hk_ => trivial)) (below_size (by repeat (first | (with_reducible first | exact HB.out | apply below_alloc | apply pw_below_drewN | apply below_drew1) | exact HB.out)))); have n1_ := Aside0.mk (below_step (by repeat (first | (with_reducible first | exact HB.out | apply below_alloc | apply pw_below_drewN | apply below_drew1) | exact HB.out)) hb); clear HB; have HO241 := n0_; have HB := n1_; clear n0_ n1_; clear hb ho16; obtain ⟨Ao17, co17, eo17⟩ := Kd.V_slice HO241.out; subst eo17) | ((with_reducible refine gate_callee (f := 22) rfl ?_); refine goesL_ (some 17) rfl rfl Tryd.func22 (by kernel_rfl) rfl #[.slice Ao17 y239.length co17] rfl (by (try simp only [List.map_toArray, List.map_cons, List.map_nil]); first | done | rfl | (simp only [List.length_drop, List.length_take]; rfl)) ?_; (with_reducible refine (platenref03_Indent.calls kj1 _ _ y239 t242 _ ?side1 ?side2 A12.out).mono ?_); (case side1 => repeat (first | exact (Kd.V_reads' HO241.out).2.2 | (with_reducible refine Kd.C_alloc ?_ _) | (with_reducible refine Kd.C_drewN ?_ _) | (with_reducible refine Kd.C_drew ?_))); (case side2 => exact (Kd.V_reads' HO241.out).2.1); rintro e w' ⟨rfl, ⟨nd, rfl⟩⟩; refine ⟨_, rfl, ?_⟩) | (go_at_call 23; (with_reducible refine (lines_Bare.calls kj1 a0 t243 _ A14.out).mono ?_); rintro e w' ⟨rfl, ⟨nd, rfl⟩⟩))
            go_ret
            exact ⟨by first | rfl | (simp [errW_none, errW_some] <;> rfl) | (simp [*, errW_none, errW_some] <;> rfl), by repeat (first | (with_reducible first | exact HB.out | apply below_alloc | apply pw_below_drewN | apply below_drew1) | exact HB.out)⟩
          · rw [if_neg c13] at H
            have c13b0 : (t238 == t242) = false := beq_eq_false_iff_ne.mpr c13
            have c13b1 : (t238 != t242) = true := bne_iff_ne.mpr c13
            obtain rfl := Option.some.inj H
            go_wp2_with (first | ((with_reducible refine gate_callee (f := 21) rfl ?_); refine goesL_ (some 13) rfl rfl Tryd.func21 (by kernel_rfl) rfl #[.string a0] rfl (by (try simp only [List.map_toArray, List.map_cons, List.map_nil]); first | done | rfl | (simp only [List.length_drop, List.length_take]; rfl)) ?_; (with_reducible refine (lines_Indent.calls kj1 a0 t238 _ A10.out).mono ?_); rintro e w' ⟨rfl, ⟨nd, rfl⟩⟩; refine ⟨_, rfl, ?_⟩) | ((with_reducible refine gate_dst (N := 16) rfl ?_); (try (refine gate_guard (by rfl) ?_; dsimp only)); refine V_conv 9 22 5 ?hg (N := 16) ?hd (.tmp 15) ?ho Tryd.underlying9 Tryd.underlying22 Tryd.underlying5 a0 ?hx (of_decide_eq_true (by first | (with_reducible assumption) | assumption)) ?_; (case hd => rfl); (case hg => rfl); (case ho => rfl); (case hx => first | rfl | (go_simp; done) | (go_simp; rfl)); intro v240 w18 ho19 hb hg_ hnew_; clear hg_ hnew_; (first | rw [← Ny239.out] at ho19 | (simp only [Int.reduceToNat] at ho19; rw [← Ny239.out] at ho19)); have n0_ := Aside0.mk (Kd.V_lower (Kd.V_mono (ok' := fun k_ => True) ho19 (fun k_ hk_ => trivial)) (below_size (by repeat (first | (with_reducible first | exact HB.out | apply below_alloc | apply pw_below_drewN | apply below_drew1) | exact HB.out)))); have n1_ := Aside0.mk (below_step (by repeat (first | (with_reducible first | exact HB.out | apply below_alloc | apply pw_below_drewN | apply below_drew1) | exact HB.out)) hb); clear HB; have HO241 := n0_; have HB := n1_; clear n0_ n1_; clear hb ho19; obtain ⟨Ao20, co20, eo20⟩ := Kd.V_slice HO241.out; subst eo20) | ((with_reducible refine gate_callee (f := 22) rfl ?_); refine goesL_ (some 17) rfl rfl Tryd.func22 (by kernel_rfl) rfl #[.slice Ao20 y239.length co20] rfl (by (try simp only [List.map_toArray, List.map_cons, List.map_nil]); first | done | rfl | (simp only [List.length_drop, List.length_take]; rfl)) ?_; (with_reducible refine (platenref03_Indent.calls kj1 _ _ y239 t242 _ ?side1 ?side2 A12.out).mono ?_); (case side1 => repeat (first | exact (Kd.V_reads' HO241.out).2.2 | (with_reducible refine Kd.C_alloc ?_ _) | (with_reducible refine Kd.C_drewN ?_ _) | (with_reducible refine Kd.C_drew ?_))); (case side2 => exact (Kd.V_reads' HO241.out).2.1); rintro e w' ⟨rfl, ⟨nd, rfl⟩⟩; refine ⟨_, rfl, ?_⟩))
            go_ret
            exact ⟨by first | rfl | (simp [errW_none, errW_some] <;> rfl) | (simp [*, errW_none, errW_some] <;> rfl), by repeat (first | (with_reducible first | exact HB.out | apply below_alloc | apply pw_below_drewN | apply below_drew1) | exact HB.out)⟩
        · rw [if_neg c11] at H
          exact absurd H (by simp)

/-- THE ONE PURE STATEMENT of platenlaw03_LinesIndents: yours. -/
def platenlaw03_LinesIndents.Pure : Prop := ∀ (a0 : ByteArray), a0.size ≤ 140737488351232 → ∃ k, platenlaw03_LinesIndents.f k a0 = some true
theorem platenlaw03_LinesIndents.walk (P : platenlaw03_LinesIndents.Pure) (a0 : ByteArray) (w : World) (hT : Tabs w) (w0 : a0.size ≤ 140737488351232) :
    Calls Tryd.prog 7 #[.string a0] w fun e w' => e = .returned (.bool true) ∧ Below w.heap.size w w' := by
  obtain ⟨k, h⟩ := P a0 w0
  refine (platenlaw03_LinesIndents.calls k a0 true w hT h).mono ?_
  rintro e w' ⟨rfl, hd⟩
  exact ⟨rfl, hd⟩

end Go.Proofs.YtlpcibpeakmmaaaDoor.Pa
