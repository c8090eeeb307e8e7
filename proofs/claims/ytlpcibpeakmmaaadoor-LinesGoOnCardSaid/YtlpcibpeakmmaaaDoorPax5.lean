-- Laid by a program of this claim's own (wip/tools/mkprint.py, ext.py): walks of the functions that the statements reach.
import Derived.Test.YtlpcibpeakmmaaaDoorPax0
import Derived.Test.YtlpcibpeakmmaaaDoorPax3
namespace Go.Proofs.YtlpcibpeakmmaaaDoor.Pa
open Go.RowKit Go.Proofs.YtlpcibpeakmmaaaDoor.Ext Go.Proofs.YtlpcibpeakmmaaaDoorW.PrintWords Go.Proofs.YtlpcibpeakmmaaaDoorW.PrintLast Go.Proofs.YtlpcibpeakmmaaaDoorW.PrintMore
attribute [local go_sem] max2_int min2_int max_two min_two max_three min_three max_four min_four   -- for this text's walks alone
set_option linter.unusedVariables false
set_option linter.unusedSimpArgs false

/-! ### platenref03_Spans: function 16 -/
def platenref03_Spans.l0 : Nat → List Int → List (S32) → Int → List Int → Int → Option ((List (S32)))
  | 0, _, _, _, _, _ => none
  | k + 1, x0, x3, x4, x5, x6 => if x6 < (x5.length : Int) then (if 0 ≤ x6 then (if x3.length < 8796093022208 then (platenref03_Spans.l0 k x0 (x3 ++ [(⟨x4, wrap64 ((rd x5 x6) - x4)⟩ : S32)]) (wrap64 ((rd x5 x6) + 1)) x5 (wrap64 (x6 + 1))) else (none)) else (none)) else (if x3.length < 8796093022208 then (some (x3 ++ [(⟨x4, wrap64 ((x0.length : Int) - x4)⟩ : S32)])) else (none))
def platenref03_Spans.f (k : Nat) (l0 : List Int) : Option ((List (S32))) := (platenref03_Ends.f k l0).bind fun t160 => (platenref03_Spans.l0 k l0 ([] : List (S32)) 0 t160 0)
theorem platenref03_Spans.mono_l : ∀ k, (∀ y0 y1 y2 y3 y4, LeO (platenref03_Spans.l0 k y0 y1 y2 y3 y4) (platenref03_Spans.l0 (k + 1) y0 y1 y2 y3 y4))
  | 0 => fun _ _ _ _ _ r h => by simp [platenref03_Spans.l0] at h
  | k + 1 => by
    have ih0 := platenref03_Spans.mono_l k
    · intro y0 y1 y2 y3 y4
      unfold platenref03_Spans.l0
      repeat' first
      | (with_reducible exact ih0 _ _ _ _ _)
      | (with_reducible exact platenref03_Ends.mono _ _)
      | (with_reducible exact LeO.refl _)
      | (with_reducible exact LeO.none _)
      | (with_reducible refine LeO.ite ?_ ?_)
      | (with_reducible refine LeO.bind ?_ (fun _ => ?_))
      | exact ih0 _ _ _ _ _
      | exact platenref03_Ends.mono _ _
      | exact LeO.none _
      | refine LeO.ite ?_ ?_
      | refine LeO.bind ?_ (fun _ => ?_)
theorem platenref03_Spans.mono : ∀ a0 k, LeO (platenref03_Spans.f k a0) (platenref03_Spans.f (k + 1) a0) := by
  intro a0 k
  have ih0 := platenref03_Spans.mono_l k
  unfold platenref03_Spans.f
  repeat' first
      | (with_reducible exact ih0 _ _ _ _ _)
      | (with_reducible exact platenref03_Ends.mono _ _)
      | (with_reducible exact LeO.refl _)
      | (with_reducible exact LeO.none _)
      | (with_reducible refine LeO.ite ?_ ?_)
      | (with_reducible refine LeO.bind ?_ (fun _ => ?_))
      | exact ih0 _ _ _ _ _
      | exact platenref03_Ends.mono _ _
      | exact LeO.none _
      | refine LeO.ite ?_ ?_
      | refine LeO.bind ?_ (fun _ => ?_)
set_option maxHeartbeats 8000000 in
set_option maxRecDepth 100000 in
theorem platenref03_Spans.calls (k : Nat) (A0 : Option Addr) (c0 : Nat) (l0 : List Int) (r : List (S32)) (w : World) (hr0 : Kd.C (Kd.int .u8) w A0 l0.length l0) (hc0 : l0.length ≤ c0) (h : platenref03_Spans.f k l0 = some r) :
    Calls Tryd.prog 16 #[.slice A0 l0.length c0] w fun e w' => ∃ v0_ : Value, e = .returned (v0_) ∧ Kd.R k32 32 w' w.heap.size (fun _ => True) v0_ r ∧ Below w.heap.size w w' := by
  have hu32 := Tryd.underlying32
  have HR0 := Aside0.mk hr0
  have HC0 := Aside0.mk hc0
  clear hr0 hc0
  have HB := Aside0.mk (Below.refl w.heap.size w)
  have H : ((platenref03_Ends.f k l0).bind fun t160 => (platenref03_Spans.l0 k l0 ([] : List (S32)) 0 t160 0)) = some r := h
  clear h
  replace H := Option.bind_eq_some_iff.mp H
  obtain ⟨t160, A20, H⟩ := H
  replace H : (platenref03_Spans.l0 k l0 ([] : List (S32)) 0 t160 0) = some r := H
  have A2 := Aside0.mk A20
  clear A20
  have H' := Aside0.mk H
  clear H
  go_enter Tryd.func16, Tryd.ntmps16
  go_wp2_with (first | ((with_reducible refine gate_callee (f := 13) rfl ?_); refine goesL_ (some 8) rfl rfl Tryd.func13 (by kernel_rfl) rfl #[.slice A0 l0.length c0] rfl (by (try simp only [List.map_toArray, List.map_cons, List.map_nil]); first | done | rfl | (simp only [List.length_drop, List.length_take]; rfl)) ?_; (with_reducible refine (platenref03_Ends.calls k _ _ l0 t160 _ ?side1 ?side2 A2.out).mono ?_); (case side1 => repeat (first | exact HR0.out | (with_reducible refine Kd.C_alloc ?_ _) | (with_reducible refine Kd.C_drewN ?_ _) | (with_reducible refine Kd.C_drew ?_))); (case side2 => exact HC0.out); rintro e w3 ⟨v161, rfl, ho0, hb⟩; refine ⟨_, rfl, ?_⟩; have n0_ := Aside0.mk (Kd.R_lower ho0 (below_size (by repeat (first | (with_reducible first | exact HB.out | apply below_alloc | apply pw_below_drewN | apply below_drew1) | exact HB.out)))); have n1_ := Aside0.mk (below_step (by repeat (first | (with_reducible first | exact HB.out | apply below_alloc | apply pw_below_drewN | apply below_drew1) | exact HB.out)) hb); clear HB; have HO162 := n0_; have HB := n1_; clear n0_ n1_; (try clear hb); (try clear hb2); (try clear hk); (try clear hi); (try clear ho0)))
  go_loopg [3, 4, 6] k (fun kq v3 v4 v6 w' => ∃ (x3_1 : List (S32)) (x4_1 : Int) (x6_1 : Int), v4 = .int .i64 x4_1 ∧ v6 = .int .i64 x6_1 ∧ Aside0 (platenref03_Spans.l0 kq l0 x3_1 x4_1 t160 x6_1 = some r) ∧ Aside0 (kq ≤ k) ∧ Aside0 (Kd.R k32 32 w' w.heap.size (fun _ => True) v3 x3_1) ∧ Aside0 (Kd.R (Kd.int .i64) 3 w' w.heap.size (fun _ => True) v161 t160) ∧ Aside0 (Below w.heap.size w w'))
  case atStart => exact ⟨(([] : List (S32))), (0), (0), (by first | rfl | (simp; done) | (simp [*]; done)), (by first | rfl | (simp; done) | (simp [*]; done)), H', ⟨Nat.le_refl _⟩, ⟨by first | exact Kd.R_nil _ _ _ _ _ | exact Kd.N_nil _ _ _ _ _ | exact Kd.V_nil _ _ _ _ _ | exact Kd.Q_nil _ _ _ _ _ | exact Kd.S_nil _ _ _ _ _⟩, ⟨by (with_reducible repeat (first | apply Kd.R_alloc | apply Kd.R_drewN | apply Kd.R_drew)); exact HO162.out⟩, ⟨by repeat (first | (with_reducible first | exact HB.out | apply below_alloc | apply pw_below_drewN | apply below_drew1) | exact HB.out)⟩⟩
  case round =>
    clear H'
    try clear c1
    try clear p2
    obtain ⟨x3_1, x4_1, x6_1, rfl, rfl, HA, HK1, HO_3, HO_5, HB⟩ := hrel
    cases gk with
    | zero => exact absurd HA.out (by simp [platenref03_Spans.l0])
    | succ k1 =>
      have H := HA.out
      clear HA
      simp only [platenref03_Spans.l0] at H
      by_cases c4 : x6_1 < (t160.length : Int)
      · rw [if_pos c4] at H
        have c4b0 : decide (x6_1 < (t160.length : Int)) = true := decide_eq_true c4
        clear c4
        by_cases c5 : 0 ≤ x6_1
        · rw [if_pos c5] at H
          have c5b0 : decide (0 ≤ x6_1) = true := decide_eq_true c5
          clear c5
          by_cases c6 : x3_1.length < 8796093022208
          · rw [if_pos c6] at H
            have LMc6 := Aside0.mk c6
            clear c6
            obtain ⟨y164, hy164⟩ : ∃ y_ : List (S32), y_ = (x3_1 ++ [(⟨x4_1, wrap64 ((rd t160 x6_1) - x4_1)⟩ : S32)]) := ⟨_, rfl⟩
            replace H : (platenref03_Spans.l0 k1 l0 y164 (wrap64 ((rd t160 x6_1) + 1)) t160 (wrap64 (x6_1 + 1))) = some r := by first | (rw [hy164]; with_reducible exact H) | (have H2_ := (Option.bind_some _ _).symm.trans H; rw [hy164]; with_reducible exact H2_) | (have H2_ := (Option.bind_some _ _).symm.trans H; with_reducible exact H2_) | with_reducible exact H | (rw [hy164]; exact H) | exact H
            have Ny164 := Aside0.mk hy164
            clear hy164
            have H' := Aside0.mk H
            clear H
            obtain ⟨Ao7, co7, eo7⟩ := Kd.R_slice HO_5.out
            subst eo7
            have p163 : 0 ≤ (x6_1 : Int) := of_decide_eq_true (by first | (with_reducible assumption) | assumption)
            have q163 : x6_1 < (t160.length : Int) := of_decide_eq_true (by first | (with_reducible assumption) | assumption)
            obtain ⟨ad163, e163, hx163_0⟩ := Kd.at_int (Kd.R_reads' HO_5.out).2.2 x6_1 p163 q163
            cases e163
            replace p163 := eq_true p163
            replace q163 := eq_true q163
            go_wp2_with (first | ((with_reducible refine gate_builtin (b := .append) (xs := #[.tmp 15, .tmp 24]) rfl ?_); at_builtin; refine Kd.R_append k32 (w0 := w) w.heap.size rfl (.tmp 15) (.tmp 24) 29 32 (.agg #[(.int .i64 0), (.int .i64 0)]) 16 rfl Tryd.underlying29 info32 rfl (by decide) (by omega) u3 x3_1 (⟨x4_1, wrap64 ((rd t160 x6_1) - x4_1)⟩ : S32) [.int .i64 x4_1, .int .i64 (wrap64 ((rd t160 x6_1) - x4_1))] (fun _ => True) (fun _ => False) rfl rfl ?aP (fun _ hk => hk.elim) ?aF ?aO ?aB ?aS ?aL ?_; (case aP => exact k32_mkM _ _ _ (⟨x4_1, wrap64 ((rd t160 x6_1) - x4_1)⟩ : S32)); (case aB => exact (by repeat (first | (with_reducible first | exact HB.out | apply below_alloc | apply pw_below_drewN | apply below_drew1) | exact HB.out))); (case aF => exact (fun _ _ => trivial)); (case aO => exact (by (with_reducible repeat (first | apply Kd.R_alloc | apply Kd.R_drewN | apply Kd.R_drew)); exact HO_3.out)); (case aS => exact (below_size (by repeat (first | (with_reducible first | exact HB.out | apply below_alloc | apply pw_below_drewN | apply below_drew1) | exact HB.out)))); (case aL => have := LMc6.out; omega); intro v165 w8 ho hb hg hat; rw [← Ny164.out] at ho; have n0_ := Aside0.mk (Kd.R_over' (by (with_reducible repeat (first | apply Kd.R_alloc | apply Kd.R_drewN | apply Kd.R_drew)); exact HO_5.out) (Kd.R_typed (by (with_reducible repeat (first | apply Kd.R_alloc | apply Kd.R_drewN | apply Kd.R_drew)); exact HO_3.out)) (by decide) hg); have n1_ := Aside0.mk (hb); have n2_ := Aside0.mk (ho); clear HO_5; clear HB; clear HO_3; have HO_5 := n0_; have HB := n1_; have HO166 := n2_; clear n0_ n1_ n2_; clear ho hb hg hat; have p167 : 0 ≤ (x6_1 : Int) := of_decide_eq_true (by first | (with_reducible assumption) | assumption); have q167 : x6_1 < (t160.length : Int) := of_decide_eq_true (by first | (with_reducible assumption) | assumption); obtain ⟨ad167, e167, hx167_0⟩ := Kd.at_int (Kd.R_reads' HO_5.out).2.2 x6_1 p167 q167; obtain rfl : ad163 = ad167 := (by injection e167); replace p167 := eq_true p167; replace q167 := eq_true q167))
            go_roundg k1
            case measure => have := HK1.out; omega
            case rel => exact ⟨(y164), (wrap64 ((rd t160 x6_1) + 1)), (wrap64 (x6_1 + 1)), (by first | rfl | (simp; done) | (simp [*]; done)), (by first | rfl | (simp; done) | (simp [*]; done)), H', ⟨by have := HK1.out; omega⟩, ⟨by (with_reducible repeat (first | apply Kd.R_alloc | apply Kd.R_drewN | apply Kd.R_drew)); exact HO166.out⟩, ⟨by (with_reducible repeat (first | apply Kd.R_alloc | apply Kd.R_drewN | apply Kd.R_drew)); exact HO_5.out⟩, ⟨by repeat (first | (with_reducible first | exact HB.out | apply below_alloc | apply pw_below_drewN | apply below_drew1) | exact HB.out)⟩⟩
          · rw [if_neg c6] at H
            exact absurd H (by simp)
        · rw [if_neg c5] at H
          exact absurd H (by simp)
      · rw [if_neg c4] at H
        have c4b0 : decide (x6_1 < (t160.length : Int)) = false := decide_eq_false c4
        clear c4
        by_cases c9 : x3_1.length < 8796093022208
        · rw [if_pos c9] at H
          have LMc9 := Aside0.mk c9
          clear c9
          obtain ⟨y168, hy168⟩ : ∃ y_ : List (S32), y_ = (x3_1 ++ [(⟨x4_1, wrap64 ((l0.length : Int) - x4_1)⟩ : S32)]) := ⟨_, rfl⟩
          replace H : (some y168) = some r := by first | (rw [hy168]; with_reducible exact H) | (have H2_ := (Option.bind_some _ _).symm.trans H; rw [hy168]; with_reducible exact H2_) | (have H2_ := (Option.bind_some _ _).symm.trans H; with_reducible exact H2_) | with_reducible exact H | (rw [hy168]; exact H) | exact H
          have Ny168 := Aside0.mk hy168
          clear hy168
          obtain rfl := Option.some.inj H
          obtain ⟨Ao10, co10, eo10⟩ := Kd.R_slice HO_5.out
          subst eo10
          go_wp2_with (first | ((with_reducible refine gate_builtin (b := .append) (xs := #[.tmp 31, .tmp 38]) rfl ?_); at_builtin; refine Kd.R_append k32 (w0 := w) w.heap.size rfl (.tmp 31) (.tmp 38) 29 32 (.agg #[(.int .i64 0), (.int .i64 0)]) 16 rfl Tryd.underlying29 info32 rfl (by decide) (by omega) u3 x3_1 (⟨x4_1, wrap64 ((l0.length : Int) - x4_1)⟩ : S32) [.int .i64 x4_1, .int .i64 (wrap64 ((l0.length : Int) - x4_1))] (fun _ => True) (fun _ => False) rfl rfl ?aP (fun _ hk => hk.elim) ?aF ?aO ?aB ?aS ?aL ?_; (case aP => exact k32_mkM _ _ _ (⟨x4_1, wrap64 ((l0.length : Int) - x4_1)⟩ : S32)); (case aB => exact (by repeat (first | (with_reducible first | exact HB.out | apply below_alloc | apply pw_below_drewN | apply below_drew1) | exact HB.out))); (case aF => exact (fun _ _ => trivial)); (case aO => exact (by (with_reducible repeat (first | apply Kd.R_alloc | apply Kd.R_drewN | apply Kd.R_drew)); exact HO_3.out)); (case aS => exact (below_size (by repeat (first | (with_reducible first | exact HB.out | apply below_alloc | apply pw_below_drewN | apply below_drew1) | exact HB.out)))); (case aL => have := LMc9.out; omega); intro v169 w11 ho hb hg hat; rw [← Ny168.out] at ho; have n0_ := Aside0.mk (Kd.R_over' (by (with_reducible repeat (first | apply Kd.R_alloc | apply Kd.R_drewN | apply Kd.R_drew)); exact HO_5.out) (Kd.R_typed (by (with_reducible repeat (first | apply Kd.R_alloc | apply Kd.R_drewN | apply Kd.R_drew)); exact HO_3.out)) (by decide) hg); have n1_ := Aside0.mk (hb); have n2_ := Aside0.mk (ho); clear HO_5; clear HB; clear HO_3; have HO_5 := n0_; have HB := n1_; have HO170 := n2_; clear n0_ n1_ n2_; clear ho hb hg hat))
          go_ret
          exact ⟨_, by first | rfl | (simp [errW_none, errW_some] <;> rfl) | (simp [*, errW_none, errW_some] <;> rfl), by (with_reducible repeat (first | apply Kd.R_alloc | apply Kd.R_drewN | apply Kd.R_drew)); exact HO170.out, by repeat (first | (with_reducible first | exact HB.out | apply below_alloc | apply pw_below_drewN | apply below_drew1) | exact HB.out)⟩
        · rw [if_neg c9] at H
          exact absurd H (by simp)

end Go.Proofs.YtlpcibpeakmmaaaDoor.Pa
