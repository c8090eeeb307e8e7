-- Laid by a program of this claim's own (wip/tools/mkprint.py, ext.py): walks of the functions that the statements reach.
import Derived.Test.YtlpcibpeakmmaaaDoorPax0
namespace Go.Proofs.YtlpcibpeakmmaaaDoor.Pa
open Go.RowKit Go.Proofs.YtlpcibpeakmmaaaDoor.Ext Go.Proofs.YtlpcibpeakmmaaaDoorW.PrintWords Go.Proofs.YtlpcibpeakmmaaaDoorW.PrintLast Go.Proofs.YtlpcibpeakmmaaaDoorW.PrintMore
attribute [local go_sem] max2_int min2_int max_two min_two max_three min_three max_four min_four   -- for this text's walks alone
set_option linter.unusedVariables false
set_option linter.unusedSimpArgs false

/-! ### bytes_Index: function 39 -/
-- EXT bytes_Index

/-! ### bytes_explode: function 54 -/
-- EXT bytes_explode

/-! ### bytes_genSplit: function 46 -/
mutual
def bytes_genSplit.j0 : Nat → List Int → List Int → Int → Int → Option ((List (List Int)))
  | 0, _, _, _, _ => none
  | k + 1, x0, x1, x2, x3 => if 0 ≤ (mn x3 (wrap64 ((x0.length : Int) + 1))) then (if (mn x3 (wrap64 ((x0.length : Int) + 1)) : Int).toNat ≤ 11728124029610 then (bytes_genSplit.l0 k x0 x1 x2 (wrap64 ((mn x3 (wrap64 ((x0.length : Int) + 1))) - 1)) (List.replicate (mn x3 (wrap64 ((x0.length : Int) + 1)) : Int).toNat []) 0) else (none)) else (none)
def bytes_genSplit.l0 : Nat → List Int → List Int → Int → Int → List (List Int) → Int → Option ((List (List Int)))
  | 0, _, _, _, _, _, _ => none
  | k + 1, x0, x1, x2, x3, x9, x10 => if x10 < x3 then ((bytes_Index.f x0 x1).bind fun t291 => (if t291 < 0 then (if 0 ≤ x10 then (if x10 < (x9.length : Int) then (if 0 ≤ (wrap64 (x10 + 1)) then (if (wrap64 (x10 + 1)) ≤ (x9.length : Int) then (some ((x9.set (x10 : Int).toNat x0).take ((wrap64 (x10 + 1)) : Int).toNat)) else (none)) else (none)) else (none)) else (none)) else (if 0 ≤ (wrap64 (t291 + x2)) then (if (wrap64 (t291 + x2)) ≤ (x0.length : Int) then (if 0 ≤ x10 then (if x10 < (x9.length : Int) then (if 0 ≤ (wrap64 (t291 + (x1.length : Int))) then (if (wrap64 (t291 + (x1.length : Int))) ≤ (x0.length : Int) then (bytes_genSplit.l0 k (x0.drop ((wrap64 (t291 + (x1.length : Int))) : Int).toNat) x1 x2 x3 (x9.set (x10 : Int).toNat (x0.take ((wrap64 (t291 + x2)) : Int).toNat)) (wrap64 (x10 + 1))) else (none)) else (none)) else (none)) else (none)) else (none)) else (none)))) else (if 0 ≤ x10 then (if x10 < (x9.length : Int) then (if 0 ≤ (wrap64 (x10 + 1)) then (if (wrap64 (x10 + 1)) ≤ (x9.length : Int) then (some ((x9.set (x10 : Int).toNat x0).take ((wrap64 (x10 + 1)) : Int).toNat)) else (none)) else (none)) else (none)) else (none))
end
def bytes_genSplit.f (k : Nat) (l0 : List Int) (l1 : List Int) (a2 : Int) (a3 : Int) : Option ((List (List Int))) := if a3 = 0 then (some ([] : List (List Int))) else (if (l1.length : Int) = 0 then ((bytes_explode.f l0 a3).bind fun t284 => (some t284)) else (if a3 < 0 then ((bytes_Count.f l0 l1).bind fun t287 => (bytes_genSplit.j0 k l0 l1 a2 (wrap64 (t287 + 1)))) else (bytes_genSplit.j0 k l0 l1 a2 a3)))
theorem bytes_genSplit.mono_l : ∀ k, (∀ y0 y1 y2 y3, LeO (bytes_genSplit.j0 k y0 y1 y2 y3) (bytes_genSplit.j0 (k + 1) y0 y1 y2 y3)) ∧ (∀ y0 y1 y2 y3 y4 y5, LeO (bytes_genSplit.l0 k y0 y1 y2 y3 y4 y5) (bytes_genSplit.l0 (k + 1) y0 y1 y2 y3 y4 y5))
  | 0 => ⟨fun _ _ _ _ r h => by simp [bytes_genSplit.j0] at h, fun _ _ _ _ _ _ r h => by simp [bytes_genSplit.l0] at h⟩
  | k + 1 => by
    obtain ⟨ih0, ih1⟩ := bytes_genSplit.mono_l k
    refine ⟨?_, ?_⟩
    · intro y0 y1 y2 y3
      unfold bytes_genSplit.j0
      repeat' first
      | (with_reducible exact ih0 _ _ _ _)
      | (with_reducible exact ih1 _ _ _ _ _ _)
      | (with_reducible exact LeO.refl _)
      | (with_reducible exact LeO.none _)
      | (with_reducible refine LeO.ite ?_ ?_)
      | (with_reducible refine LeO.bind ?_ (fun _ => ?_))
      | exact ih0 _ _ _ _
      | exact ih1 _ _ _ _ _ _
      | exact LeO.none _
      | refine LeO.ite ?_ ?_
      | refine LeO.bind ?_ (fun _ => ?_)
    · intro y0 y1 y2 y3 y4 y5
      unfold bytes_genSplit.l0
      repeat' first
      | (with_reducible exact ih0 _ _ _ _)
      | (with_reducible exact ih1 _ _ _ _ _ _)
      | (with_reducible exact LeO.refl _)
      | (with_reducible exact LeO.none _)
      | (with_reducible refine LeO.ite ?_ ?_)
      | (with_reducible refine LeO.bind ?_ (fun _ => ?_))
      | exact ih0 _ _ _ _
      | exact ih1 _ _ _ _ _ _
      | exact LeO.none _
      | refine LeO.ite ?_ ?_
      | refine LeO.bind ?_ (fun _ => ?_)
theorem bytes_genSplit.mono : ∀ a0 a1 a2 a3 k, LeO (bytes_genSplit.f k a0 a1 a2 a3) (bytes_genSplit.f (k + 1) a0 a1 a2 a3) := by
  intro a0 a1 a2 a3 k
  obtain ⟨ih0, ih1⟩ := bytes_genSplit.mono_l k
  unfold bytes_genSplit.f
  repeat' first
      | (with_reducible exact ih0 _ _ _ _)
      | (with_reducible exact ih1 _ _ _ _ _ _)
      | (with_reducible exact LeO.refl _)
      | (with_reducible exact LeO.none _)
      | (with_reducible refine LeO.ite ?_ ?_)
      | (with_reducible refine LeO.bind ?_ (fun _ => ?_))
      | exact ih0 _ _ _ _
      | exact ih1 _ _ _ _ _ _
      | exact LeO.none _
      | refine LeO.ite ?_ ?_
      | refine LeO.bind ?_ (fun _ => ?_)
set_option maxHeartbeats 8000000 in
set_option maxRecDepth 100000 in
theorem bytes_genSplit.calls (k : Nat) (P0_ : Nat → Prop) (A0 : Option Addr) (c0 : Nat) (l0 : List Int) (A1 : Option Addr) (c1 : Nat) (l1 : List Int) (a2 : Int) (a3 : Int) (r : List (List Int)) (w : World) (hs0 : Kd.V (Kd.int .u8) 5 w w.heap.size (fun k_ => P0_ k_) (.slice A0 l0.length c0) l0) (hr1 : Kd.C (Kd.int .u8) w A1 l1.length l1) (hc1 : l1.length ≤ c1) (h : bytes_genSplit.f k l0 l1 a2 a3 = some r) :
    Calls Tryd.prog 46 #[.slice A0 l0.length c0, .slice A1 l1.length c1, .int .i64 a2, .int .i64 a3] w fun e w' => ∃ v0_ : Value, e = .returned (v0_) ∧ Kd.N (Kd.slice 5 (Kd.int .u8)) 22 w' w.heap.size (fun k_ => (P0_ k_ ∨ w.heap.size ≤ k_)) v0_ r ∧ Below w.heap.size w w' := by
  have HO0 := Aside0.mk (show Kd.V (Kd.int .u8) 5 w w.heap.size (fun k_ => (P0_ k_ ∨ w.heap.size ≤ k_)) (.slice A0 l0.length c0) l0 from Kd.V_mono hs0 (fun k_ hk => .inl hk))
  have HR1 := Aside0.mk hr1
  have HC1 := Aside0.mk hc1
  clear hr1 hc1
  have HB := Aside0.mk (Below.refl w.heap.size w)
  have H : (if a3 = 0 then (some ([] : List (List Int))) else (if (l1.length : Int) = 0 then ((bytes_explode.f l0 a3).bind fun t284 => (some t284)) else (if a3 < 0 then ((bytes_Count.f l0 l1).bind fun t287 => (bytes_genSplit.j0 k l0 l1 a2 (wrap64 (t287 + 1)))) else (bytes_genSplit.j0 k l0 l1 a2 a3)))) = some r := h
  clear h
  by_cases c5 : a3 = 0
  · rw [if_pos c5] at H
    have c5b0 : (a3 == 0) = true := beq_iff_eq.mpr c5
    have c5b1 : (a3 != 0) = false := bne_eq_false_iff_eq.mpr c5
    clear c5
    obtain rfl := Option.some.inj H
    go_enter Tryd.func46, Tryd.ntmps46
    go_wp2
    go_ret
    exact ⟨_, by first | rfl | (simp [errW_none, errW_some] <;> rfl) | (simp [*, errW_none, errW_some] <;> rfl), by first | exact Kd.S_nil _ _ _ _ _ | exact Kd.N_nil _ _ _ _ _ | exact Kd.V_nil _ _ _ _ _ | exact Kd.Q_nil _ _ _ _ _ | exact Kd.R_nil _ _ _ _ _, by repeat (first | (with_reducible first | exact HB.out | apply below_alloc | apply pw_below_drewN | apply below_drew1) | exact HB.out)⟩
  · rw [if_neg c5] at H
    have c5b0 : (a3 == 0) = false := beq_eq_false_iff_ne.mpr c5
    have c5b1 : (a3 != 0) = true := bne_iff_ne.mpr c5
    by_cases c6 : (l1.length : Int) = 0
    · rw [if_pos c6] at H
      have c6b0 : ((l1.length : Int) == 0) = true := beq_iff_eq.mpr c6
      have c6b1 : ((l1.length : Int) != 0) = false := bne_eq_false_iff_eq.mpr c6
      clear c6
      replace H := Option.bind_eq_some_iff.mp H
      obtain ⟨t284, A70, H⟩ := H
      replace H : (some t284) = some r := H
      have A7 := Aside0.mk A70
      clear A70
      obtain rfl := Option.some.inj H
      go_enter Tryd.func46, Tryd.ntmps46
      go_wp2_with (first | ((with_reducible refine gate_callee (f := 54) rfl ?_); refine goesL_ (some 19) rfl rfl Tryd.func54 (by kernel_rfl) rfl #[.slice A0 l0.length c0, .int .i64 a3] rfl (by (try simp only [List.map_toArray, List.map_cons, List.map_nil]); first | done | rfl | (simp only [List.length_drop, List.length_take]; rfl)) ?_; (with_reducible refine (bytes_explode.calls (fun k_ => (P0_ k_ ∨ w.heap.size ≤ k_)) _ _ l0 a3 t284 _ ?side1 A7.out).mono ?_); (case side1 => exact HO0.out); rintro e w8 ⟨v285, rfl, ho0, hb⟩; refine ⟨_, rfl, ?_⟩; have n0_ := Aside0.mk (Kd.V_elder' (by (with_reducible repeat (first | apply Kd.V_alloc | apply Kd.V_drewN | apply Kd.V_drew)); exact HO0.out) (Kd.N_base ho0) hb); have n1_ := Aside0.mk (Kd.N_lower (Kd.N_mono (ok' := fun k_ => (P0_ k_ ∨ w.heap.size ≤ k_)) ho0 (fun k_ hk_ => Or.elim hk_ (fun hs_ => hs_) (fun hn_ => (.inr (Nat.le_trans (below_size (by repeat (first | (with_reducible first | exact HB.out | apply below_alloc | apply pw_below_drewN | apply below_drew1) | exact HB.out))) hn_))))) (below_size (by repeat (first | (with_reducible first | exact HB.out | apply below_alloc | apply pw_below_drewN | apply below_drew1) | exact HB.out)))); have n2_ := Aside0.mk (below_step (by repeat (first | (with_reducible first | exact HB.out | apply below_alloc | apply pw_below_drewN | apply below_drew1) | exact HB.out)) hb); clear HO0; clear HB; have HO0 := n0_; have HO286 := n1_; have HB := n2_; clear n0_ n1_ n2_; (try clear hb); (try clear hb2); (try clear hk); (try clear hi); (try clear ho0)))
      go_ret
      exact ⟨_, by first | rfl | (simp [errW_none, errW_some] <;> rfl) | (simp [*, errW_none, errW_some] <;> rfl), by (with_reducible repeat (first | apply Kd.N_alloc | apply Kd.N_drewN | apply Kd.N_drew)); exact HO286.out, by repeat (first | (with_reducible first | exact HB.out | apply below_alloc | apply pw_below_drewN | apply below_drew1) | exact HB.out)⟩
    · rw [if_neg c6] at H
      have c6b0 : ((l1.length : Int) == 0) = false := beq_eq_false_iff_ne.mpr c6
      have c6b1 : ((l1.length : Int) != 0) = true := bne_iff_ne.mpr c6
      have c6b2 : ¬ (l1 = []) := fun h_ => c6 (by rw [h_]; rfl)
      have HC9 := Aside0.mk H
      clear H
      go_enter Tryd.func46, Tryd.ntmps46
      go_upto_if 21 with (fail)
      go_cut [3] (fun v3 wc => ∃ (kq : Nat) (x3_8 : Int), v3 = .int .i64 x3_8 ∧ Aside0 (bytes_genSplit.j0 kq l0 l1 a2 x3_8 = some r) ∧ Aside0 (kq ≤ k) ∧ Aside0 (Kd.V (Kd.int .u8) 5 wc w.heap.size (fun k_ => (P0_ k_ ∨ w.heap.size ≤ k_)) (.slice A0 l0.length c0) l0) ∧ Aside0 (Below w.heap.size w wc))
      case first =>
        have H := HC9.out
        clear HC9
        by_cases c10 : a3 < 0
        · rw [if_pos c10] at H
          have c10b0 : decide (a3 < 0) = true := decide_eq_true c10
          clear c10
          (first | rw [c10b0] | (simp only [i64_w, i32_w]; rw [c10b0]) | skip)
          replace H := Option.bind_eq_some_iff.mp H
          obtain ⟨t287, A110, H⟩ := H
          replace H : (bytes_genSplit.j0 k l0 l1 a2 (wrap64 (t287 + 1))) = some r := H
          have A11 := Aside0.mk A110
          clear A110
          have H' := Aside0.mk H
          clear H
          go_wp2_with (first | ((with_reducible refine gate_callee (f := 28) rfl ?_); refine goesL_ (some 24) rfl rfl Tryd.func28 (by kernel_rfl) rfl #[.slice A0 l0.length c0, .slice A1 l1.length c1] rfl (by (try simp only [List.map_toArray, List.map_cons, List.map_nil]); first | done | rfl | (simp only [List.length_drop, List.length_take]; rfl)) ?_; (with_reducible refine (bytes_Count.calls _ _ l0 _ _ l1 t287 _ ?side1 ?side2 ?side3 ?side4 A11.out).mono ?_); (case side1 => repeat (first | exact (Kd.V_reads' HO0.out).2.2 | (with_reducible refine Kd.C_alloc ?_ _) | (with_reducible refine Kd.C_drewN ?_ _) | (with_reducible refine Kd.C_drew ?_))); (case side2 => exact (Kd.V_reads' HO0.out).2.1); (case side3 => repeat (first | exact (Kd.C_below HR1.out HB.out) | (with_reducible refine Kd.C_alloc ?_ _) | (with_reducible refine Kd.C_drewN ?_ _) | (with_reducible refine Kd.C_drew ?_))); (case side4 => exact HC1.out); rintro e w' ⟨rfl, ⟨nd, rfl⟩⟩; refine ⟨_, rfl, ?_⟩))
          go_meet
          case rel => exact ⟨_, (wrap64 (t287 + 1)), (by first | rfl | (simp; done) | (simp [*]; done)), H', ⟨by first | omega | exact Nat.le_refl _⟩, ⟨by (with_reducible repeat (first | apply Kd.V_alloc | apply Kd.V_drewN | apply Kd.V_drew)); exact HO0.out⟩, ⟨by repeat (first | (with_reducible first | exact HB.out | apply below_alloc | apply pw_below_drewN | apply below_drew1) | exact HB.out)⟩⟩
        · rw [if_neg c10] at H
          have c10b0 : decide (a3 < 0) = false := decide_eq_false c10
          clear c10
          (first | rw [c10b0] | (simp only [i64_w, i32_w]; rw [c10b0]) | skip)
          have H' := Aside0.mk H
          clear H
          go_wp2
          go_meet
          case rel => exact ⟨_, (a3), (by first | rfl | (simp; done) | (simp [*]; done)), H', ⟨by first | omega | exact Nat.le_refl _⟩, ⟨by (with_reducible repeat (first | apply Kd.V_alloc | apply Kd.V_drewN | apply Kd.V_drew)); exact HO0.out⟩, ⟨by repeat (first | (with_reducible first | exact HB.out | apply below_alloc | apply pw_below_drewN | apply below_drew1) | exact HB.out)⟩⟩
      case rest =>
        clear HC9
        try clear c1
        try clear c2
        try clear p2
        try clear c4
        try clear c5
        try clear c5b0
        try clear c5b1
        try clear c6
        try clear c6b0
        try clear c6b1
        try clear c6b2
        try clear p6
        try clear c10
        try clear c10b0
        obtain ⟨kq, x3_8, rfl, HA, HJ8, HO_0, HB⟩ := hcut
        cases kq with
        | zero => exact absurd HA.out (by simp [bytes_genSplit.j0])
        | succ kj8 =>
          have H := HA.out
          clear HA
          simp only [bytes_genSplit.j0] at H
          obtain ⟨ji12, hji12⟩ : ∃ j_ : Int, (mn x3_8 (wrap64 ((l0.length : Int) + 1))) = j_ := ⟨_, rfl⟩
          replace H : (if 0 ≤ (ji12) then (if (ji12 : Int).toNat ≤ 11728124029610 then (bytes_genSplit.l0 kj8 l0 l1 a2 (wrap64 ((ji12) - 1)) (List.replicate (ji12 : Int).toNat []) 0) else (none)) else (none)) = some r := by first | (rw [hji12] at H; exact H) | (simp only [hji12] at H ⊢; exact H)
          have hji12_ : (if (wrap64 ((l0.length : Int) + 1)) < x3_8 then (wrap64 ((l0.length : Int) + 1)) else x3_8) = ji12 := hji12
          by_cases c13 : 0 ≤ (ji12)
          · rw [if_pos c13] at H
            have c13b0 := eq_true c13
            have c13b1 : decide (0 ≤ (ji12)) = true := decide_eq_true c13
            clear c13
            by_cases c14 : (ji12 : Int).toNat ≤ 11728124029610
            · rw [if_pos c14] at H
              have c14b0 := eq_true c14
              have c14b1 : decide ((ji12 : Int).toNat ≤ 11728124029610) = true := decide_eq_true c14
              clear c14
              obtain ⟨y288, hy288⟩ : ∃ y_ : List (List Int), y_ = (List.replicate (ji12 : Int).toNat []) := ⟨_, rfl⟩
              replace H : (bytes_genSplit.l0 kj8 l0 l1 a2 (wrap64 ((ji12) - 1)) y288 0) = some r := by first | (rw [hy288]; with_reducible exact H) | (have H2_ := (Option.bind_some _ _).symm.trans H; rw [hy288]; with_reducible exact H2_) | (have H2_ := (Option.bind_some _ _).symm.trans H; with_reducible exact H2_) | with_reducible exact H | (rw [hy288]; exact H) | exact H
              have Ny288 := Aside0.mk hy288
              clear hy288
              have H' := Aside0.mk H
              clear H
              go_wp2_with (first | ((with_reducible refine gate_dst (N := 32) rfl ?_); refine Kd.N_make (Kd.slice 5 (Kd.int .u8)) _ 22 rfl (N' := 32) rfl 53 _ _ rfl ji12 rfl rfl Tryd.underlying53 (.slice none 0 0) 24 info22 rfl (by decide) (by omega) [] (ok := fun k_ => wc.heap.size ≤ k_) (okp := fun _ => False) (Kd.FK_slice_mk (Nat.le_refl _) (Kd.F_nil _ _ _)) (fun _ hk => hk.elim) (Nat.le_refl _) (of_decide_eq_true (by first | (with_reducible assumption) | assumption)) (Nat.le_trans (Nat.mul_le_mul_right _ (of_decide_eq_true (by first | (with_reducible assumption) | assumption) : ji12.toNat ≤ 11728124029610)) (by omega)) (Below.refl _ _) (Nat.le_refl _) ?_; intro v289 w15 ho16 hb hg_ hnew_; clear hg_ hnew_; (first | rw [← Ny288.out] at ho16 | (simp only [Int.reduceToNat] at ho16; rw [← Ny288.out] at ho16)); have n0_ := Aside0.mk (Kd.V_elder' (by (with_reducible repeat (first | apply Kd.V_alloc | apply Kd.V_drewN | apply Kd.V_drew)); exact HO_0.out) (Kd.N_base ho16) hb); have n1_ := Aside0.mk (Kd.N_lower (Kd.N_mono (ok' := fun k_ => (P0_ k_ ∨ w.heap.size ≤ k_)) ho16 (fun k_ hk_ => (.inr (Nat.le_trans (below_size (by repeat (first | (with_reducible first | exact HB.out | apply below_alloc | apply pw_below_drewN | apply below_drew1) | exact HB.out))) hk_)))) (below_size (by repeat (first | (with_reducible first | exact HB.out | apply below_alloc | apply pw_below_drewN | apply below_drew1) | exact HB.out)))); have n2_ := Aside0.mk (below_step (by repeat (first | (with_reducible first | exact HB.out | apply below_alloc | apply pw_below_drewN | apply below_drew1) | exact HB.out)) hb); clear HO_0; clear HB; have HO_0 := n0_; have HO290 := n1_; have HB := n2_; clear n0_ n1_ n2_; clear hb ho16))
              go_loopg [0, 10] kj8 (fun kq v0 v10 w' => ∃ (x0_2 : List Int) (x9_2 : List (List Int)) (x10_2 : Int), v10 = .int .i64 x10_2 ∧ Aside0 (bytes_genSplit.l0 kq x0_2 l1 a2 (wrap64 ((ji12) - 1)) x9_2 x10_2 = some r) ∧ Aside0 (kq ≤ kj8) ∧ Aside0 (Kd.V (Kd.int .u8) 5 w' w.heap.size (fun k_ => (P0_ k_ ∨ w.heap.size ≤ k_) ∧ some k_ ≠ (v289 : Value).ownBlock) v0 x0_2) ∧ Aside0 (Kd.N (Kd.slice 5 (Kd.int .u8)) 22 w' w.heap.size (fun k_ => (P0_ k_ ∨ w.heap.size ≤ k_)) v289 x9_2) ∧ Aside0 (Below w.heap.size w w'))
              case atStart => exact ⟨(l0), (y288), (0), (by first | rfl | (simp; done) | (simp [*]; done)), H', ⟨Nat.le_refl _⟩, ⟨by (with_reducible repeat (first | apply Kd.V_alloc | apply Kd.V_drewN | apply Kd.V_drew)); exact HO_0.out⟩, ⟨by (with_reducible repeat (first | apply Kd.N_alloc | apply Kd.N_drewN | apply Kd.N_drew)); exact HO290.out⟩, ⟨by repeat (first | (with_reducible first | exact HB.out | apply below_alloc | apply pw_below_drewN | apply below_drew1) | exact HB.out)⟩⟩
              case round =>
                clear H'
                try clear c1
                try clear c2
                try clear p2
                try clear c4
                try clear c5
                try clear c5b0
                try clear c5b1
                try clear c6
                try clear c6b0
                try clear c6b1
                try clear c6b2
                try clear p6
                try clear c10
                try clear c10b0
                try clear c13
                try clear c13b0
                try clear c13b1
                try clear c14
                try clear c14b0
                try clear c14b1
                try clear p2
                try clear p6
                obtain ⟨x0_2, x9_2, x10_2, rfl, HA, HK2, HO_0, HO_9, HB⟩ := hrel
                cases gk with
                | zero => exact absurd HA.out (by simp [bytes_genSplit.l0])
                | succ k2 =>
                  have H := HA.out
                  clear HA
                  simp only [bytes_genSplit.l0] at H
                  by_cases c17 : x10_2 < (wrap64 ((ji12) - 1))
                  · rw [if_pos c17] at H
                    have c17b0 : decide (x10_2 < (wrap64 ((ji12) - 1))) = true := decide_eq_true c17
                    clear c17
                    replace H := Option.bind_eq_some_iff.mp H
                    obtain ⟨t291, A180, H⟩ := H
                    replace H : (if t291 < 0 then (if 0 ≤ x10_2 then (if x10_2 < (x9_2.length : Int) then (if 0 ≤ (wrap64 (x10_2 + 1)) then (if (wrap64 (x10_2 + 1)) ≤ (x9_2.length : Int) then (some ((x9_2.set (x10_2 : Int).toNat x0_2).take ((wrap64 (x10_2 + 1)) : Int).toNat)) else (none)) else (none)) else (none)) else (none)) else (if 0 ≤ (wrap64 (t291 + a2)) then (if (wrap64 (t291 + a2)) ≤ (x0_2.length : Int) then (if 0 ≤ x10_2 then (if x10_2 < (x9_2.length : Int) then (if 0 ≤ (wrap64 (t291 + (l1.length : Int))) then (if (wrap64 (t291 + (l1.length : Int))) ≤ (x0_2.length : Int) then (bytes_genSplit.l0 k2 (x0_2.drop ((wrap64 (t291 + (l1.length : Int))) : Int).toNat) l1 a2 (wrap64 ((ji12) - 1)) (x9_2.set (x10_2 : Int).toNat (x0_2.take ((wrap64 (t291 + a2)) : Int).toNat)) (wrap64 (x10_2 + 1))) else (none)) else (none)) else (none)) else (none)) else (none)) else (none))) = some r := H
                    have A18 := Aside0.mk A180
                    clear A180
                    by_cases c19 : t291 < 0
                    · rw [if_pos c19] at H
                      have c19b0 : decide (t291 < 0) = true := decide_eq_true c19
                      clear c19
                      by_cases c20 : 0 ≤ x10_2
                      · rw [if_pos c20] at H
                        have c20b0 : decide (0 ≤ x10_2) = true := decide_eq_true c20
                        clear c20
                        by_cases c21 : x10_2 < (x9_2.length : Int)
                        · rw [if_pos c21] at H
                          have c21b0 : decide (x10_2 < (x9_2.length : Int)) = true := decide_eq_true c21
                          clear c21
                          obtain ⟨y292, hy292⟩ : ∃ y_ : List (List Int), y_ = (x9_2.set (x10_2 : Int).toNat x0_2) := ⟨_, rfl⟩
                          replace H : (if 0 ≤ (wrap64 (x10_2 + 1)) then (if (wrap64 (x10_2 + 1)) ≤ (x9_2.length : Int) then (some (y292.take ((wrap64 (x10_2 + 1)) : Int).toNat)) else (none)) else (none)) = some r := by first | (rw [hy292]; with_reducible exact H) | (have H2_ := (Option.bind_some _ _).symm.trans H; rw [hy292]; with_reducible exact H2_) | (have H2_ := (Option.bind_some _ _).symm.trans H; with_reducible exact H2_) | with_reducible exact H | (rw [hy292]; exact H) | exact H
                          have Ny292 := Aside0.mk hy292
                          clear hy292
                          obtain ⟨ji23, hji23⟩ : ∃ j_ : Int, (wrap64 (x10_2 + 1)) = j_ := ⟨_, rfl⟩
                          replace H : (if 0 ≤ (ji23) then (if (ji23) ≤ (x9_2.length : Int) then (some (y292.take ((ji23) : Int).toNat)) else (none)) else (none)) = some r := by first | (rw [hji23] at H; exact H) | (simp only [hji23] at H ⊢; exact H)
                          (try rw [hji23] at A18)
                          have hji23w : (IntKind.i64.wrap (x10_2 + 1)) = ji23 := (i64_w _).trans hji23
                          by_cases c24 : 0 ≤ (ji23)
                          · rw [if_pos c24] at H
                            have c24b0 := eq_true c24
                            have c24b1 : decide (0 ≤ (ji23)) = true := decide_eq_true c24
                            clear c24
                            by_cases c25 : (ji23) ≤ (x9_2.length : Int)
                            · rw [if_pos c25] at H
                              have c25b0 := eq_true c25
                              have c25b1 : decide ((ji23) ≤ (x9_2.length : Int)) = true := decide_eq_true c25
                              clear c25
                              obtain ⟨y293, hy293⟩ : ∃ y_ : List (List Int), y_ = (y292.take ((ji23) : Int).toNat) := ⟨_, rfl⟩
                              replace H : (some y293) = some r := by first | (rw [hy293]; with_reducible exact H) | (have H2_ := (Option.bind_some _ _).symm.trans H; rw [hy293]; with_reducible exact H2_) | (have H2_ := (Option.bind_some _ _).symm.trans H; with_reducible exact H2_) | with_reducible exact H | (rw [hy293]; exact H) | exact H
                              have Ny293 := Aside0.mk hy293
                              clear hy293
                              obtain rfl := Option.some.inj H
                              obtain ⟨Ao26, co26, eo26⟩ := Kd.V_slice HO_0.out
                              subst eo26
                              go_wp2_with (first | ((with_reducible refine gate_callee (f := 39) rfl ?_); refine goesL_ (some 40) rfl rfl Tryd.func39 (by kernel_rfl) rfl #[.slice Ao26 x0_2.length co26, .slice A1 l1.length c1] rfl (by (try simp only [List.map_toArray, List.map_cons, List.map_nil]); first | done | rfl | (simp only [List.length_drop, List.length_take]; rfl)) ?_; (with_reducible refine (bytes_Index.calls _ _ x0_2 _ _ l1 t291 _ ?side1 ?side2 ?side3 ?side4 A18.out).mono ?_); (case side1 => repeat (first | exact (Kd.V_reads' HO_0.out).2.2 | (with_reducible refine Kd.C_alloc ?_ _) | (with_reducible refine Kd.C_drewN ?_ _) | (with_reducible refine Kd.C_drew ?_))); (case side2 => exact (Kd.V_reads' HO_0.out).2.1); (case side3 => repeat (first | exact (Kd.C_below HR1.out HB.out) | (with_reducible refine Kd.C_alloc ?_ _) | (with_reducible refine Kd.C_drewN ?_ _) | (with_reducible refine Kd.C_drew ?_))); (case side4 => exact HC1.out); rintro e w' ⟨rfl, ⟨nd, rfl⟩⟩; refine ⟨_, rfl, ?_⟩; (try (rw [drewN_self wr]; generalize hq_ : World.drewN wr _ = wr; have n0_ : Aside0 (Kd.V (Kd.int .u8) 5 wr w.heap.size (fun k_ => (P0_ k_ ∨ w.heap.size ≤ k_) ∧ some k_ ≠ (v289 : Value).ownBlock) (.slice Ao26 x0_2.length co26) x0_2) := ⟨by rw [← hq_]; exact (by (with_reducible repeat (first | apply Kd.V_alloc | apply Kd.V_drewN | apply Kd.V_drew)); exact HO_0.out)⟩; have n1_ : Aside0 (Kd.N (Kd.slice 5 (Kd.int .u8)) 22 wr w.heap.size (fun k_ => (P0_ k_ ∨ w.heap.size ≤ k_)) v289 x9_2) := ⟨by rw [← hq_]; exact (by (with_reducible repeat (first | apply Kd.N_alloc | apply Kd.N_drewN | apply Kd.N_drew)); exact HO_9.out)⟩; have n2_ : Aside0 (Below w.heap.size w wr) := ⟨by rw [← hq_]; exact (by repeat (first | (with_reducible first | exact HB.out | apply below_alloc | apply pw_below_drewN | apply below_drew1) | exact HB.out))⟩; clear HO_0 HO_9 HB hq_; have HO_0 := n0_; have HO_9 := n1_; have HB := n2_; clear n0_ n1_ n2_)); have p22 : 0 ≤ (x10_2 : Int) := of_decide_eq_true (by first | (with_reducible assumption) | assumption); have q22 : (x10_2 : Int) < ((x9_2.length : Int) : Int) := of_decide_eq_true (by first | (with_reducible assumption) | assumption); obtain ⟨go22, co22, eo22, gb22, gl22, cl22, HG22⟩ := Kd.N_form HO_9.out (by omega); (first | cases eo22 | (injection eo22 with ea_ en_ ec_; (first | subst ea_ | (injection ea_ with ea_; subst ea_)); subst ec_; clear en_)); have GB22 := Aside0.mk gb22; have GG22 := Aside0.mk HG22; clear gb22 gl22 HG22; obtain ⟨ce22, hcl22, hM22, hcc22, hfr22⟩ := Kd.N_elem HO_9.out [] (x10_2 : Int) p22 q22; obtain ⟨ua22_0, uc22_0, rfl, ul22_0, ge22_0⟩ := Kd.FK_slice_open hM22; have hx22_0 := hcc22 0 _ rfl; have hf22_0 := hfr22 0; (try simp only [show ((Kd.slice 5 (Kd.int .u8))).sz = 1 from rfl, Nat.mul_one, Nat.add_zero] at hx22_0); (try simp only [show ((Kd.slice 5 (Kd.int .u8))).sz = 1 from rfl, Nat.mul_one, Nat.add_zero] at hf22_0); clear hcl22 hcc22 hfr22 hM22; replace p22 := eq_true p22; replace q22 := eq_true q22; have HX27 := Aside0.mk (show Kd.N (Kd.slice 5 (Kd.int .u8)) 22 wr w.heap.size (fun k_ => (P0_ k_ ∨ w.heap.size ≤ k_)) (.slice (some ⟨go22, 0, none⟩) x9_2.length co22) x9_2 from (by (with_reducible repeat (first | apply Kd.N_alloc | apply Kd.N_drewN | apply Kd.N_drew)); exact HO_9.out)); obtain ⟨ce27, hcl27, hM27, hcc27, hfr27⟩ := Kd.N_elem HX27.out [] (x10_2 : Int) (of_decide_eq_true (by first | (with_reducible assumption) | assumption)) (by have h_ : (x10_2 : Int) < ((x9_2.length : Int) : Int) := of_decide_eq_true (by first | (with_reducible assumption) | assumption); first | exact h_ | (have e_ := (Kd.N_reads' HO_9.out).1; omega) | simpa using h_); obtain ⟨ua27_0, uc27_0, rfl, ul27_0, ge27_0⟩ := Kd.FK_slice_open hM27; have HP27 := Kd.N_seg HX27.out (x10_2 : Int) (of_decide_eq_true (by first | (with_reducible assumption) | assumption)) (by have h_ : (x10_2 : Int) < ((x9_2.length : Int) : Int) := of_decide_eq_true (by first | (with_reducible assumption) | assumption); first | exact h_ | (have e_ := (Kd.N_reads' HO_9.out).1; omega) | simpa using h_) (seg := [.slice Ao26 x0_2.length co26]) (j := 0) hcl27 hcc27 (show 1 ≤ 1 from by decide) (x' := x0_2) (Kd.FK_slice_mk (Kd.V_reads' (Kd.V_mono (ok' := (fun k_ => ((fun k_ => (P0_ k_ ∨ w.heap.size ≤ k_))) k_ ∧ k_ ≠ go22)) (HO_0.out) (fun k_ hk => ⟨hk.1, fun e_ => (hk.2) (by rw [e_]; rfl)⟩))).2.1 (Kd.V_F (Kd.V_mono (ok' := (fun k_ => ((fun k_ => (P0_ k_ ∨ w.heap.size ≤ k_))) k_ ∧ k_ ≠ go22)) (HO_0.out) (fun k_ hk => ⟨hk.1, fun e_ => (hk.2) (by rw [e_]; rfl)⟩)))) (fun _ hk => hk); have hx27_0 := hcc27 0 _ rfl; (try simp only [show ((Kd.slice 5 (Kd.int .u8))).sz = 1 from rfl, Nat.mul_one, Nat.add_zero] at hx27_0); have hf27_0 := hfr27 0; (try simp only [show ((Kd.slice 5 (Kd.int .u8))).sz = 1 from rfl, Nat.mul_one, Nat.add_zero] at hf27_0); clear hcl27 hcc27 hfr27 hM27; (try simp only [show ((Kd.slice 5 (Kd.int .u8))).sz = 1 from rfl, Nat.mul_one, Nat.add_zero] at HP27); (try simp only [show ((Kd.slice 5 (Kd.int .u8))).sz = 1 from rfl, Nat.mul_one, Nat.add_zero] at HP27)) | ((with_reducible refine gate_store (t := 22) (p := 65) rfl ?_); refine store_event (t := 22) (p := 65) (v := ?vo_w28) (w1 := (wr.setCell ⟨go22, (x10_2 : Int).toNat, none⟩ (.slice Ao26 x0_2.length co26))) ?hg ?ho ?hn ?hr ?_; (case ho => rfl); (case hg => rfl); (case hn => rfl); (case hr => first | (go_simp; done) | (go_simp; rfl)); intro w28 hw; have hg : wr.grownBy w28 (some go22) := (by rw [hw]; exact HP27.2); have hp_ : Kd.N (Kd.slice 5 (Kd.int .u8)) 22 w28 w.heap.size (fun k_ => (P0_ k_ ∨ w.heap.size ≤ k_)) (.slice (some ⟨go22, 0, none⟩) x9_2.length co22) y292 := (by rw [hw, Ny292.out]; exact HP27.1); clear HP27; have n0_ := Aside0.mk (Kd.V_afterv (v := (.slice (some ⟨go22, 0, none⟩) x9_2.length co22)) (v1 := (.slice (some ⟨go22, 0, none⟩) x9_2.length co22)) (ok := (fun k_ => (P0_ k_ ∨ w.heap.size ≤ k_))) (by (with_reducible repeat (first | apply Kd.V_alloc | apply Kd.V_drewN | apply Kd.V_drew)); exact HO_0.out) hg (.inl rfl)); have n1_ := Aside0.mk (hp_); have n2_ := Aside0.mk ((by rw [hw]; exact below_set (HB.out) GB22.out : Below w.heap.size w w28)); clear HO_0; clear HO_9; clear HB; have HO_0 := n0_; have HO_9 := n1_; have HB := n2_; clear n0_ n1_ n2_; clear hg hw hp_; have q29 : ((ji23) : Int) ≤ ((x9_2.length : Int) : Int) := of_decide_eq_true (by first | (with_reducible assumption) | assumption); obtain ⟨i029, hi029, _, hsz29, _⟩ := info_parts info22; have hcut29 := cut_to (P := Tryd.prog) 53 22 .i64 Tryd.underlying53 hi029 (some ⟨go22, 0, none⟩) x9_2.length co22 (ji23) (of_decide_eq_true (by first | (with_reducible assumption) | assumption)) q29 (Kd.N_reads' HO_9.out).2.1; have hr29 := Kd.N_take (m := ((ji23) : Int).toNat) HO_9.out (by first | omega | (have e_ := (Kd.N_reads' HO_9.out).1; omega)); have hy29 : y293.length = ((ji23) : Int).toNat := (by rw [Ny293.out, List.length_take]; first | omega | (have e_ := (Kd.N_reads' HO_9.out).1; omega)); rw [← Ny293.out] at hr29; rw [← hy29] at hr29 hcut29; clear hy29 hi029 hsz29 HO_9; have HO295 := Aside0.mk hr29; clear hr29; replace q29 := eq_true q29))
                              go_ret
                              exact ⟨_, by first | rfl | (simp [errW_none, errW_some] <;> rfl) | (simp only [← hji12, ← hji23]; first | rfl | (simp [errW_none, errW_some] <;> rfl)) | (simp [*, errW_none, errW_some] <;> rfl), by (with_reducible repeat (first | apply Kd.N_alloc | apply Kd.N_drewN | apply Kd.N_drew)); exact HO295.out, by repeat (first | (with_reducible first | exact HB.out | apply below_alloc | apply pw_below_drewN | apply below_drew1) | exact HB.out)⟩
                            · rw [if_neg c25] at H
                              exact absurd H (by simp)
                          · rw [if_neg c24] at H
                            exact absurd H (by simp)
                        · rw [if_neg c21] at H
                          exact absurd H (by simp)
                      · rw [if_neg c20] at H
                        exact absurd H (by simp)
                    · rw [if_neg c19] at H
                      have c19b0 : decide (t291 < 0) = false := decide_eq_false c19
                      clear c19
                      obtain ⟨ji30, hji30⟩ : ∃ j_ : Int, (wrap64 (t291 + a2)) = j_ := ⟨_, rfl⟩
                      replace H : (if 0 ≤ (ji30) then (if (ji30) ≤ (x0_2.length : Int) then (if 0 ≤ x10_2 then (if x10_2 < (x9_2.length : Int) then (if 0 ≤ (wrap64 (t291 + (l1.length : Int))) then (if (wrap64 (t291 + (l1.length : Int))) ≤ (x0_2.length : Int) then (bytes_genSplit.l0 k2 (x0_2.drop ((wrap64 (t291 + (l1.length : Int))) : Int).toNat) l1 a2 (wrap64 ((ji12) - 1)) (x9_2.set (x10_2 : Int).toNat (x0_2.take ((ji30) : Int).toNat)) (wrap64 (x10_2 + 1))) else (none)) else (none)) else (none)) else (none)) else (none)) else (none)) = some r := by first | (rw [hji30] at H; exact H) | (simp only [hji30] at H ⊢; exact H)
                      (try rw [hji30] at A18)
                      have hji30w : (IntKind.i64.wrap (t291 + a2)) = ji30 := (i64_w _).trans hji30
                      by_cases c31 : 0 ≤ (ji30)
                      · rw [if_pos c31] at H
                        have c31b0 := eq_true c31
                        have c31b1 : decide (0 ≤ (ji30)) = true := decide_eq_true c31
                        clear c31
                        by_cases c32 : (ji30) ≤ (x0_2.length : Int)
                        · rw [if_pos c32] at H
                          have c32b0 := eq_true c32
                          have c32b1 : decide ((ji30) ≤ (x0_2.length : Int)) = true := decide_eq_true c32
                          clear c32
                          obtain ⟨y296, hy296⟩ : ∃ y_ : List Int, y_ = (x0_2.take ((ji30) : Int).toNat) := ⟨_, rfl⟩
                          replace H : (if 0 ≤ x10_2 then (if x10_2 < (x9_2.length : Int) then (if 0 ≤ (wrap64 (t291 + (l1.length : Int))) then (if (wrap64 (t291 + (l1.length : Int))) ≤ (x0_2.length : Int) then (bytes_genSplit.l0 k2 (x0_2.drop ((wrap64 (t291 + (l1.length : Int))) : Int).toNat) l1 a2 (wrap64 ((ji12) - 1)) (x9_2.set (x10_2 : Int).toNat y296) (wrap64 (x10_2 + 1))) else (none)) else (none)) else (none)) else (none)) = some r := by first | (rw [hy296]; with_reducible exact H) | (have H2_ := (Option.bind_some _ _).symm.trans H; rw [hy296]; with_reducible exact H2_) | (have H2_ := (Option.bind_some _ _).symm.trans H; with_reducible exact H2_) | with_reducible exact H | (rw [hy296]; exact H) | exact H
                          have Ny296 := Aside0.mk hy296
                          clear hy296
                          by_cases c33 : 0 ≤ x10_2
                          · rw [if_pos c33] at H
                            have c33b0 : decide (0 ≤ x10_2) = true := decide_eq_true c33
                            clear c33
                            by_cases c34 : x10_2 < (x9_2.length : Int)
                            · rw [if_pos c34] at H
                              have c34b0 : decide (x10_2 < (x9_2.length : Int)) = true := decide_eq_true c34
                              clear c34
                              obtain ⟨y301, hy301⟩ : ∃ y_ : List (List Int), y_ = (x9_2.set (x10_2 : Int).toNat y296) := ⟨_, rfl⟩
                              replace H : (if 0 ≤ (wrap64 (t291 + (l1.length : Int))) then (if (wrap64 (t291 + (l1.length : Int))) ≤ (x0_2.length : Int) then (bytes_genSplit.l0 k2 (x0_2.drop ((wrap64 (t291 + (l1.length : Int))) : Int).toNat) l1 a2 (wrap64 ((ji12) - 1)) y301 (wrap64 (x10_2 + 1))) else (none)) else (none)) = some r := by first | (rw [hy301]; with_reducible exact H) | (have H2_ := (Option.bind_some _ _).symm.trans H; rw [hy301]; with_reducible exact H2_) | (have H2_ := (Option.bind_some _ _).symm.trans H; with_reducible exact H2_) | with_reducible exact H | (rw [hy301]; exact H) | exact H
                              have Ny301 := Aside0.mk hy301
                              clear hy301
                              obtain ⟨ji36, hji36⟩ : ∃ j_ : Int, (wrap64 (t291 + (l1.length : Int))) = j_ := ⟨_, rfl⟩
                              replace H : (if 0 ≤ (ji36) then (if (ji36) ≤ (x0_2.length : Int) then (bytes_genSplit.l0 k2 (x0_2.drop ((ji36) : Int).toNat) l1 a2 (wrap64 ((ji12) - 1)) y301 (wrap64 (x10_2 + 1))) else (none)) else (none)) = some r := by first | (rw [hji36] at H; exact H) | (simp only [hji36] at H ⊢; exact H)
                              (try rw [hji36] at A18)
                              have hji36w : (IntKind.i64.wrap (t291 + (l1.length : Int))) = ji36 := (i64_w _).trans hji36
                              by_cases c37 : 0 ≤ (ji36)
                              · rw [if_pos c37] at H
                                have c37b0 := eq_true c37
                                have c37b1 : decide (0 ≤ (ji36)) = true := decide_eq_true c37
                                clear c37
                                by_cases c38 : (ji36) ≤ (x0_2.length : Int)
                                · rw [if_pos c38] at H
                                  have c38b0 := eq_true c38
                                  have c38b1 : decide ((ji36) ≤ (x0_2.length : Int)) = true := decide_eq_true c38
                                  clear c38
                                  obtain ⟨y302, hy302⟩ : ∃ y_ : List Int, y_ = (x0_2.drop ((ji36) : Int).toNat) := ⟨_, rfl⟩
                                  replace H : (bytes_genSplit.l0 k2 y302 l1 a2 (wrap64 ((ji12) - 1)) y301 (wrap64 (x10_2 + 1))) = some r := by first | (rw [hy302]; with_reducible exact H) | (have H2_ := (Option.bind_some _ _).symm.trans H; rw [hy302]; with_reducible exact H2_) | (have H2_ := (Option.bind_some _ _).symm.trans H; with_reducible exact H2_) | with_reducible exact H | (rw [hy302]; exact H) | exact H
                                  have Ny302 := Aside0.mk hy302
                                  clear hy302
                                  have H' := Aside0.mk H
                                  clear H
                                  obtain ⟨Ao39, co39, eo39⟩ := Kd.V_slice HO_0.out
                                  subst eo39
                                  go_wp2_with (first | ((with_reducible refine gate_callee (f := 39) rfl ?_); refine goesL_ (some 40) rfl rfl Tryd.func39 (by kernel_rfl) rfl #[.slice Ao39 x0_2.length co39, .slice A1 l1.length c1] rfl (by (try simp only [List.map_toArray, List.map_cons, List.map_nil]); first | done | rfl | (simp only [List.length_drop, List.length_take]; rfl)) ?_; (with_reducible refine (bytes_Index.calls _ _ x0_2 _ _ l1 t291 _ ?side1 ?side2 ?side3 ?side4 A18.out).mono ?_); (case side1 => repeat (first | exact (Kd.V_reads' HO_0.out).2.2 | (with_reducible refine Kd.C_alloc ?_ _) | (with_reducible refine Kd.C_drewN ?_ _) | (with_reducible refine Kd.C_drew ?_))); (case side2 => exact (Kd.V_reads' HO_0.out).2.1); (case side3 => repeat (first | exact (Kd.C_below HR1.out HB.out) | (with_reducible refine Kd.C_alloc ?_ _) | (with_reducible refine Kd.C_drewN ?_ _) | (with_reducible refine Kd.C_drew ?_))); (case side4 => exact HC1.out); rintro e w' ⟨rfl, ⟨nd, rfl⟩⟩; refine ⟨_, rfl, ?_⟩; (try (rw [drewN_self wr]; generalize hq_ : World.drewN wr _ = wr; have n0_ : Aside0 (Kd.V (Kd.int .u8) 5 wr w.heap.size (fun k_ => (P0_ k_ ∨ w.heap.size ≤ k_) ∧ some k_ ≠ (v289 : Value).ownBlock) (.slice Ao39 x0_2.length co39) x0_2) := ⟨by rw [← hq_]; exact (by (with_reducible repeat (first | apply Kd.V_alloc | apply Kd.V_drewN | apply Kd.V_drew)); exact HO_0.out)⟩; have n1_ : Aside0 (Kd.N (Kd.slice 5 (Kd.int .u8)) 22 wr w.heap.size (fun k_ => (P0_ k_ ∨ w.heap.size ≤ k_)) v289 x9_2) := ⟨by rw [← hq_]; exact (by (with_reducible repeat (first | apply Kd.N_alloc | apply Kd.N_drewN | apply Kd.N_drew)); exact HO_9.out)⟩; have n2_ : Aside0 (Below w.heap.size w wr) := ⟨by rw [← hq_]; exact (by repeat (first | (with_reducible first | exact HB.out | apply below_alloc | apply pw_below_drewN | apply below_drew1) | exact HB.out))⟩; clear HO_0 HO_9 HB hq_; have HO_0 := n0_; have HO_9 := n1_; have HB := n2_; clear n0_ n1_ n2_)); have q40 : ((ji30) : Int) ≤ ((x0_2.length : Int) : Int) := of_decide_eq_true (by first | (with_reducible assumption) | assumption); obtain ⟨i040, hi040, _, hsz40, _⟩ := info_parts info5; have hroom40 : x0_2.length ≤ co39 := (Kd.V_reads' HO_0.out).2.1; have hC40 : Kd.F (Kd.int .u8) _ _ Ao39 x0_2.length x0_2 := (Kd.V_at (base := w.heap.size) HO_0.out).2.2; have hcut40 := cut_to3 (P := Tryd.prog) 22 5 .i64 .i64 Tryd.underlying22 hi040 Ao39 x0_2.length co39 (ji30) (of_decide_eq_true (by first | (with_reducible assumption) | assumption)) q40 hroom40; have hr40 := Kd.F_take (m := ((ji30) : Int).toNat) hC40 (by omega); have hy40 : y296.length = ((ji30) : Int).toNat := (by rw [Ny296.out, List.length_take]; omega); rw [← Ny296.out] at hr40; rw [← hy40] at hcut40; have HO300 := Aside0.mk (show Kd.V (Kd.int .u8) 5 _ w.heap.size _ (.slice Ao39 y296.length y296.length) y296 from Kd.V_mk (by omega) hr40); have HC300 := Aside0.mk (show y296.length ≤ y296.length from by omega); clear hr40 hC40 hroom40 hi040 hsz40; have KY40 := Aside0.mk hy40; clear hy40; replace q40 := eq_true q40; have p35 : 0 ≤ (x10_2 : Int) := of_decide_eq_true (by first | (with_reducible assumption) | assumption); have q35 : (x10_2 : Int) < ((x9_2.length : Int) : Int) := of_decide_eq_true (by first | (with_reducible assumption) | assumption); obtain ⟨go35, co35, eo35, gb35, gl35, cl35, HG35⟩ := Kd.N_form HO_9.out (by omega); (first | cases eo35 | (injection eo35 with ea_ en_ ec_; (first | subst ea_ | (injection ea_ with ea_; subst ea_)); subst ec_; clear en_)); have GB35 := Aside0.mk gb35; have GG35 := Aside0.mk HG35; clear gb35 gl35 HG35; obtain ⟨ce35, hcl35, hM35, hcc35, hfr35⟩ := Kd.N_elem HO_9.out [] (x10_2 : Int) p35 q35; obtain ⟨ua35_0, uc35_0, rfl, ul35_0, ge35_0⟩ := Kd.FK_slice_open hM35; have hx35_0 := hcc35 0 _ rfl; have hf35_0 := hfr35 0; (try simp only [show ((Kd.slice 5 (Kd.int .u8))).sz = 1 from rfl, Nat.mul_one, Nat.add_zero] at hx35_0); (try simp only [show ((Kd.slice 5 (Kd.int .u8))).sz = 1 from rfl, Nat.mul_one, Nat.add_zero] at hf35_0); clear hcl35 hcc35 hfr35 hM35; replace p35 := eq_true p35; replace q35 := eq_true q35; have HX41 := Aside0.mk (show Kd.N (Kd.slice 5 (Kd.int .u8)) 22 wr w.heap.size (fun k_ => (P0_ k_ ∨ w.heap.size ≤ k_)) (.slice (some ⟨go35, 0, none⟩) x9_2.length co35) x9_2 from (by (with_reducible repeat (first | apply Kd.N_alloc | apply Kd.N_drewN | apply Kd.N_drew)); exact HO_9.out)); obtain ⟨ce41, hcl41, hM41, hcc41, hfr41⟩ := Kd.N_elem HX41.out [] (x10_2 : Int) (of_decide_eq_true (by first | (with_reducible assumption) | assumption)) (by have h_ : (x10_2 : Int) < ((x9_2.length : Int) : Int) := of_decide_eq_true (by first | (with_reducible assumption) | assumption); first | exact h_ | (have e_ := (Kd.N_reads' HO_9.out).1; omega) | simpa using h_); obtain ⟨ua41_0, uc41_0, rfl, ul41_0, ge41_0⟩ := Kd.FK_slice_open hM41; have HP41 := Kd.N_seg HX41.out (x10_2 : Int) (of_decide_eq_true (by first | (with_reducible assumption) | assumption)) (by have h_ : (x10_2 : Int) < ((x9_2.length : Int) : Int) := of_decide_eq_true (by first | (with_reducible assumption) | assumption); first | exact h_ | (have e_ := (Kd.N_reads' HO_9.out).1; omega) | simpa using h_) (seg := [.slice Ao39 y296.length y296.length]) (j := 0) hcl41 hcc41 (show 1 ≤ 1 from by decide) (x' := y296) (Kd.FK_slice_mk (Kd.V_reads' (Kd.V_mono (ok' := (fun k_ => ((fun k_ => (P0_ k_ ∨ w.heap.size ≤ k_))) k_ ∧ k_ ≠ go35)) (HO300.out) (fun k_ hk => ⟨hk.1, fun e_ => (hk.2) (by rw [e_]; rfl)⟩))).2.1 (Kd.V_F (Kd.V_mono (ok' := (fun k_ => ((fun k_ => (P0_ k_ ∨ w.heap.size ≤ k_))) k_ ∧ k_ ≠ go35)) (HO300.out) (fun k_ hk => ⟨hk.1, fun e_ => (hk.2) (by rw [e_]; rfl)⟩)))) (fun _ hk => hk); have hx41_0 := hcc41 0 _ rfl; (try simp only [show ((Kd.slice 5 (Kd.int .u8))).sz = 1 from rfl, Nat.mul_one, Nat.add_zero] at hx41_0); have hf41_0 := hfr41 0; (try simp only [show ((Kd.slice 5 (Kd.int .u8))).sz = 1 from rfl, Nat.mul_one, Nat.add_zero] at hf41_0); clear hcl41 hcc41 hfr41 hM41; (try simp only [show ((Kd.slice 5 (Kd.int .u8))).sz = 1 from rfl, Nat.mul_one, Nat.add_zero] at HP41); (try simp only [show ((Kd.slice 5 (Kd.int .u8))).sz = 1 from rfl, Nat.mul_one, Nat.add_zero] at HP41)) | ((with_reducible refine gate_store (t := 22) (p := 53) rfl ?_); refine store_event (t := 22) (p := 53) (v := ?vo_w42) (w1 := (wr.setCell ⟨go35, (x10_2 : Int).toNat, none⟩ (.slice Ao39 y296.length y296.length))) ?hg ?ho ?hn ?hr ?_; (case ho => rfl); (case hg => rfl); (case hn => rfl); (case hr => first | (go_simp; done) | (go_simp; rfl)); intro w42 hw; have hg : wr.grownBy w42 (some go35) := (by rw [hw]; exact HP41.2); have hp_ : Kd.N (Kd.slice 5 (Kd.int .u8)) 22 w42 w.heap.size (fun k_ => (P0_ k_ ∨ w.heap.size ≤ k_)) (.slice (some ⟨go35, 0, none⟩) x9_2.length co35) y301 := (by rw [hw, Ny301.out]; exact HP41.1); clear HP41; have n0_ := Aside0.mk (Kd.V_afterv (v := (.slice (some ⟨go35, 0, none⟩) x9_2.length co35)) (v1 := (.slice (some ⟨go35, 0, none⟩) x9_2.length co35)) (ok := (fun k_ => (P0_ k_ ∨ w.heap.size ≤ k_))) (by (with_reducible repeat (first | apply Kd.V_alloc | apply Kd.V_drewN | apply Kd.V_drew)); exact HO_0.out) hg (.inl rfl)); have n1_ := Aside0.mk (hp_); have n2_ := Aside0.mk (Kd.V_afterv (v := (.slice (some ⟨go35, 0, none⟩) x9_2.length co35)) (v1 := (.slice (some ⟨go35, 0, none⟩) x9_2.length co35)) (ok := (fun k_ => (P0_ k_ ∨ w.heap.size ≤ k_))) (by (with_reducible repeat (first | apply Kd.V_alloc | apply Kd.V_drewN | apply Kd.V_drew)); exact HO300.out) hg (.inl rfl)); have n3_ := Aside0.mk ((by rw [hw]; exact below_set (HB.out) GB35.out : Below w.heap.size w w42)); clear HO_0; clear HO_9; clear HO300; clear HB; have HO_0 := n0_; have HO_9 := n1_; have HO300 := n2_; have HB := n3_; clear n0_ n1_ n2_ n3_; clear hg hw hp_; have q43 : ((ji36) : Int) ≤ ((x0_2.length : Int) : Int) := of_decide_eq_true (by first | (with_reducible assumption) | assumption); obtain ⟨i043, hi043, _, hsz43, _⟩ := info_parts info5; have hroom43 : x0_2.length ≤ co39 := (Kd.V_reads' HO_0.out).2.1; have hC43 : Kd.F (Kd.int .u8) _ _ Ao39 x0_2.length x0_2 := (Kd.V_at (base := w.heap.size) HO_0.out).2.2; have q043 : (0 : Int) ≤ ((ji36) : Int) := of_decide_eq_true (by first | (with_reducible assumption) | assumption); have hcut43 := cut_from (P := Tryd.prog) 22 5 .i64 Tryd.underlying22 hi043 1 hsz43 Ao39 x0_2.length co39 (ji36) q043 q43; have hr43 := Kd.F_cut (m := ((ji36) : Int).toNat) (c := co39) hC43 (by omega) hroom43; obtain ⟨A43, hA43⟩ : ∃ A1, A1 = (if co39 = ((ji36) : Int).toNat then Ao39 else (Ao39 : Option Addr).map (·.add (((ji36) : Int).toNat * 1))) := ⟨_, rfl⟩; obtain ⟨c43, hc43⟩ : ∃ c1, c1 = co39 - ((ji36) : Int).toNat := ⟨_, rfl⟩; have hy43 : y302.length = x0_2.length - ((ji36) : Int).toNat := (by rw [Ny302.out, List.length_drop] <;> omega); rw [show (x0_2).drop ((ji36) : Int).toNat = y302 from Ny302.out.symm] at hr43; replace hr43 : Kd.F (Kd.int .u8) _ _ A43 y302.length y302 := (by rw [hA43]; exact hr43); rw [← hy43, ← hA43, ← hc43] at hcut43; have HO306 := Aside0.mk (show Kd.V (Kd.int .u8) 5 _ w.heap.size _ (.slice A43 y302.length c43) y302 from Kd.V_mk (by rw [hy43, hc43]; exact Nat.sub_le_sub_right hroom43 _) hr43); have HC306 := Aside0.mk (show y302.length ≤ c43 from by rw [hy43, hc43]; exact Nat.sub_le_sub_right hroom43 _); clear hr43 hC43 hroom43 hi043 hsz43 hc43; have KY43 := Aside0.mk hy43; have KA43 := Aside0.mk hA43; clear hy43 hA43; replace q43 := eq_true q43))
                                  go_roundg k2
                                  case measure => have := HJ8.out; have := HK2.out; omega
                                  case rel => exact ⟨(y302), (y301), (wrap64 (x10_2 + 1)), (by first | rfl | (simp; done) | (simp [*]; done)), H', ⟨by have := HJ8.out; have := HK2.out; omega⟩, ⟨by (with_reducible repeat (first | apply Kd.V_alloc | apply Kd.V_drewN | apply Kd.V_drew)); exact HO306.out⟩, ⟨by (with_reducible repeat (first | apply Kd.N_alloc | apply Kd.N_drewN | apply Kd.N_drew)); exact HO_9.out⟩, ⟨by repeat (first | (with_reducible first | exact HB.out | apply below_alloc | apply pw_below_drewN | apply below_drew1) | exact HB.out)⟩⟩
                                · rw [if_neg c38] at H
                                  exact absurd H (by simp)
                              · rw [if_neg c37] at H
                                exact absurd H (by simp)
                            · rw [if_neg c34] at H
                              exact absurd H (by simp)
                          · rw [if_neg c33] at H
                            exact absurd H (by simp)
                        · rw [if_neg c32] at H
                          exact absurd H (by simp)
                      · rw [if_neg c31] at H
                        exact absurd H (by simp)
                  · rw [if_neg c17] at H
                    have c17b0 : decide (x10_2 < (wrap64 ((ji12) - 1))) = false := decide_eq_false c17
                    clear c17
                    by_cases c44 : 0 ≤ x10_2
                    · rw [if_pos c44] at H
                      have c44b0 : decide (0 ≤ x10_2) = true := decide_eq_true c44
                      clear c44
                      by_cases c45 : x10_2 < (x9_2.length : Int)
                      · rw [if_pos c45] at H
                        have c45b0 : decide (x10_2 < (x9_2.length : Int)) = true := decide_eq_true c45
                        clear c45
                        obtain ⟨y307, hy307⟩ : ∃ y_ : List (List Int), y_ = (x9_2.set (x10_2 : Int).toNat x0_2) := ⟨_, rfl⟩
                        replace H : (if 0 ≤ (wrap64 (x10_2 + 1)) then (if (wrap64 (x10_2 + 1)) ≤ (x9_2.length : Int) then (some (y307.take ((wrap64 (x10_2 + 1)) : Int).toNat)) else (none)) else (none)) = some r := by first | (rw [hy307]; with_reducible exact H) | (have H2_ := (Option.bind_some _ _).symm.trans H; rw [hy307]; with_reducible exact H2_) | (have H2_ := (Option.bind_some _ _).symm.trans H; with_reducible exact H2_) | with_reducible exact H | (rw [hy307]; exact H) | exact H
                        have Ny307 := Aside0.mk hy307
                        clear hy307
                        obtain ⟨ji47, hji47⟩ : ∃ j_ : Int, (wrap64 (x10_2 + 1)) = j_ := ⟨_, rfl⟩
                        replace H : (if 0 ≤ (ji47) then (if (ji47) ≤ (x9_2.length : Int) then (some (y307.take ((ji47) : Int).toNat)) else (none)) else (none)) = some r := by first | (rw [hji47] at H; exact H) | (simp only [hji47] at H ⊢; exact H)
                        have hji47w : (IntKind.i64.wrap (x10_2 + 1)) = ji47 := (i64_w _).trans hji47
                        by_cases c48 : 0 ≤ (ji47)
                        · rw [if_pos c48] at H
                          have c48b0 := eq_true c48
                          have c48b1 : decide (0 ≤ (ji47)) = true := decide_eq_true c48
                          clear c48
                          by_cases c49 : (ji47) ≤ (x9_2.length : Int)
                          · rw [if_pos c49] at H
                            have c49b0 := eq_true c49
                            have c49b1 : decide ((ji47) ≤ (x9_2.length : Int)) = true := decide_eq_true c49
                            clear c49
                            obtain ⟨y308, hy308⟩ : ∃ y_ : List (List Int), y_ = (y307.take ((ji47) : Int).toNat) := ⟨_, rfl⟩
                            replace H : (some y308) = some r := by first | (rw [hy308]; with_reducible exact H) | (have H2_ := (Option.bind_some _ _).symm.trans H; rw [hy308]; with_reducible exact H2_) | (have H2_ := (Option.bind_some _ _).symm.trans H; with_reducible exact H2_) | with_reducible exact H | (rw [hy308]; exact H) | exact H
                            have Ny308 := Aside0.mk hy308
                            clear hy308
                            obtain rfl := Option.some.inj H
                            have p46 : 0 ≤ (x10_2 : Int) := of_decide_eq_true (by first | (with_reducible assumption) | assumption)
                            have q46 : (x10_2 : Int) < ((x9_2.length : Int) : Int) := of_decide_eq_true (by first | (with_reducible assumption) | assumption)
                            obtain ⟨go46, co46, eo46, gb46, gl46, cl46, HG46⟩ := Kd.N_form HO_9.out (by omega)
                            (first | cases eo46 | (injection eo46 with ea_ en_ ec_; (first | subst ea_ | (injection ea_ with ea_; subst ea_)); subst ec_; clear en_))
                            have GB46 := Aside0.mk gb46
                            have GG46 := Aside0.mk HG46
                            clear gb46 gl46 HG46
                            obtain ⟨ce46, hcl46, hM46, hcc46, hfr46⟩ := Kd.N_elem HO_9.out [] (x10_2 : Int) p46 q46
                            obtain ⟨ua46_0, uc46_0, rfl, ul46_0, ge46_0⟩ := Kd.FK_slice_open hM46
                            have hx46_0 := hcc46 0 _ rfl
                            have hf46_0 := hfr46 0
                            (try simp only [show ((Kd.slice 5 (Kd.int .u8))).sz = 1 from rfl, Nat.mul_one, Nat.add_zero] at hx46_0)
                            (try simp only [show ((Kd.slice 5 (Kd.int .u8))).sz = 1 from rfl, Nat.mul_one, Nat.add_zero] at hf46_0)
                            clear hcl46 hcc46 hfr46 hM46
                            replace p46 := eq_true p46
                            replace q46 := eq_true q46
                            obtain ⟨Ao52, co52, eo52⟩ := Kd.V_slice HO_0.out
                            subst eo52
                            have HX50 := Aside0.mk (show Kd.N (Kd.slice 5 (Kd.int .u8)) 22 wr w.heap.size (fun k_ => (P0_ k_ ∨ w.heap.size ≤ k_)) (.slice (some ⟨go46, 0, none⟩) x9_2.length co46) x9_2 from (by (with_reducible repeat (first | apply Kd.N_alloc | apply Kd.N_drewN | apply Kd.N_drew)); exact HO_9.out))
                            obtain ⟨ce50, hcl50, hM50, hcc50, hfr50⟩ := Kd.N_elem HX50.out [] (x10_2 : Int) (of_decide_eq_true (by first | (with_reducible assumption) | assumption)) (by have h_ : (x10_2 : Int) < ((x9_2.length : Int) : Int) := of_decide_eq_true (by first | (with_reducible assumption) | assumption); first | exact h_ | (have e_ := (Kd.N_reads' HO_9.out).1; omega) | simpa using h_)
                            obtain ⟨ua50_0, uc50_0, rfl, ul50_0, ge50_0⟩ := Kd.FK_slice_open hM50
                            have HP50 := Kd.N_seg HX50.out (x10_2 : Int) (of_decide_eq_true (by first | (with_reducible assumption) | assumption)) (by have h_ : (x10_2 : Int) < ((x9_2.length : Int) : Int) := of_decide_eq_true (by first | (with_reducible assumption) | assumption); first | exact h_ | (have e_ := (Kd.N_reads' HO_9.out).1; omega) | simpa using h_) (seg := [.slice Ao52 x0_2.length co52]) (j := 0) hcl50 hcc50 (show 1 ≤ 1 from by decide) (x' := x0_2) (Kd.FK_slice_mk (Kd.V_reads' (Kd.V_mono (ok' := (fun k_ => ((fun k_ => (P0_ k_ ∨ w.heap.size ≤ k_))) k_ ∧ k_ ≠ go46)) (HO_0.out) (fun k_ hk => ⟨hk.1, fun e_ => (hk.2) (by rw [e_]; rfl)⟩))).2.1 (Kd.V_F (Kd.V_mono (ok' := (fun k_ => ((fun k_ => (P0_ k_ ∨ w.heap.size ≤ k_))) k_ ∧ k_ ≠ go46)) (HO_0.out) (fun k_ hk => ⟨hk.1, fun e_ => (hk.2) (by rw [e_]; rfl)⟩)))) (fun _ hk => hk)
                            have hx50_0 := hcc50 0 _ rfl
                            (try simp only [show ((Kd.slice 5 (Kd.int .u8))).sz = 1 from rfl, Nat.mul_one, Nat.add_zero] at hx50_0)
                            have hf50_0 := hfr50 0
                            (try simp only [show ((Kd.slice 5 (Kd.int .u8))).sz = 1 from rfl, Nat.mul_one, Nat.add_zero] at hf50_0)
                            clear hcl50 hcc50 hfr50 hM50
                            (try simp only [show ((Kd.slice 5 (Kd.int .u8))).sz = 1 from rfl, Nat.mul_one, Nat.add_zero] at HP50)
                            (try simp only [show ((Kd.slice 5 (Kd.int .u8))).sz = 1 from rfl, Nat.mul_one, Nat.add_zero] at HP50)
                            go_wp2_with (first | ((with_reducible refine gate_store (t := 22) (p := 65) rfl ?_); refine store_event (t := 22) (p := 65) (v := ?vo_w51) (w1 := (wr.setCell ⟨go46, (x10_2 : Int).toNat, none⟩ (.slice Ao52 x0_2.length co52))) ?hg ?ho ?hn ?hr ?_; (case ho => rfl); (case hg => rfl); (case hn => rfl); (case hr => first | (go_simp; done) | (go_simp; rfl)); intro w51 hw; have hg : wr.grownBy w51 (some go46) := (by rw [hw]; exact HP50.2); have hp_ : Kd.N (Kd.slice 5 (Kd.int .u8)) 22 w51 w.heap.size (fun k_ => (P0_ k_ ∨ w.heap.size ≤ k_)) (.slice (some ⟨go46, 0, none⟩) x9_2.length co46) y307 := (by rw [hw, Ny307.out]; exact HP50.1); clear HP50; have n0_ := Aside0.mk (Kd.V_afterv (v := (.slice (some ⟨go46, 0, none⟩) x9_2.length co46)) (v1 := (.slice (some ⟨go46, 0, none⟩) x9_2.length co46)) (ok := (fun k_ => (P0_ k_ ∨ w.heap.size ≤ k_))) (by (with_reducible repeat (first | apply Kd.V_alloc | apply Kd.V_drewN | apply Kd.V_drew)); exact HO_0.out) hg (.inl rfl)); have n1_ := Aside0.mk (hp_); have n2_ := Aside0.mk ((by rw [hw]; exact below_set (HB.out) GB46.out : Below w.heap.size w w51)); clear HO_0; clear HO_9; clear HB; have HO_0 := n0_; have HO_9 := n1_; have HB := n2_; clear n0_ n1_ n2_; clear hg hw hp_; have q53 : ((ji47) : Int) ≤ ((x9_2.length : Int) : Int) := of_decide_eq_true (by first | (with_reducible assumption) | assumption); obtain ⟨i053, hi053, _, hsz53, _⟩ := info_parts info22; have hcut53 := cut_to (P := Tryd.prog) 53 22 .i64 Tryd.underlying53 hi053 (some ⟨go46, 0, none⟩) x9_2.length co46 (ji47) (of_decide_eq_true (by first | (with_reducible assumption) | assumption)) q53 (Kd.N_reads' HO_9.out).2.1; have hr53 := Kd.N_take (m := ((ji47) : Int).toNat) HO_9.out (by first | omega | (have e_ := (Kd.N_reads' HO_9.out).1; omega)); have hy53 : y308.length = ((ji47) : Int).toNat := (by rw [Ny308.out, List.length_take]; first | omega | (have e_ := (Kd.N_reads' HO_9.out).1; omega)); rw [← Ny308.out] at hr53; rw [← hy53] at hr53 hcut53; clear hy53 hi053 hsz53 HO_9; have HO310 := Aside0.mk hr53; clear hr53; replace q53 := eq_true q53))
                            go_ret
                            exact ⟨_, by first | rfl | (simp [errW_none, errW_some] <;> rfl) | (simp only [← hji12, ← hji47]; first | rfl | (simp [errW_none, errW_some] <;> rfl)) | (simp [*, errW_none, errW_some] <;> rfl), by (with_reducible repeat (first | apply Kd.N_alloc | apply Kd.N_drewN | apply Kd.N_drew)); exact HO310.out, by repeat (first | (with_reducible first | exact HB.out | apply below_alloc | apply pw_below_drewN | apply below_drew1) | exact HB.out)⟩
                          · rw [if_neg c49] at H
                            exact absurd H (by simp)
                        · rw [if_neg c48] at H
                          exact absurd H (by simp)
                      · rw [if_neg c45] at H
                        exact absurd H (by simp)
                    · rw [if_neg c44] at H
                      exact absurd H (by simp)
            · rw [if_neg c14] at H
              exact absurd H (by simp)
          · rw [if_neg c13] at H
            exact absurd H (by simp)

/-! ### bytes_Split: function 36 -/
def bytes_Split.f (k : Nat) (l0 : List Int) (l1 : List Int) : Option ((List (List Int))) := (bytes_genSplit.f k l0 l1 0 (-1)).bind fun t311 => (some t311)
theorem bytes_Split.mono : ∀ a0 a1 k, LeO (bytes_Split.f k a0 a1) (bytes_Split.f (k + 1) a0 a1) := by
  intro a0 a1 k
  unfold bytes_Split.f
  repeat' first
      | (with_reducible exact bytes_genSplit.mono _ _ _ _ _)
      | (with_reducible exact LeO.refl _)
      | (with_reducible exact LeO.none _)
      | (with_reducible refine LeO.ite ?_ ?_)
      | (with_reducible refine LeO.bind ?_ (fun _ => ?_))
      | exact bytes_genSplit.mono _ _ _ _ _
      | exact LeO.none _
      | refine LeO.ite ?_ ?_
      | refine LeO.bind ?_ (fun _ => ?_)
set_option maxHeartbeats 8000000 in
set_option maxRecDepth 100000 in
theorem bytes_Split.calls (k : Nat) (P0_ : Nat → Prop) (A0 : Option Addr) (c0 : Nat) (l0 : List Int) (A1 : Option Addr) (c1 : Nat) (l1 : List Int) (r : List (List Int)) (w : World) (hs0 : Kd.V (Kd.int .u8) 5 w w.heap.size (fun k_ => P0_ k_) (.slice A0 l0.length c0) l0) (hr1 : Kd.C (Kd.int .u8) w A1 l1.length l1) (hc1 : l1.length ≤ c1) (h : bytes_Split.f k l0 l1 = some r) :
    Calls Tryd.prog 36 #[.slice A0 l0.length c0, .slice A1 l1.length c1] w fun e w' => ∃ v0_ : Value, e = .returned (v0_) ∧ Kd.N (Kd.slice 5 (Kd.int .u8)) 22 w' w.heap.size (fun k_ => (P0_ k_ ∨ w.heap.size ≤ k_)) v0_ r ∧ Below w.heap.size w w' := by
  have HO0 := Aside0.mk (show Kd.V (Kd.int .u8) 5 w w.heap.size (fun k_ => (P0_ k_ ∨ w.heap.size ≤ k_)) (.slice A0 l0.length c0) l0 from Kd.V_mono hs0 (fun k_ hk => .inl hk))
  have HR1 := Aside0.mk hr1
  have HC1 := Aside0.mk hc1
  clear hr1 hc1
  have HB := Aside0.mk (Below.refl w.heap.size w)
  have H : ((bytes_genSplit.f k l0 l1 0 (-1)).bind fun t311 => (some t311)) = some r := h
  clear h
  replace H := Option.bind_eq_some_iff.mp H
  obtain ⟨t311, A30, H⟩ := H
  replace H : (some t311) = some r := H
  have A3 := Aside0.mk A30
  clear A30
  obtain rfl := Option.some.inj H
  go_enter Tryd.func36, Tryd.ntmps36
  go_wp2_with (first | ((with_reducible refine gate_callee (f := 46) rfl ?_); refine goesL_ (some 7) rfl rfl Tryd.func46 (by kernel_rfl) rfl #[.slice A0 l0.length c0, .slice A1 l1.length c1, .int .i64 0, .int .i64 (-1)] rfl (by (try simp only [List.map_toArray, List.map_cons, List.map_nil]); first | done | rfl | (simp only [List.length_drop, List.length_take]; rfl)) ?_; (with_reducible refine (bytes_genSplit.calls k (fun k_ => (P0_ k_ ∨ w.heap.size ≤ k_)) _ _ l0 _ _ l1 0 (-1) t311 _ ?side1 ?side2 ?side3 A3.out).mono ?_); (case side1 => exact HO0.out); (case side2 => repeat (first | exact HR1.out | (with_reducible refine Kd.C_alloc ?_ _) | (with_reducible refine Kd.C_drewN ?_ _) | (with_reducible refine Kd.C_drew ?_))); (case side3 => exact HC1.out); rintro e w4 ⟨v312, rfl, ho0, hb⟩; refine ⟨_, rfl, ?_⟩; have n0_ := Aside0.mk (Kd.V_elder' (by (with_reducible repeat (first | apply Kd.V_alloc | apply Kd.V_drewN | apply Kd.V_drew)); exact HO0.out) (Kd.N_base ho0) hb); have n1_ := Aside0.mk (Kd.N_lower (Kd.N_mono (ok' := fun k_ => (P0_ k_ ∨ w.heap.size ≤ k_)) ho0 (fun k_ hk_ => Or.elim hk_ (fun hs_ => hs_) (fun hn_ => (.inr (Nat.le_trans (below_size (by repeat (first | (with_reducible first | exact HB.out | apply below_alloc | apply pw_below_drewN | apply below_drew1) | exact HB.out))) hn_))))) (below_size (by repeat (first | (with_reducible first | exact HB.out | apply below_alloc | apply pw_below_drewN | apply below_drew1) | exact HB.out)))); have n2_ := Aside0.mk (below_step (by repeat (first | (with_reducible first | exact HB.out | apply below_alloc | apply pw_below_drewN | apply below_drew1) | exact HB.out)) hb); clear HO0; clear HB; have HO0 := n0_; have HO313 := n1_; have HB := n2_; clear n0_ n1_ n2_; (try clear hb); (try clear hb2); (try clear hk); (try clear hi); (try clear ho0)))
  go_ret
  exact ⟨_, by first | rfl | (simp [errW_none, errW_some] <;> rfl) | (simp [*, errW_none, errW_some] <;> rfl), by (with_reducible repeat (first | apply Kd.N_alloc | apply Kd.N_drewN | apply Kd.N_drew)); exact HO313.out, by repeat (first | (with_reducible first | exact HB.out | apply below_alloc | apply pw_below_drewN | apply below_drew1) | exact HB.out)⟩

/-! ### lines_Split: function 26 -/
def lines_Split.l0 : Nat → List ByteArray → List (List Int) → Int → Int → Option (List ByteArray)
  | 0, _, _, _, _ => none
  | k + 1, x3, x8, x9, x10 => if x10 < x9 then (if 0 ≤ x10 then (if x10 < (x8.length : Int) then (if x3.length < 8796093022208 then (lines_Split.l0 k (x3 ++ [strOfNums (rd_L3 x8 x10)]) x8 x9 (wrap64 (x10 + 1))) else (none)) else (none)) else (none)) else (some x3)
def lines_Split.f (k : Nat) (l0 : List Int) : Option (List ByteArray) := (bytes_Split.f k l0 (([10] : List Int))).bind fun t317 => (lines_Split.l0 k ([] : List ByteArray) t317 (t317.length : Int) 0)
theorem lines_Split.mono_l : ∀ k, (∀ y0 y1 y2 y3, LeO (lines_Split.l0 k y0 y1 y2 y3) (lines_Split.l0 (k + 1) y0 y1 y2 y3))
  | 0 => fun _ _ _ _ r h => by simp [lines_Split.l0] at h
  | k + 1 => by
    have ih0 := lines_Split.mono_l k
    · intro y0 y1 y2 y3
      unfold lines_Split.l0
      repeat' first
      | (with_reducible exact ih0 _ _ _ _)
      | (with_reducible exact bytes_Split.mono _ _ _)
      | (with_reducible exact LeO.refl _)
      | (with_reducible exact LeO.none _)
      | (with_reducible refine LeO.ite ?_ ?_)
      | (with_reducible refine LeO.bind ?_ (fun _ => ?_))
      | exact ih0 _ _ _ _
      | exact bytes_Split.mono _ _ _
      | exact LeO.none _
      | refine LeO.ite ?_ ?_
      | refine LeO.bind ?_ (fun _ => ?_)
theorem lines_Split.mono : ∀ a0 k, LeO (lines_Split.f k a0) (lines_Split.f (k + 1) a0) := by
  intro a0 k
  have ih0 := lines_Split.mono_l k
  unfold lines_Split.f
  repeat' first
      | (with_reducible exact ih0 _ _ _ _)
      | (with_reducible exact bytes_Split.mono _ _ _)
      | (with_reducible exact LeO.refl _)
      | (with_reducible exact LeO.none _)
      | (with_reducible refine LeO.ite ?_ ?_)
      | (with_reducible refine LeO.bind ?_ (fun _ => ?_))
      | exact ih0 _ _ _ _
      | exact bytes_Split.mono _ _ _
      | exact LeO.none _
      | refine LeO.ite ?_ ?_
      | refine LeO.bind ?_ (fun _ => ?_)
set_option maxHeartbeats 8000000 in
set_option maxRecDepth 100000 in
theorem lines_Split.calls (k : Nat) (A0 : Option Addr) (c0 : Nat) (l0 : List Int) (r : List ByteArray) (w : World) (hr0 : Kd.C (Kd.int .u8) w A0 l0.length l0) (hc0 : l0.length ≤ c0) (h : lines_Split.f k l0 = some r) :
    Calls Tryd.prog 26 #[.slice A0 l0.length c0] w fun e w' => ∃ v0_ : Value, e = .returned (v0_) ∧ Kd.R Kd.string 9 w' w.heap.size (fun _ => True) v0_ r ∧ Below w.heap.size w w' := by
  have HR0 := Aside0.mk hr0
  have HC0 := Aside0.mk hc0
  clear hr0 hc0
  have HB := Aside0.mk (Below.refl w.heap.size w)
  have H : ((bytes_Split.f k l0 (([10] : List Int))).bind fun t317 => (lines_Split.l0 k ([] : List ByteArray) t317 (t317.length : Int) 0)) = some r := h
  clear h
  obtain ⟨y314, hy314⟩ : ∃ y_ : List Int, y_ = (([10] : List Int)) := ⟨_, rfl⟩
  replace H : ((bytes_Split.f k l0 y314).bind fun t317 => (lines_Split.l0 k ([] : List ByteArray) t317 (t317.length : Int) 0)) = some r := by first | (rw [hy314]; with_reducible exact H) | (have H2_ := (Option.bind_some _ _).symm.trans H; rw [hy314]; with_reducible exact H2_) | (have H2_ := (Option.bind_some _ _).symm.trans H; with_reducible exact H2_) | with_reducible exact H | (rw [hy314]; exact H) | exact H
  have Ny314 := Aside0.mk hy314
  clear hy314
  replace H := Option.bind_eq_some_iff.mp H
  obtain ⟨t317, A20, H⟩ := H
  replace H : (lines_Split.l0 k ([] : List ByteArray) t317 (t317.length : Int) 0) = some r := H
  have A2 := Aside0.mk A20
  clear A20
  have H' := Aside0.mk H
  clear H
  go_enter Tryd.func26, Tryd.ntmps26
  go_wp2_with (first | ((with_reducible refine gate_dst (N := 7) rfl ?_); refine Kd.R_lit (Kd.int .u8) _ 5 ?hg (N := 7) ?hd (xs := ([10] : List Int)) (inner := [.int .u8 10]) (ok := fun _ => True) (okp := fun _ => True) ?hr ?hp (fun _ hk => hk) trivial (Below.refl _ _) (Nat.le_refl _) (by simp) ?_; (case hd => rfl); (case hg => rfl); (case hr => first | (go_simp; done) | (go_simp; rfl)); (case hp => exact (Reps.one (show Kd.M (Kd.int .u8) _ _ _ 10 [.int .u8 10] from rfl) (Reps.none _ _))); intro v315 w3 ho4 hb hg_ hnew_; clear hg_ hnew_; (first | rw [← Ny314.out] at ho4 | (simp only [Int.reduceToNat] at ho4; rw [← Ny314.out] at ho4)); have n0_ := Aside0.mk (Kd.R_lower ho4 (below_size (by repeat (first | (with_reducible first | exact HB.out | apply below_alloc | apply pw_below_drewN | apply below_drew1) | exact HB.out)))); have n1_ := Aside0.mk (below_step (by repeat (first | (with_reducible first | exact HB.out | apply below_alloc | apply pw_below_drewN | apply below_drew1) | exact HB.out)) hb); clear HB; have HO316 := n0_; have HB := n1_; clear n0_ n1_; clear hb ho4; obtain ⟨Ao5, co5, eo5⟩ := Kd.R_slice HO316.out; subst eo5) | ((with_reducible refine gate_callee (f := 36) rfl ?_); refine goesL_ (some 8) rfl rfl Tryd.func36 (by kernel_rfl) rfl #[.slice A0 l0.length c0, .slice Ao5 y314.length co5] rfl (by (try simp only [List.map_toArray, List.map_cons, List.map_nil]); first | done | rfl | (simp only [List.length_drop, List.length_take]; rfl)) ?_; (with_reducible refine (bytes_Split.calls k (fun k_ => k_ < w.heap.size) _ _ l0 _ _ y314 t317 _ ?side1 ?side2 ?side3 A2.out).mono ?_); (case side1 => exact Kd.V_mk HC0.out (Kd.F_below (Kd.C_F (Kd.heap_int .u8) HR0.out) (by repeat (first | (with_reducible first | exact HB.out | apply below_alloc | apply pw_below_drewN | apply below_drew1) | exact HB.out)))); (case side2 => repeat (first | exact (Kd.R_reads' HO316.out).2.2 | (with_reducible refine Kd.C_alloc ?_ _) | (with_reducible refine Kd.C_drewN ?_ _) | (with_reducible refine Kd.C_drew ?_))); (case side3 => exact (Kd.R_reads' HO316.out).2.1); rintro e w6 ⟨v318, rfl, ho0, hb⟩; refine ⟨_, rfl, ?_⟩; have n0_ := Aside0.mk (Kd.R_below (by (with_reducible repeat (first | apply Kd.R_alloc | apply Kd.R_drewN | apply Kd.R_drew)); exact HO316.out) hb); have n1_ := Aside0.mk (Kd.N_lower (Kd.N_mono (ok' := fun k_ => some k_ ≠ (.slice Ao5 y314.length co5 : Value).ownBlock) ho0 (fun k_ hk_ => Or.elim hk_ (fun hs_ => fun e_ => Nat.not_le.2 hs_ (Kd.R_base HO316.out k_ e_.symm)) (fun hn_ => (Kd.fresh' (Kd.R_lt (by (with_reducible repeat (first | apply Kd.R_alloc | apply Kd.R_drewN | apply Kd.R_drew)); exact HO316.out)) k_ hn_)))) (below_size (by repeat (first | (with_reducible first | exact HB.out | apply below_alloc | apply pw_below_drewN | apply below_drew1) | exact HB.out)))); have n2_ := Aside0.mk (below_step (by repeat (first | (with_reducible first | exact HB.out | apply below_alloc | apply pw_below_drewN | apply below_drew1) | exact HB.out)) hb); clear HO316; clear HB; have HO316 := n0_; have HO319 := n1_; have HB := n2_; clear n0_ n1_ n2_; (try clear hb); (try clear hb2); (try clear hk); (try clear hi); (try clear ho0); obtain ⟨Ao7, co7, eo7⟩ := Kd.N_slice HO319.out; subst eo7))
  go_loopg [3, 10] k (fun kq v3 v10 w' => ∃ (x3_1 : List ByteArray) (x10_1 : Int), v10 = .int .i64 x10_1 ∧ Aside0 (lines_Split.l0 kq x3_1 t317 (t317.length : Int) x10_1 = some r) ∧ Aside0 (kq ≤ k) ∧ Aside0 (Kd.R Kd.string 9 w' w.heap.size (fun _ => True) v3 x3_1) ∧ Aside0 (Kd.N (Kd.slice 5 (Kd.int .u8)) 22 w' w.heap.size (fun k_ => some k_ ≠ (v3 : Value).ownBlock) (.slice Ao7 t317.length co7) t317) ∧ Aside0 (Below w.heap.size w w'))
  case atStart => exact ⟨(([] : List ByteArray)), (0), (by first | rfl | (simp; done) | (simp [*]; done)), H', ⟨Nat.le_refl _⟩, ⟨by first | exact Kd.R_nil _ _ _ _ _ | exact Kd.N_nil _ _ _ _ _ | exact Kd.V_nil _ _ _ _ _ | exact Kd.Q_nil _ _ _ _ _ | exact Kd.S_nil _ _ _ _ _⟩, ⟨by (with_reducible repeat (first | apply Kd.N_alloc | apply Kd.N_drewN | apply Kd.N_drew)); exact Kd.N_mono HO319.out (fun _ hk => (by simp [Value.ownBlock]))⟩, ⟨by repeat (first | (with_reducible first | exact HB.out | apply below_alloc | apply pw_below_drewN | apply below_drew1) | exact HB.out)⟩⟩
  case round =>
    clear H'
    try clear c2
    try clear p2
    try clear c3
    obtain ⟨x3_1, x10_1, rfl, HA, HK1, HO_3, HO_8, HB⟩ := hrel
    cases gk with
    | zero => exact absurd HA.out (by simp [lines_Split.l0])
    | succ k1 =>
      have H := HA.out
      clear HA
      simp only [lines_Split.l0] at H
      by_cases c8 : x10_1 < (t317.length : Int)
      · rw [if_pos c8] at H
        have c8b0 : decide (x10_1 < (t317.length : Int)) = true := decide_eq_true c8
        clear c8
        by_cases c9 : 0 ≤ x10_1
        · rw [if_pos c9] at H
          have c9b0 : decide (0 ≤ x10_1) = true := decide_eq_true c9
          clear c9
          by_cases c10 : x10_1 < (t317.length : Int)
          · rw [if_pos c10] at H
            have c10b0 : decide (x10_1 < (t317.length : Int)) = true := decide_eq_true c10
            clear c10
            by_cases c11 : x3_1.length < 8796093022208
            · rw [if_pos c11] at H
              have LMc11 := Aside0.mk c11
              clear c11
              obtain ⟨y321, hy321⟩ : ∃ y_ : List ByteArray, y_ = (x3_1 ++ [strOfNums (rd_L3 t317 x10_1)]) := ⟨_, rfl⟩
              replace H : (lines_Split.l0 k1 y321 t317 (t317.length : Int) (wrap64 (x10_1 + 1))) = some r := by first | (rw [hy321]; with_reducible exact H) | (have H2_ := (Option.bind_some _ _).symm.trans H; rw [hy321]; with_reducible exact H2_) | (have H2_ := (Option.bind_some _ _).symm.trans H; with_reducible exact H2_) | with_reducible exact H | (rw [hy321]; exact H) | exact H
              have Ny321 := Aside0.mk hy321
              clear hy321
              have H' := Aside0.mk H
              clear H
              have p320 : 0 ≤ (x10_1 : Int) := of_decide_eq_true (by first | (with_reducible assumption) | assumption)
              have q320 : x10_1 < (t317.length : Int) := of_decide_eq_true (by first | (with_reducible assumption) | assumption)
              obtain ⟨ad320, A320_0, c320_0, e320, hx320_0, hl320_0, hi320_0⟩ := at_L3 (Kd.N_reads' HO_8.out).2.2 x10_1 p320 q320
              cases e320
              obtain ⟨ce320, hce320, hMe320, hcc320⟩ := Kd.N_get HO_8.out [] x10_1 p320 (by first | exact q320 | exact of_decide_eq_true (by first | (with_reducible assumption) | assumption) | (have e_ := (Kd.N_reads' HO_8.out).1; omega))
              obtain ⟨ua320_0, uc320_0, rfl, ul320_0, ge320_0⟩ := Kd.FK_slice_open hMe320
              have hv320_0 := hcc320 0 _ rfl
              rw [Nat.add_zero, show ((Kd.slice 5 (Kd.int .u8))).sz = 1 from rfl, Nat.mul_one] at hv320_0
              replace hv320_0 := Option.some.inj (hv320_0.symm.trans hx320_0)
              injection hv320_0 with hva_ hvn_ hvc_
              rw [hva_] at ge320_0
              rw [hvc_] at ul320_0
              have HL320_0 := Aside0.mk (show Kd.V (Kd.int .u8) 5 _ w.heap.size _ _ (rd_L3 t317 x10_1) from Kd.V_mk ul320_0 ge320_0)
              clear hva_ hvn_ hvc_ ge320_0 ul320_0
              clear hcc320 hce320
              have HR320_0 := Aside0.mk hi320_0
              have HC320_0 := Aside0.mk hl320_0
              clear hi320_0 hl320_0
              replace p320 := eq_true p320
              replace q320 := eq_true q320
              have hcv12 := Kd.C_string (P := Tryd.prog) (A := A320_0) (c := c320_0) Tryd.underlying22 Tryd.underlying5 Tryd.underlying9 (by repeat (first | (with_reducible exact HR320_0.out) | (with_reducible refine Kd.C_alloc ?_ _) | (with_reducible refine Kd.C_drewN ?_ _) | (with_reducible refine Kd.C_drew ?_) | exact HR320_0.out))
              go_wp2_with (first | ((with_reducible refine gate_builtin (b := .append) (xs := #[.tmp 14, .tmp 17]) rfl ?_); at_builtin; refine Kd.R_append Kd.string (w0 := w) w.heap.size rfl (.tmp 14) (.tmp 17) 45 9 (.string ⟨#[]⟩) 16 rfl Tryd.underlying45 info9 rfl (by decide) (by omega) u3 x3_1 (strOfNums (rd_L3 t317 x10_1)) [.string (strOfNums (rd_L3 t317 x10_1))] (fun _ => True) (fun _ => False) rfl rfl ?aP (fun _ hk => hk.elim) ?aF ?aO ?aB ?aS ?aL ?_; (case aP => exact rfl); (case aB => exact (by repeat (first | (with_reducible first | exact HB.out | apply below_alloc | apply pw_below_drewN | apply below_drew1) | exact HB.out))); (case aF => exact (fun _ _ => trivial)); (case aO => exact (by (with_reducible repeat (first | apply Kd.R_alloc | apply Kd.R_drewN | apply Kd.R_drew)); exact HO_3.out)); (case aS => exact (below_size (by repeat (first | (with_reducible first | exact HB.out | apply below_alloc | apply pw_below_drewN | apply below_drew1) | exact HB.out)))); (case aL => have := LMc11.out; omega); intro v322 w13 ho hb hg hat; rw [← Ny321.out] at ho; have n0_ := Aside0.mk (Kd.N_afterv (ok := (fun _ => True)) (by (with_reducible repeat (first | apply Kd.N_alloc | apply Kd.N_drewN | apply Kd.N_drew)); exact Kd.N_mono HO_8.out (fun _ hk => ⟨trivial, hk⟩)) hg hat); have n1_ := Aside0.mk (Kd.V_afterv (ok := (fun k_ => some k_ ≠ (.slice (some ad320) t317.length co7 : Value).ownBlock)) (by (with_reducible repeat (first | apply Kd.V_alloc | apply Kd.V_drewN | apply Kd.V_drew)); exact Kd.V_mono HL320_0.out (fun _ hk => ⟨hk.2, hk.1⟩)) hg hat); have n2_ := Aside0.mk (hb); have n3_ := Aside0.mk (ho); clear HO_8; clear HL320_0; clear HB; clear HO_3; have HO_8 := n0_; have HL320_0 := n1_; have HB := n2_; have HO323 := n3_; clear n0_ n1_ n2_ n3_; clear ho hb hg hat))
              go_roundg k1
              case measure => have := HK1.out; omega
              case rel => exact ⟨(y321), (wrap64 (x10_1 + 1)), (by first | rfl | (simp; done) | (simp [*]; done)), H', ⟨by have := HK1.out; omega⟩, ⟨by (with_reducible repeat (first | apply Kd.R_alloc | apply Kd.R_drewN | apply Kd.R_drew)); exact HO323.out⟩, ⟨by (with_reducible repeat (first | apply Kd.N_alloc | apply Kd.N_drewN | apply Kd.N_drew)); exact Kd.N_mono HO_8.out (fun _ hk => hk.2)⟩, ⟨by repeat (first | (with_reducible first | exact HB.out | apply below_alloc | apply pw_below_drewN | apply below_drew1) | exact HB.out)⟩⟩
            · rw [if_neg c11] at H
              exact absurd H (by simp)
          · rw [if_neg c10] at H
            exact absurd H (by simp)
        · rw [if_neg c9] at H
          exact absurd H (by simp)
      · rw [if_neg c8] at H
        have c8b0 : decide (x10_1 < (t317.length : Int)) = false := decide_eq_false c8
        clear c8
        obtain rfl := Option.some.inj H
        go_wp2
        go_ret
        exact ⟨_, by first | rfl | (simp [errW_none, errW_some] <;> rfl) | (simp [*, errW_none, errW_some] <;> rfl), by (with_reducible repeat (first | apply Kd.R_alloc | apply Kd.R_drewN | apply Kd.R_drew)); exact HO_3.out, by repeat (first | (with_reducible first | exact HB.out | apply below_alloc | apply pw_below_drewN | apply below_drew1) | exact HB.out)⟩

/-! ### platenref01_Same: function 27 -/
def platenref01_Same.l0 : Nat → List Int → List Int → Int → Option (Bool)
  | 0, _, _, _ => none
  | k + 1, x0, x1, x5 => if x5 < (x0.length : Int) then (if 0 ≤ x5 then (if x5 < (x1.length : Int) then (if (rd x0 x5) = (rd x1 x5) then (platenref01_Same.l0 k x0 x1 (wrap64 (x5 + 1))) else (some false)) else (none)) else (none)) else (some true)
def platenref01_Same.f (k : Nat) (l0 : List Int) (l1 : List Int) : Option (Bool) := if (l0.length : Int) = (l1.length : Int) then (platenref01_Same.l0 k l0 l1 0) else (some false)
theorem platenref01_Same.mono_l : ∀ k, (∀ y0 y1 y2, LeO (platenref01_Same.l0 k y0 y1 y2) (platenref01_Same.l0 (k + 1) y0 y1 y2))
  | 0 => fun _ _ _ r h => by simp [platenref01_Same.l0] at h
  | k + 1 => by
    have ih0 := platenref01_Same.mono_l k
    · intro y0 y1 y2
      unfold platenref01_Same.l0
      repeat' first
      | (with_reducible exact ih0 _ _ _)
      | (with_reducible exact LeO.refl _)
      | (with_reducible exact LeO.none _)
      | (with_reducible refine LeO.ite ?_ ?_)
      | (with_reducible refine LeO.bind ?_ (fun _ => ?_))
      | exact ih0 _ _ _
      | exact LeO.none _
      | refine LeO.ite ?_ ?_
      | refine LeO.bind ?_ (fun _ => ?_)
theorem platenref01_Same.mono : ∀ a0 a1 k, LeO (platenref01_Same.f k a0 a1) (platenref01_Same.f (k + 1) a0 a1) := by
  intro a0 a1 k
  have ih0 := platenref01_Same.mono_l k
  unfold platenref01_Same.f
  repeat' first
      | (with_reducible exact ih0 _ _ _)
      | (with_reducible exact LeO.refl _)
      | (with_reducible exact LeO.none _)
      | (with_reducible refine LeO.ite ?_ ?_)
      | (with_reducible refine LeO.bind ?_ (fun _ => ?_))
      | exact ih0 _ _ _
      | exact LeO.none _
      | refine LeO.ite ?_ ?_
      | refine LeO.bind ?_ (fun _ => ?_)
set_option maxHeartbeats 8000000 in
set_option maxRecDepth 100000 in
theorem platenref01_Same.calls (k : Nat) (A0 : Option Addr) (c0 : Nat) (l0 : List Int) (A1 : Option Addr) (c1 : Nat) (l1 : List Int) (r : Bool) (w : World) (hr0 : Kd.C (Kd.int .u8) w A0 l0.length l0) (hc0 : l0.length ≤ c0) (hr1 : Kd.C (Kd.int .u8) w A1 l1.length l1) (hc1 : l1.length ≤ c1) (h : platenref01_Same.f k l0 l1 = some r) :
    Calls Tryd.prog 27 #[.slice A0 l0.length c0, .slice A1 l1.length c1] w fun e w' => e = .returned (.bool r) ∧ Drawn0 w w' := by
  have HR0 := Aside0.mk hr0
  have HC0 := Aside0.mk hc0
  clear hr0 hc0
  have HR1 := Aside0.mk hr1
  have HC1 := Aside0.mk hc1
  clear hr1 hc1
  have H : (if (l0.length : Int) = (l1.length : Int) then (platenref01_Same.l0 k l0 l1 0) else (some false)) = some r := h
  clear h
  by_cases c3 : (l0.length : Int) = (l1.length : Int)
  · rw [if_pos c3] at H
    have c3b0 : ((l0.length : Int) == (l1.length : Int)) = true := beq_iff_eq.mpr c3
    have c3b1 : ((l0.length : Int) != (l1.length : Int)) = false := bne_eq_false_iff_eq.mpr c3
    have c3b2 : (l0.length == l1.length) = true := by first | simpa using c3 | (simp at c3 ⊢; omega)
    clear c3
    have H' := Aside0.mk H
    clear H
    go_enter Tryd.func27, Tryd.ntmps27
    go_wp2
    repeat (go_quiet (fail); try go_wp2)
    go_loopg [5] k (fun kq v5 w' => ∃ (x5_1 : Int), v5 = .int .i64 x5_1 ∧ Aside0 (platenref01_Same.l0 kq l0 l1 x5_1 = some r) ∧ Aside0 (kq ≤ k) ∧ Drawn0 w w')
    case atStart => exact ⟨(0), (by first | rfl | (simp; done) | (simp [*]; done)), H', ⟨Nat.le_refl _⟩, by repeat (first | exact Drawn0.refl _ | apply Drawn0.step)⟩
    case round =>
      clear H'
      try clear c1
      try clear c2
      try clear p2
      try clear c3
      try clear c3b0
      try clear c3b1
      try clear c3b2
      obtain ⟨x5_1, rfl, HA, HK1, ⟨m1, rfl⟩⟩ := hrel
      cases gk with
      | zero => exact absurd HA.out (by simp [platenref01_Same.l0])
      | succ k1 =>
        have H := HA.out
        clear HA
        simp only [platenref01_Same.l0] at H
        by_cases c4 : x5_1 < (l0.length : Int)
        · rw [if_pos c4] at H
          have c4b0 : decide (x5_1 < (l0.length : Int)) = true := decide_eq_true c4
          clear c4
          by_cases c5 : 0 ≤ x5_1
          · rw [if_pos c5] at H
            have c5b0 : decide (0 ≤ x5_1) = true := decide_eq_true c5
            clear c5
            by_cases c6 : x5_1 < (l1.length : Int)
            · rw [if_pos c6] at H
              have c6b0 : decide (x5_1 < (l1.length : Int)) = true := decide_eq_true c6
              clear c6
              by_cases c7 : (rd l0 x5_1) = (rd l1 x5_1)
              · rw [if_pos c7] at H
                have c7b0 : ((rd l0 x5_1) == (rd l1 x5_1)) = true := beq_iff_eq.mpr c7
                have c7b1 : ((rd l0 x5_1) != (rd l1 x5_1)) = false := bne_eq_false_iff_eq.mpr c7
                clear c7
                have H' := Aside0.mk H
                clear H
                have p324 : 0 ≤ (x5_1 : Int) := of_decide_eq_true (by first | (with_reducible assumption) | assumption)
                have q324 : x5_1 < (l0.length : Int) := of_decide_eq_true (by first | (with_reducible assumption) | assumption)
                obtain ⟨ad324, e324, hx324_0⟩ := Kd.at_int HR0.out x5_1 p324 q324
                cases e324
                replace p324 := eq_true p324
                replace q324 := eq_true q324
                have p325 : 0 ≤ (x5_1 : Int) := of_decide_eq_true (by first | (with_reducible assumption) | assumption)
                have q325 : x5_1 < (l1.length : Int) := of_decide_eq_true (by first | (with_reducible assumption) | assumption)
                obtain ⟨ad325, e325, hx325_0⟩ := Kd.at_int HR1.out x5_1 p325 q325
                cases e325
                replace p325 := eq_true p325
                replace q325 := eq_true q325
                go_wp2
                repeat (go_quiet (fail); try go_wp2)
                go_roundg k1
                case measure => have := HK1.out; omega
                case rel => exact ⟨(wrap64 (x5_1 + 1)), (by first | rfl | (simp; done) | (simp [*]; done)), H', ⟨by have := HK1.out; omega⟩, by repeat (first | exact Drawn0.refl _ | apply Drawn0.step)⟩
              · rw [if_neg c7] at H
                have c7b0 : ((rd l0 x5_1) == (rd l1 x5_1)) = false := beq_eq_false_iff_ne.mpr c7
                have c7b1 : ((rd l0 x5_1) != (rd l1 x5_1)) = true := bne_iff_ne.mpr c7
                obtain rfl := Option.some.inj H
                have p324 : 0 ≤ (x5_1 : Int) := of_decide_eq_true (by first | (with_reducible assumption) | assumption)
                have q324 : x5_1 < (l0.length : Int) := of_decide_eq_true (by first | (with_reducible assumption) | assumption)
                obtain ⟨ad324, e324, hx324_0⟩ := Kd.at_int HR0.out x5_1 p324 q324
                cases e324
                replace p324 := eq_true p324
                replace q324 := eq_true q324
                have p325 : 0 ≤ (x5_1 : Int) := of_decide_eq_true (by first | (with_reducible assumption) | assumption)
                have q325 : x5_1 < (l1.length : Int) := of_decide_eq_true (by first | (with_reducible assumption) | assumption)
                obtain ⟨ad325, e325, hx325_0⟩ := Kd.at_int HR1.out x5_1 p325 q325
                cases e325
                replace p325 := eq_true p325
                replace q325 := eq_true q325
                go_wp2
                repeat (go_quiet (fail); try go_wp2)
                go_ret
                exact ⟨by first | rfl | (simp; done) | (simp [*]; done), by repeat (first | exact Drawn0.refl _ | apply Drawn0.step)⟩
            · rw [if_neg c6] at H
              exact absurd H (by simp)
          · rw [if_neg c5] at H
            exact absurd H (by simp)
        · rw [if_neg c4] at H
          have c4b0 : decide (x5_1 < (l0.length : Int)) = false := decide_eq_false c4
          clear c4
          obtain rfl := Option.some.inj H
          go_wp2
          repeat (go_quiet (fail); try go_wp2)
          go_ret
          exact ⟨by first | rfl | (simp; done) | (simp [*]; done), by repeat (first | exact Drawn0.refl _ | apply Drawn0.step)⟩
  · rw [if_neg c3] at H
    have c3b0 : ((l0.length : Int) == (l1.length : Int)) = false := beq_eq_false_iff_ne.mpr c3
    have c3b1 : ((l0.length : Int) != (l1.length : Int)) = true := bne_iff_ne.mpr c3
    have c3b2 : (l0.length == l1.length) = false := by first | simpa using c3 | (simp at c3 ⊢; omega)
    obtain rfl := Option.some.inj H
    go_enter Tryd.func27, Tryd.ntmps27
    go_wp2
    repeat (go_quiet (fail); try go_wp2)
    go_ret
    exact ⟨by first | rfl | (simp; done) | (simp [*]; done), by repeat (first | exact Drawn0.refl _ | apply Drawn0.step)⟩

end Go.Proofs.YtlpcibpeakmmaaaDoor.Pa
