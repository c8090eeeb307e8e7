-- Laid by a program of this claim's own (wip/tools/mkprint.py, ext.py): walks of the functions that the statements reach.
import Derived.Test.YtdaodcdbfaikjaaDoorPax0
import Derived.Test.YtdaodcdbfaikjaaDoorPax2
namespace Go.Proofs.YtdaodcdbfaikjaaDoor.Pa
open Go.RowKit Go.Proofs.YtdaodcdbfaikjaaDoor.Ext Go.Proofs.YtdaodcdbfaikjaaDoorW.PrintWords Go.Proofs.YtdaodcdbfaikjaaDoorW.PrintLast Go.Proofs.YtdaodcdbfaikjaaDoorW.PrintMore
attribute [local go_sem] max2_int min2_int max_two min_two max_three min_three max_four min_four   -- for this text's walks alone
set_option linter.unusedVariables false
set_option linter.unusedSimpArgs false

/-! ### bytes_explode: function 51 -/
-- EXT bytes_explode

/-! ### bytes_Count: function 52 -/
-- EXT bytes_Count

/-! ### bytes_Index: function 53 -/
-- EXT bytes_Index

/-! ### bytes_genSplit: function 49 -/
mutual
def bytes_genSplit.j0 : Nat → List Int → List Int → Int → Int → Option ((List (List Int)))
  | 0, _, _, _, _ => none
  | k + 1, x0, x1, x2, x3 => if 0 ≤ (mn x3 (wrap64 ((x0.length : Int) + 1))) then (if (mn x3 (wrap64 ((x0.length : Int) + 1)) : Int).toNat ≤ 11728124029610 then (bytes_genSplit.l0 k x0 x1 x2 (wrap64 ((mn x3 (wrap64 ((x0.length : Int) + 1))) - 1)) (List.replicate (mn x3 (wrap64 ((x0.length : Int) + 1)) : Int).toNat []) 0) else (none)) else (none)
def bytes_genSplit.l0 : Nat → List Int → List Int → Int → Int → List (List Int) → Int → Option ((List (List Int)))
  | 0, _, _, _, _, _, _ => none
  | k + 1, x0, x1, x2, x3, x9, x10 => if x10 < x3 then ((bytes_Index.f x0 x1).bind fun t327 => (if t327 < 0 then (if 0 ≤ x10 then (if x10 < (x9.length : Int) then (if 0 ≤ (wrap64 (x10 + 1)) then (if (wrap64 (x10 + 1)) ≤ (x9.length : Int) then (some ((x9.set (x10 : Int).toNat x0).take ((wrap64 (x10 + 1)) : Int).toNat)) else (none)) else (none)) else (none)) else (none)) else (if 0 ≤ (wrap64 (t327 + x2)) then (if (wrap64 (t327 + x2)) ≤ (x0.length : Int) then (if 0 ≤ x10 then (if x10 < (x9.length : Int) then (if 0 ≤ (wrap64 (t327 + (x1.length : Int))) then (if (wrap64 (t327 + (x1.length : Int))) ≤ (x0.length : Int) then (bytes_genSplit.l0 k (x0.drop ((wrap64 (t327 + (x1.length : Int))) : Int).toNat) x1 x2 x3 (x9.set (x10 : Int).toNat (x0.take ((wrap64 (t327 + x2)) : Int).toNat)) (wrap64 (x10 + 1))) else (none)) else (none)) else (none)) else (none)) else (none)) else (none)))) else (if 0 ≤ x10 then (if x10 < (x9.length : Int) then (if 0 ≤ (wrap64 (x10 + 1)) then (if (wrap64 (x10 + 1)) ≤ (x9.length : Int) then (some ((x9.set (x10 : Int).toNat x0).take ((wrap64 (x10 + 1)) : Int).toNat)) else (none)) else (none)) else (none)) else (none))
end
def bytes_genSplit.f (k : Nat) (l0 : List Int) (l1 : List Int) (a2 : Int) (a3 : Int) : Option ((List (List Int))) := if a3 = 0 then (some ([] : List (List Int))) else (if (l1.length : Int) = 0 then ((bytes_explode.f l0 a3).bind fun t320 => (some t320)) else (if a3 < 0 then ((bytes_Count.f l0 l1).bind fun t323 => (bytes_genSplit.j0 k l0 l1 a2 (wrap64 (t323 + 1)))) else (bytes_genSplit.j0 k l0 l1 a2 a3)))
theorem bytes_genSplit.mono_l : ∀ k, (∀ y0 y1 y2 y3, LeO (bytes_genSplit.j0 k y0 y1 y2 y3) (bytes_genSplit.j0 (k + 1) y0 y1 y2 y3)) ∧ (∀ y0 y1 y2 y3 y4 y5, LeO (bytes_genSplit.l0 k y0 y1 y2 y3 y4 y5) (bytes_genSplit.l0 (k + 1) y0 y1 y2 y3 y4 y5))
  | 0 => ⟨fun _ _ _ _ r h => by simp [bytes_genSplit.j0] at h, fun _ _ _ _ _ _ r h => by simp [bytes_genSplit.l0] at h⟩
  | k + 1 => by
    obtain ⟨ih0, ih1⟩ := bytes_genSplit.mono_l k
    refine ⟨?_, ?_⟩
    · intro y0 y1 y2 y3
      unfold bytes_genSplit.j0
      repeat' first
      | (with_reducible exact ih0 _ _ _ _)
      | (with_reducible exact ih1 _ _ _ _ _ _)
      | (with_reducible exact LeO.refl _)
      | (with_reducible exact LeO.none _)
      | (with_reducible refine LeO.ite ?_ ?_)
      | (with_reducible refine LeO.bind ?_ (fun _ => ?_))
      | exact ih0 _ _ _ _
      | exact ih1 _ _ _ _ _ _
      | exact LeO.none _
      | refine LeO.ite ?_ ?_
      | refine LeO.bind ?_ (fun _ => ?_)
    · intro y0 y1 y2 y3 y4 y5
      unfold bytes_genSplit.l0
      repeat' first
      | (with_reducible exact ih0 _ _ _ _)
      | (with_reducible exact ih1 _ _ _ _ _ _)
      | (with_reducible exact LeO.refl _)
      | (with_reducible exact LeO.none _)
      | (with_reducible refine LeO.ite ?_ ?_)
      | (with_reducible refine LeO.bind ?_ (fun _ => ?_))
      | exact ih0 _ _ _ _
      | exact ih1 _ _ _ _ _ _
      | exact LeO.none _
      | refine LeO.ite ?_ ?_
      | refine LeO.bind ?_ (fun _ => ?_)
theorem bytes_genSplit.mono : ∀ a0 a1 a2 a3 k, LeO (bytes_genSplit.f k a0 a1 a2 a3) (bytes_genSplit.f (k + 1) a0 a1 a2 a3) := by
  intro a0 a1 a2 a3 k
  obtain ⟨ih0, ih1⟩ := bytes_genSplit.mono_l k
  unfold bytes_genSplit.f
  repeat' first
      | (with_reducible exact ih0 _ _ _ _)
      | (with_reducible exact ih1 _ _ _ _ _ _)
      | (with_reducible exact LeO.refl _)
      | (with_reducible exact LeO.none _)
      | (with_reducible refine LeO.ite ?_ ?_)
      | (with_reducible refine LeO.bind ?_ (fun _ => ?_))
      | exact ih0 _ _ _ _
      | exact ih1 _ _ _ _ _ _
      | exact LeO.none _
      | refine LeO.ite ?_ ?_
      | refine LeO.bind ?_ (fun _ => ?_)
set_option maxHeartbeats 8000000 in
set_option maxRecDepth 100000 in
theorem bytes_genSplit.calls (k : Nat) (P0_ : Nat → Prop) (A0 : Option Addr) (c0 : Nat) (l0 : List Int) (A1 : Option Addr) (c1 : Nat) (l1 : List Int) (a2 : Int) (a3 : Int) (r : List (List Int)) (w : World) (hs0 : Kd.V (Kd.int .u8) 5 w w.heap.size (fun k_ => P0_ k_) (.slice A0 l0.length c0) l0) (hr1 : Kd.C (Kd.int .u8) w A1 l1.length l1) (hc1 : l1.length ≤ c1) (h : bytes_genSplit.f k l0 l1 a2 a3 = some r) :
    Calls Tryd.prog 49 #[.slice A0 l0.length c0, .slice A1 l1.length c1, .int .i64 a2, .int .i64 a3] w fun e w' => ∃ v0_ : Value, e = .returned (v0_) ∧ Kd.N (Kd.slice 5 (Kd.int .u8)) 27 w' w.heap.size (fun k_ => (P0_ k_ ∨ w.heap.size ≤ k_)) v0_ r ∧ Below w.heap.size w w' := by
  have HO0 := Aside0.mk (show Kd.V (Kd.int .u8) 5 w w.heap.size (fun k_ => (P0_ k_ ∨ w.heap.size ≤ k_)) (.slice A0 l0.length c0) l0 from Kd.V_mono hs0 (fun k_ hk => .inl hk))
  have HR1 := Aside0.mk hr1
  have HC1 := Aside0.mk hc1
  clear hr1 hc1
  have HB := Aside0.mk (Below.refl w.heap.size w)
  have H : (if a3 = 0 then (some ([] : List (List Int))) else (if (l1.length : Int) = 0 then ((bytes_explode.f l0 a3).bind fun t320 => (some t320)) else (if a3 < 0 then ((bytes_Count.f l0 l1).bind fun t323 => (bytes_genSplit.j0 k l0 l1 a2 (wrap64 (t323 + 1)))) else (bytes_genSplit.j0 k l0 l1 a2 a3)))) = some r := h
  clear h
  by_cases c5 : a3 = 0
  · rw [if_pos c5] at H
    have c5b0 : (a3 == 0) = true := beq_iff_eq.mpr c5
    have c5b1 : (a3 != 0) = false := bne_eq_false_iff_eq.mpr c5
    clear c5
    obtain rfl := Option.some.inj H
    go_enter Tryd.func49, Tryd.ntmps49
    go_wp2
    go_ret
    exact ⟨_, by first | rfl | (simp [errW_none, errW_some] <;> rfl) | (simp [*, errW_none, errW_some] <;> rfl), by first | exact Kd.S_nil _ _ _ _ _ | exact Kd.N_nil _ _ _ _ _ | exact Kd.V_nil _ _ _ _ _ | exact Kd.Q_nil _ _ _ _ _ | exact Kd.R_nil _ _ _ _ _, by repeat (first | (with_reducible first | exact HB.out | apply below_alloc | apply pw_below_drewN | apply below_drew1) | exact HB.out)⟩
  · rw [if_neg c5] at H
    have c5b0 : (a3 == 0) = false := beq_eq_false_iff_ne.mpr c5
    have c5b1 : (a3 != 0) = true := bne_iff_ne.mpr c5
    by_cases c6 : (l1.length : Int) = 0
    · rw [if_pos c6] at H
      have c6b0 : ((l1.length : Int) == 0) = true := beq_iff_eq.mpr c6
      have c6b1 : ((l1.length : Int) != 0) = false := bne_eq_false_iff_eq.mpr c6
      clear c6
      replace H := Option.bind_eq_some_iff.mp H
      obtain ⟨t320, A70, H⟩ := H
      replace H : (some t320) = some r := H
      have A7 := Aside0.mk A70
      clear A70
      obtain rfl := Option.some.inj H
      go_enter Tryd.func49, Tryd.ntmps49
      go_wp2_with (first | ((with_reducible refine gate_callee (f := 51) rfl ?_); refine goesL_ (some 19) rfl rfl Tryd.func51 (by kernel_rfl) rfl #[.slice A0 l0.length c0, .int .i64 a3] rfl (by (try simp only [List.map_toArray, List.map_cons, List.map_nil]); first | done | rfl | (simp only [List.length_drop, List.length_take]; rfl)) ?_; (with_reducible refine (bytes_explode.calls (fun k_ => (P0_ k_ ∨ w.heap.size ≤ k_)) _ _ l0 a3 t320 _ ?side1 A7.out).mono ?_); (case side1 => exact HO0.out); rintro e w8 ⟨v321, rfl, ho0, hb⟩; refine ⟨_, rfl, ?_⟩; have n0_ := Aside0.mk (Kd.V_elder' (by (with_reducible repeat (first | apply Kd.V_alloc | apply Kd.V_drewN | apply Kd.V_drew)); exact HO0.out) (Kd.N_base ho0) hb); have n1_ := Aside0.mk (Kd.N_lower (Kd.N_mono (ok' := fun k_ => (P0_ k_ ∨ w.heap.size ≤ k_)) ho0 (fun k_ hk_ => Or.elim hk_ (fun hs_ => hs_) (fun hn_ => (.inr (Nat.le_trans (below_size (by repeat (first | (with_reducible first | exact HB.out | apply below_alloc | apply pw_below_drewN | apply below_drew1) | exact HB.out))) hn_))))) (below_size (by repeat (first | (with_reducible first | exact HB.out | apply below_alloc | apply pw_below_drewN | apply below_drew1) | exact HB.out)))); have n2_ := Aside0.mk (below_step (by repeat (first | (with_reducible first | exact HB.out | apply below_alloc | apply pw_below_drewN | apply below_drew1) | exact HB.out)) hb); clear HO0; clear HB; have HO0 := n0_; have HO322 := n1_; have HB := n2_; clear n0_ n1_ n2_; (try clear hb); (try clear hb2); (try clear hk); (try clear hi); (try clear ho0)))
      go_ret
      exact ⟨_, by first | rfl | (simp [errW_none, errW_some] <;> rfl) | (simp [*, errW_none, errW_some] <;> rfl), by (with_reducible repeat (first | apply Kd.N_alloc | apply Kd.N_drewN | apply Kd.N_drew)); exact HO322.out, by repeat (first | (with_reducible first | exact HB.out | apply below_alloc | apply pw_below_drewN | apply below_drew1) | exact HB.out)⟩
    · rw [if_neg c6] at H
      have c6b0 : ((l1.length : Int) == 0) = false := beq_eq_false_iff_ne.mpr c6
      have c6b1 : ((l1.length : Int) != 0) = true := bne_iff_ne.mpr c6
      have c6b2 : ¬ (l1 = []) := fun h_ => c6 (by rw [h_]; rfl)
      have HC9 := Aside0.mk H
      clear H
      go_enter Tryd.func49, Tryd.ntmps49
      go_upto_if 21 with (fail)
      go_cut [3] (fun v3 wc => ∃ (kq : Nat) (x3_8 : Int), v3 = .int .i64 x3_8 ∧ Aside0 (bytes_genSplit.j0 kq l0 l1 a2 x3_8 = some r) ∧ Aside0 (kq ≤ k) ∧ Aside0 (Kd.V (Kd.int .u8) 5 wc w.heap.size (fun k_ => (P0_ k_ ∨ w.heap.size ≤ k_)) (.slice A0 l0.length c0) l0) ∧ Aside0 (Below w.heap.size w wc))
      case first =>
        have H := HC9.out
        clear HC9
        by_cases c10 : a3 < 0
        · rw [if_pos c10] at H
          have c10b0 : decide (a3 < 0) = true := decide_eq_true c10
          clear c10
          (first | rw [c10b0] | (simp only [i64_w, i32_w]; rw [c10b0]) | skip)
          replace H := Option.bind_eq_some_iff.mp H
          obtain ⟨t323, A110, H⟩ := H
          replace H : (bytes_genSplit.j0 k l0 l1 a2 (wrap64 (t323 + 1))) = some r := H
          have A11 := Aside0.mk A110
          clear A110
          have H' := Aside0.mk H
          clear H
          go_wp2_with (first | ((with_reducible refine gate_callee (f := 52) rfl ?_); refine goesL_ (some 24) rfl rfl Tryd.func52 (by kernel_rfl) rfl #[.slice A0 l0.length c0, .slice A1 l1.length c1] rfl (by (try simp only [List.map_toArray, List.map_cons, List.map_nil]); first | done | rfl | (simp only [List.length_drop, List.length_take]; rfl)) ?_; (with_reducible refine (bytes_Count.calls _ _ l0 _ _ l1 t323 _ ?side1 ?side2 ?side3 ?side4 A11.out).mono ?_); (case side1 => repeat (first | exact (Kd.V_reads' HO0.out).2.2 | (with_reducible refine Kd.C_alloc ?_ _) | (with_reducible refine Kd.C_drewN ?_ _) | (with_reducible refine Kd.C_drew ?_))); (case side2 => exact (Kd.V_reads' HO0.out).2.1); (case side3 => repeat (first | exact (Kd.C_below HR1.out HB.out) | (with_reducible refine Kd.C_alloc ?_ _) | (with_reducible refine Kd.C_drewN ?_ _) | (with_reducible refine Kd.C_drew ?_))); (case side4 => exact HC1.out); rintro e w' ⟨rfl, ⟨nd, rfl⟩⟩; refine ⟨_, rfl, ?_⟩))
          go_meet
          case rel => exact ⟨_, (wrap64 (t323 + 1)), (by first | rfl | (simp; done) | (simp [*]; done)), H', ⟨by first | omega | exact Nat.le_refl _⟩, ⟨by (with_reducible repeat (first | apply Kd.V_alloc | apply Kd.V_drewN | apply Kd.V_drew)); exact HO0.out⟩, ⟨by repeat (first | (with_reducible first | exact HB.out | apply below_alloc | apply pw_below_drewN | apply below_drew1) | exact HB.out)⟩⟩
        · rw [if_neg c10] at H
          have c10b0 : decide (a3 < 0) = false := decide_eq_false c10
          clear c10
          (first | rw [c10b0] | (simp only [i64_w, i32_w]; rw [c10b0]) | skip)
          have H' := Aside0.mk H
          clear H
          go_wp2
          go_meet
          case rel => exact ⟨_, (a3), (by first | rfl | (simp; done) | (simp [*]; done)), H', ⟨by first | omega | exact Nat.le_refl _⟩, ⟨by (with_reducible repeat (first | apply Kd.V_alloc | apply Kd.V_drewN | apply Kd.V_drew)); exact HO0.out⟩, ⟨by repeat (first | (with_reducible first | exact HB.out | apply below_alloc | apply pw_below_drewN | apply below_drew1) | exact HB.out)⟩⟩
      case rest =>
        clear HC9
        try clear c1
        try clear p2
        try clear c4
        try clear c5
        try clear c5b0
        try clear c5b1
        try clear c6
        try clear c6b0
        try clear c6b1
        try clear c6b2
        try clear p6
        try clear c10
        try clear c10b0
        obtain ⟨kq, x3_8, rfl, HA, HJ8, HO_0, HB⟩ := hcut
        cases kq with
        | zero => exact absurd HA.out (by simp [bytes_genSplit.j0])
        | succ kj8 =>
          have H := HA.out
          clear HA
          simp only [bytes_genSplit.j0] at H
          obtain ⟨ji12, hji12⟩ : ∃ j_ : Int, (mn x3_8 (wrap64 ((l0.length : Int) + 1))) = j_ := ⟨_, rfl⟩
          replace H : (if 0 ≤ (ji12) then (if (ji12 : Int).toNat ≤ 11728124029610 then (bytes_genSplit.l0 kj8 l0 l1 a2 (wrap64 ((ji12) - 1)) (List.replicate (ji12 : Int).toNat []) 0) else (none)) else (none)) = some r := by first | (rw [hji12] at H; exact H) | (simp only [hji12] at H ⊢; exact H)
          have hji12_ : (if (wrap64 ((l0.length : Int) + 1)) < x3_8 then (wrap64 ((l0.length : Int) + 1)) else x3_8) = ji12 := hji12
          by_cases c13 : 0 ≤ (ji12)
          · rw [if_pos c13] at H
            have c13b0 := eq_true c13
            have c13b1 : decide (0 ≤ (ji12)) = true := decide_eq_true c13
            clear c13
            by_cases c14 : (ji12 : Int).toNat ≤ 11728124029610
            · rw [if_pos c14] at H
              have c14b0 := eq_true c14
              have c14b1 : decide ((ji12 : Int).toNat ≤ 11728124029610) = true := decide_eq_true c14
              clear c14
              obtain ⟨y324, hy324⟩ : ∃ y_ : List (List Int), y_ = (List.replicate (ji12 : Int).toNat []) := ⟨_, rfl⟩
              replace H : (bytes_genSplit.l0 kj8 l0 l1 a2 (wrap64 ((ji12) - 1)) y324 0) = some r := by first | (rw [hy324]; with_reducible exact H) | (have H2_ := (Option.bind_some _ _).symm.trans H; rw [hy324]; with_reducible exact H2_) | (have H2_ := (Option.bind_some _ _).symm.trans H; with_reducible exact H2_) | with_reducible exact H | (rw [hy324]; exact H) | exact H
              have Ny324 := Aside0.mk hy324
              clear hy324
              have H' := Aside0.mk H
              clear H
              go_wp2_with (first | ((with_reducible refine gate_dst (N := 32) rfl ?_); refine Kd.N_make (Kd.slice 5 (Kd.int .u8)) _ 27 rfl (N' := 32) rfl 58 _ _ rfl ji12 rfl rfl Tryd.underlying58 (.slice none 0 0) 24 info27 rfl (by decide) (by omega) [] (ok := fun k_ => wc.heap.size ≤ k_) (okp := fun _ => False) (Kd.FK_slice_mk (Nat.le_refl _) (Kd.F_nil _ _ _)) (fun _ hk => hk.elim) (Nat.le_refl _) (of_decide_eq_true (by first | (with_reducible assumption) | assumption)) (Nat.le_trans (Nat.mul_le_mul_right _ (of_decide_eq_true (by first | (with_reducible assumption) | assumption) : ji12.toNat ≤ 11728124029610)) (by omega)) (Below.refl _ _) (Nat.le_refl _) ?_; intro v325 w15 ho16 hb hg_ hnew_; clear hg_ hnew_; (first | rw [← Ny324.out] at ho16 | (simp only [Int.reduceToNat] at ho16; rw [← Ny324.out] at ho16)); have n0_ := Aside0.mk (Kd.V_elder' (by (with_reducible repeat (first | apply Kd.V_alloc | apply Kd.V_drewN | apply Kd.V_drew)); exact HO_0.out) (Kd.N_base ho16) hb); have n1_ := Aside0.mk (Kd.N_lower (Kd.N_mono (ok' := fun k_ => (P0_ k_ ∨ w.heap.size ≤ k_)) ho16 (fun k_ hk_ => (.inr (Nat.le_trans (below_size (by repeat (first | (with_reducible first | exact HB.out | apply below_alloc | apply pw_below_drewN | apply below_drew1) | exact HB.out))) hk_)))) (below_size (by repeat (first | (with_reducible first | exact HB.out | apply below_alloc | apply pw_below_drewN | apply below_drew1) | exact HB.out)))); have n2_ := Aside0.mk (below_step (by repeat (first | (with_reducible first | exact HB.out | apply below_alloc | apply pw_below_drewN | apply below_drew1) | exact HB.out)) hb); clear HO_0; clear HB; have HO_0 := n0_; have HO326 := n1_; have HB := n2_; clear n0_ n1_ n2_; clear hb ho16))
              go_loopg [0, 10] kj8 (fun kq v0 v10 w' => ∃ (x0_2 : List Int) (x9_2 : List (List Int)) (x10_2 : Int), v10 = .int .i64 x10_2 ∧ Aside0 (bytes_genSplit.l0 kq x0_2 l1 a2 (wrap64 ((ji12) - 1)) x9_2 x10_2 = some r) ∧ Aside0 (kq ≤ kj8) ∧ Aside0 (Kd.V (Kd.int .u8) 5 w' w.heap.size (fun k_ => (P0_ k_ ∨ w.heap.size ≤ k_) ∧ some k_ ≠ (v325 : Value).ownBlock) v0 x0_2) ∧ Aside0 (Kd.N (Kd.slice 5 (Kd.int .u8)) 27 w' w.heap.size (fun k_ => (P0_ k_ ∨ w.heap.size ≤ k_)) v325 x9_2) ∧ Aside0 (Below w.heap.size w w'))
              case atStart => exact ⟨(l0), (y324), (0), (by first | rfl | (simp; done) | (simp [*]; done)), H', ⟨Nat.le_refl _⟩, ⟨by (with_reducible repeat (first | apply Kd.V_alloc | apply Kd.V_drewN | apply Kd.V_drew)); exact HO_0.out⟩, ⟨by (with_reducible repeat (first | apply Kd.N_alloc | apply Kd.N_drewN | apply Kd.N_drew)); exact HO326.out⟩, ⟨by repeat (first | (with_reducible first | exact HB.out | apply below_alloc | apply pw_below_drewN | apply below_drew1) | exact HB.out)⟩⟩
              case round =>
                clear H'
                try clear c1
                try clear p2
                try clear c4
                try clear c5
                try clear c5b0
                try clear c5b1
                try clear c6
                try clear c6b0
                try clear c6b1
                try clear c6b2
                try clear p6
                try clear c10
                try clear c10b0
                try clear c13
                try clear c13b0
                try clear c13b1
                try clear c14
                try clear c14b0
                try clear c14b1
                try clear p2
                try clear p6
                obtain ⟨x0_2, x9_2, x10_2, rfl, HA, HK2, HO_0, HO_9, HB⟩ := hrel
                cases gk with
                | zero => exact absurd HA.out (by simp [bytes_genSplit.l0])
                | succ k2 =>
                  have H := HA.out
                  clear HA
                  simp only [bytes_genSplit.l0] at H
                  by_cases c17 : x10_2 < (wrap64 ((ji12) - 1))
                  · rw [if_pos c17] at H
                    have c17b0 : decide (x10_2 < (wrap64 ((ji12) - 1))) = true := decide_eq_true c17
                    clear c17
                    replace H := Option.bind_eq_some_iff.mp H
                    obtain ⟨t327, A180, H⟩ := H
                    replace H : (if t327 < 0 then (if 0 ≤ x10_2 then (if x10_2 < (x9_2.length : Int) then (if 0 ≤ (wrap64 (x10_2 + 1)) then (if (wrap64 (x10_2 + 1)) ≤ (x9_2.length : Int) then (some ((x9_2.set (x10_2 : Int).toNat x0_2).take ((wrap64 (x10_2 + 1)) : Int).toNat)) else (none)) else (none)) else (none)) else (none)) else (if 0 ≤ (wrap64 (t327 + a2)) then (if (wrap64 (t327 + a2)) ≤ (x0_2.length : Int) then (if 0 ≤ x10_2 then (if x10_2 < (x9_2.length : Int) then (if 0 ≤ (wrap64 (t327 + (l1.length : Int))) then (if (wrap64 (t327 + (l1.length : Int))) ≤ (x0_2.length : Int) then (bytes_genSplit.l0 k2 (x0_2.drop ((wrap64 (t327 + (l1.length : Int))) : Int).toNat) l1 a2 (wrap64 ((ji12) - 1)) (x9_2.set (x10_2 : Int).toNat (x0_2.take ((wrap64 (t327 + a2)) : Int).toNat)) (wrap64 (x10_2 + 1))) else (none)) else (none)) else (none)) else (none)) else (none)) else (none))) = some r := H
                    have A18 := Aside0.mk A180
                    clear A180
                    by_cases c19 : t327 < 0
                    · rw [if_pos c19] at H
                      have c19b0 : decide (t327 < 0) = true := decide_eq_true c19
                      clear c19
                      by_cases c20 : 0 ≤ x10_2
                      · rw [if_pos c20] at H
                        have c20b0 : decide (0 ≤ x10_2) = true := decide_eq_true c20
                        clear c20
                        by_cases c21 : x10_2 < (x9_2.length : Int)
                        · rw [if_pos c21] at H
                          have c21b0 : decide (x10_2 < (x9_2.length : Int)) = true := decide_eq_true c21
                          clear c21
                          obtain ⟨y328, hy328⟩ : ∃ y_ : List (List Int), y_ = (x9_2.set (x10_2 : Int).toNat x0_2) := ⟨_, rfl⟩
                          replace H : (if 0 ≤ (wrap64 (x10_2 + 1)) then (if (wrap64 (x10_2 + 1)) ≤ (x9_2.length : Int) then (some (y328.take ((wrap64 (x10_2 + 1)) : Int).toNat)) else (none)) else (none)) = some r := by first | (rw [hy328]; with_reducible exact H) | (have H2_ := (Option.bind_some _ _).symm.trans H; rw [hy328]; with_reducible exact H2_) | (have H2_ := (Option.bind_some _ _).symm.trans H; with_reducible exact H2_) | with_reducible exact H | (rw [hy328]; exact H) | exact H
                          have Ny328 := Aside0.mk hy328
                          clear hy328
                          obtain ⟨ji23, hji23⟩ : ∃ j_ : Int, (wrap64 (x10_2 + 1)) = j_ := ⟨_, rfl⟩
                          replace H : (if 0 ≤ (ji23) then (if (ji23) ≤ (x9_2.length : Int) then (some (y328.take ((ji23) : Int).toNat)) else (none)) else (none)) = some r := by first | (rw [hji23] at H; exact H) | (simp only [hji23] at H ⊢; exact H)
                          (try rw [hji23] at A18)
                          have hji23w : (IntKind.i64.wrap (x10_2 + 1)) = ji23 := (i64_w _).trans hji23
                          by_cases c24 : 0 ≤ (ji23)
                          · rw [if_pos c24] at H
                            have c24b0 := eq_true c24
                            have c24b1 : decide (0 ≤ (ji23)) = true := decide_eq_true c24
                            clear c24
                            by_cases c25 : (ji23) ≤ (x9_2.length : Int)
                            · rw [if_pos c25] at H
                              have c25b0 := eq_true c25
                              have c25b1 : decide ((ji23) ≤ (x9_2.length : Int)) = true := decide_eq_true c25
                              clear c25
                              obtain ⟨y329, hy329⟩ : ∃ y_ : List (List Int), y_ = (y328.take ((ji23) : Int).toNat) := ⟨_, rfl⟩
                              replace H : (some y329) = some r := by first | (rw [hy329]; with_reducible exact H) | (have H2_ := (Option.bind_some _ _).symm.trans H; rw [hy329]; with_reducible exact H2_) | (have H2_ := (Option.bind_some _ _).symm.trans H; with_reducible exact H2_) | with_reducible exact H | (rw [hy329]; exact H) | exact H
                              have Ny329 := Aside0.mk hy329
                              clear hy329
                              obtain rfl := Option.some.inj H
                              obtain ⟨Ao26, co26, eo26⟩ := Kd.V_slice HO_0.out
                              subst eo26
                              go_wp2_with (first | ((with_reducible refine gate_callee (f := 53) rfl ?_); refine goesL_ (some 40) rfl rfl Tryd.func53 (by kernel_rfl) rfl #[.slice Ao26 x0_2.length co26, .slice A1 l1.length c1] rfl (by (try simp only [List.map_toArray, List.map_cons, List.map_nil]); first | done | rfl | (simp only [List.length_drop, List.length_take]; rfl)) ?_; (with_reducible refine (bytes_Index.calls _ _ x0_2 _ _ l1 t327 _ ?side1 ?side2 ?side3 ?side4 A18.out).mono ?_); (case side1 => repeat (first | exact (Kd.V_reads' HO_0.out).2.2 | (with_reducible refine Kd.C_alloc ?_ _) | (with_reducible refine Kd.C_drewN ?_ _) | (with_reducible refine Kd.C_drew ?_))); (case side2 => exact (Kd.V_reads' HO_0.out).2.1); (case side3 => repeat (first | exact (Kd.C_below HR1.out HB.out) | (with_reducible refine Kd.C_alloc ?_ _) | (with_reducible refine Kd.C_drewN ?_ _) | (with_reducible refine Kd.C_drew ?_))); (case side4 => exact HC1.out); rintro e w' ⟨rfl, ⟨nd, rfl⟩⟩; refine ⟨_, rfl, ?_⟩; (try (rw [drewN_self wr]; generalize hq_ : World.drewN wr _ = wr; have n0_ : Aside0 (Kd.V (Kd.int .u8) 5 wr w.heap.size (fun k_ => (P0_ k_ ∨ w.heap.size ≤ k_) ∧ some k_ ≠ (v325 : Value).ownBlock) (.slice Ao26 x0_2.length co26) x0_2) := ⟨by rw [← hq_]; exact (by (with_reducible repeat (first | apply Kd.V_alloc | apply Kd.V_drewN | apply Kd.V_drew)); exact HO_0.out)⟩; have n1_ : Aside0 (Kd.N (Kd.slice 5 (Kd.int .u8)) 27 wr w.heap.size (fun k_ => (P0_ k_ ∨ w.heap.size ≤ k_)) v325 x9_2) := ⟨by rw [← hq_]; exact (by (with_reducible repeat (first | apply Kd.N_alloc | apply Kd.N_drewN | apply Kd.N_drew)); exact HO_9.out)⟩; have n2_ : Aside0 (Below w.heap.size w wr) := ⟨by rw [← hq_]; exact (by repeat (first | (with_reducible first | exact HB.out | apply below_alloc | apply pw_below_drewN | apply below_drew1) | exact HB.out))⟩; clear HO_0 HO_9 HB hq_; have HO_0 := n0_; have HO_9 := n1_; have HB := n2_; clear n0_ n1_ n2_)); have p22 : 0 ≤ (x10_2 : Int) := of_decide_eq_true (by first | (with_reducible assumption) | assumption); have q22 : (x10_2 : Int) < ((x9_2.length : Int) : Int) := of_decide_eq_true (by first | (with_reducible assumption) | assumption); obtain ⟨go22, co22, eo22, gb22, gl22, cl22, HG22⟩ := Kd.N_form HO_9.out (by omega); (first | cases eo22 | (injection eo22 with ea_ en_ ec_; (first | subst ea_ | (injection ea_ with ea_; subst ea_)); subst ec_; clear en_)); have GB22 := Aside0.mk gb22; have GG22 := Aside0.mk HG22; clear gb22 gl22 HG22; obtain ⟨ce22, hcl22, hM22, hcc22, hfr22⟩ := Kd.N_elem HO_9.out [] (x10_2 : Int) p22 q22; obtain ⟨ua22_0, uc22_0, rfl, ul22_0, ge22_0⟩ := Kd.FK_slice_open hM22; have hx22_0 := hcc22 0 _ rfl; have hf22_0 := hfr22 0; (try simp only [show ((Kd.slice 5 (Kd.int .u8))).sz = 1 from rfl, Nat.mul_one, Nat.add_zero] at hx22_0); (try simp only [show ((Kd.slice 5 (Kd.int .u8))).sz = 1 from rfl, Nat.mul_one, Nat.add_zero] at hf22_0); clear hcl22 hcc22 hfr22 hM22; replace p22 := eq_true p22; replace q22 := eq_true q22; have HX27 := Aside0.mk (show Kd.N (Kd.slice 5 (Kd.int .u8)) 27 wr w.heap.size (fun k_ => (P0_ k_ ∨ w.heap.size ≤ k_)) (.slice (some ⟨go22, 0, none⟩) x9_2.length co22) x9_2 from (by (with_reducible repeat (first | apply Kd.N_alloc | apply Kd.N_drewN | apply Kd.N_drew)); exact HO_9.out)); obtain ⟨ce27, hcl27, hM27, hcc27, hfr27⟩ := Kd.N_elem HX27.out [] (x10_2 : Int) (of_decide_eq_true (by first | (with_reducible assumption) | assumption)) (by have h_ : (x10_2 : Int) < ((x9_2.length : Int) : Int) := of_decide_eq_true (by first | (with_reducible assumption) | assumption); first | exact h_ | (have e_ := (Kd.N_reads' HO_9.out).1; omega) | simpa using h_); obtain ⟨ua27_0, uc27_0, rfl, ul27_0, ge27_0⟩ := Kd.FK_slice_open hM27; have HP27 := Kd.N_seg HX27.out (x10_2 : Int) (of_decide_eq_true (by first | (with_reducible assumption) | assumption)) (by have h_ : (x10_2 : Int) < ((x9_2.length : Int) : Int) := of_decide_eq_true (by first | (with_reducible assumption) | assumption); first | exact h_ | (have e_ := (Kd.N_reads' HO_9.out).1; omega) | simpa using h_) (seg := [.slice Ao26 x0_2.length co26]) (j := 0) hcl27 hcc27 (show 1 ≤ 1 from by decide) (x' := x0_2) (Kd.FK_slice_mk (Kd.V_reads' (Kd.V_mono (ok' := (fun k_ => ((fun k_ => (P0_ k_ ∨ w.heap.size ≤ k_))) k_ ∧ k_ ≠ go22)) (HO_0.out) (fun k_ hk => ⟨hk.1, fun e_ => (hk.2) (by rw [e_]; rfl)⟩))).2.1 (Kd.V_F (Kd.V_mono (ok' := (fun k_ => ((fun k_ => (P0_ k_ ∨ w.heap.size ≤ k_))) k_ ∧ k_ ≠ go22)) (HO_0.out) (fun k_ hk => ⟨hk.1, fun e_ => (hk.2) (by rw [e_]; rfl)⟩)))) (fun _ hk => hk); have hx27_0 := hcc27 0 _ rfl; (try simp only [show ((Kd.slice 5 (Kd.int .u8))).sz = 1 from rfl, Nat.mul_one, Nat.add_zero] at hx27_0); have hf27_0 := hfr27 0; (try simp only [show ((Kd.slice 5 (Kd.int .u8))).sz = 1 from rfl, Nat.mul_one, Nat.add_zero] at hf27_0); clear hcl27 hcc27 hfr27 hM27; (try simp only [show ((Kd.slice 5 (Kd.int .u8))).sz = 1 from rfl, Nat.mul_one, Nat.add_zero] at HP27); (try simp only [show ((Kd.slice 5 (Kd.int .u8))).sz = 1 from rfl, Nat.mul_one, Nat.add_zero] at HP27)) | ((with_reducible refine gate_store (t := 27) (p := 65) rfl ?_); refine store_event (t := 27) (p := 65) (v := ?vo_w28) (w1 := (wr.setCell ⟨go22, (x10_2 : Int).toNat, none⟩ (.slice Ao26 x0_2.length co26))) ?hg ?ho ?hn ?hr ?_; (case ho => rfl); (case hg => rfl); (case hn => rfl); (case hr => first | (go_simp; done) | (go_simp; rfl)); intro w28 hw; have hg : wr.grownBy w28 (some go22) := (by rw [hw]; exact HP27.2); have hp_ : Kd.N (Kd.slice 5 (Kd.int .u8)) 27 w28 w.heap.size (fun k_ => (P0_ k_ ∨ w.heap.size ≤ k_)) (.slice (some ⟨go22, 0, none⟩) x9_2.length co22) y328 := (by rw [hw, Ny328.out]; exact HP27.1); clear HP27; have n0_ := Aside0.mk (Kd.V_afterv (v := (.slice (some ⟨go22, 0, none⟩) x9_2.length co22)) (v1 := (.slice (some ⟨go22, 0, none⟩) x9_2.length co22)) (ok := (fun k_ => (P0_ k_ ∨ w.heap.size ≤ k_))) (by (with_reducible repeat (first | apply Kd.V_alloc | apply Kd.V_drewN | apply Kd.V_drew)); exact HO_0.out) hg (.inl rfl)); have n1_ := Aside0.mk (hp_); have n2_ := Aside0.mk ((by rw [hw]; exact below_set (HB.out) GB22.out : Below w.heap.size w w28)); clear HO_0; clear HO_9; clear HB; have HO_0 := n0_; have HO_9 := n1_; have HB := n2_; clear n0_ n1_ n2_; clear hg hw hp_; have q29 : ((ji23) : Int) ≤ ((x9_2.length : Int) : Int) := of_decide_eq_true (by first | (with_reducible assumption) | assumption); obtain ⟨i029, hi029, _, hsz29, _⟩ := info_parts info27; have hcut29 := cut_to (P := Tryd.prog) 58 27 .i64 Tryd.underlying58 hi029 (some ⟨go22, 0, none⟩) x9_2.length co22 (ji23) (of_decide_eq_true (by first | (with_reducible assumption) | assumption)) q29 (Kd.N_reads' HO_9.out).2.1; have hr29 := Kd.N_take (m := ((ji23) : Int).toNat) HO_9.out (by first | omega | (have e_ := (Kd.N_reads' HO_9.out).1; omega)); have hy29 : y329.length = ((ji23) : Int).toNat := (by rw [Ny329.out, List.length_take]; first | omega | (have e_ := (Kd.N_reads' HO_9.out).1; omega)); rw [← Ny329.out] at hr29; rw [← hy29] at hr29 hcut29; clear hy29 hi029 hsz29 HO_9; have HO331 := Aside0.mk hr29; clear hr29; replace q29 := eq_true q29))
                              go_ret
                              exact ⟨_, by first | rfl | (simp [errW_none, errW_some] <;> rfl) | (simp only [← hji12, ← hji23]; first | rfl | (simp [errW_none, errW_some] <;> rfl)) | (simp [*, errW_none, errW_some] <;> rfl), by (with_reducible repeat (first | apply Kd.N_alloc | apply Kd.N_drewN | apply Kd.N_drew)); exact HO331.out, by repeat (first | (with_reducible first | exact HB.out | apply below_alloc | apply pw_below_drewN | apply below_drew1) | exact HB.out)⟩
                            · rw [if_neg c25] at H
                              exact absurd H (by simp)
                          · rw [if_neg c24] at H
                            exact absurd H (by simp)
                        · rw [if_neg c21] at H
                          exact absurd H (by simp)
                      · rw [if_neg c20] at H
                        exact absurd H (by simp)
                    · rw [if_neg c19] at H
                      have c19b0 : decide (t327 < 0) = false := decide_eq_false c19
                      clear c19
                      obtain ⟨ji30, hji30⟩ : ∃ j_ : Int, (wrap64 (t327 + a2)) = j_ := ⟨_, rfl⟩
                      replace H : (if 0 ≤ (ji30) then (if (ji30) ≤ (x0_2.length : Int) then (if 0 ≤ x10_2 then (if x10_2 < (x9_2.length : Int) then (if 0 ≤ (wrap64 (t327 + (l1.length : Int))) then (if (wrap64 (t327 + (l1.length : Int))) ≤ (x0_2.length : Int) then (bytes_genSplit.l0 k2 (x0_2.drop ((wrap64 (t327 + (l1.length : Int))) : Int).toNat) l1 a2 (wrap64 ((ji12) - 1)) (x9_2.set (x10_2 : Int).toNat (x0_2.take ((ji30) : Int).toNat)) (wrap64 (x10_2 + 1))) else (none)) else (none)) else (none)) else (none)) else (none)) else (none)) = some r := by first | (rw [hji30] at H; exact H) | (simp only [hji30] at H ⊢; exact H)
                      (try rw [hji30] at A18)
                      have hji30w : (IntKind.i64.wrap (t327 + a2)) = ji30 := (i64_w _).trans hji30
                      by_cases c31 : 0 ≤ (ji30)
                      · rw [if_pos c31] at H
                        have c31b0 := eq_true c31
                        have c31b1 : decide (0 ≤ (ji30)) = true := decide_eq_true c31
                        clear c31
                        by_cases c32 : (ji30) ≤ (x0_2.length : Int)
                        · rw [if_pos c32] at H
                          have c32b0 := eq_true c32
                          have c32b1 : decide ((ji30) ≤ (x0_2.length : Int)) = true := decide_eq_true c32
                          clear c32
                          obtain ⟨y332, hy332⟩ : ∃ y_ : List Int, y_ = (x0_2.take ((ji30) : Int).toNat) := ⟨_, rfl⟩
                          replace H : (if 0 ≤ x10_2 then (if x10_2 < (x9_2.length : Int) then (if 0 ≤ (wrap64 (t327 + (l1.length : Int))) then (if (wrap64 (t327 + (l1.length : Int))) ≤ (x0_2.length : Int) then (bytes_genSplit.l0 k2 (x0_2.drop ((wrap64 (t327 + (l1.length : Int))) : Int).toNat) l1 a2 (wrap64 ((ji12) - 1)) (x9_2.set (x10_2 : Int).toNat y332) (wrap64 (x10_2 + 1))) else (none)) else (none)) else (none)) else (none)) = some r := by first | (rw [hy332]; with_reducible exact H) | (have H2_ := (Option.bind_some _ _).symm.trans H; rw [hy332]; with_reducible exact H2_) | (have H2_ := (Option.bind_some _ _).symm.trans H; with_reducible exact H2_) | with_reducible exact H | (rw [hy332]; exact H) | exact H
                          have Ny332 := Aside0.mk hy332
                          clear hy332
                          by_cases c33 : 0 ≤ x10_2
                          · rw [if_pos c33] at H
                            have c33b0 : decide (0 ≤ x10_2) = true := decide_eq_true c33
                            clear c33
                            by_cases c34 : x10_2 < (x9_2.length : Int)
                            · rw [if_pos c34] at H
                              have c34b0 : decide (x10_2 < (x9_2.length : Int)) = true := decide_eq_true c34
                              clear c34
                              obtain ⟨y337, hy337⟩ : ∃ y_ : List (List Int), y_ = (x9_2.set (x10_2 : Int).toNat y332) := ⟨_, rfl⟩
                              replace H : (if 0 ≤ (wrap64 (t327 + (l1.length : Int))) then (if (wrap64 (t327 + (l1.length : Int))) ≤ (x0_2.length : Int) then (bytes_genSplit.l0 k2 (x0_2.drop ((wrap64 (t327 + (l1.length : Int))) : Int).toNat) l1 a2 (wrap64 ((ji12) - 1)) y337 (wrap64 (x10_2 + 1))) else (none)) else (none)) = some r := by first | (rw [hy337]; with_reducible exact H) | (have H2_ := (Option.bind_some _ _).symm.trans H; rw [hy337]; with_reducible exact H2_) | (have H2_ := (Option.bind_some _ _).symm.trans H; with_reducible exact H2_) | with_reducible exact H | (rw [hy337]; exact H) | exact H
                              have Ny337 := Aside0.mk hy337
                              clear hy337
                              obtain ⟨ji36, hji36⟩ : ∃ j_ : Int, (wrap64 (t327 + (l1.length : Int))) = j_ := ⟨_, rfl⟩
                              replace H : (if 0 ≤ (ji36) then (if (ji36) ≤ (x0_2.length : Int) then (bytes_genSplit.l0 k2 (x0_2.drop ((ji36) : Int).toNat) l1 a2 (wrap64 ((ji12) - 1)) y337 (wrap64 (x10_2 + 1))) else (none)) else (none)) = some r := by first | (rw [hji36] at H; exact H) | (simp only [hji36] at H ⊢; exact H)
                              (try rw [hji36] at A18)
                              have hji36w : (IntKind.i64.wrap (t327 + (l1.length : Int))) = ji36 := (i64_w _).trans hji36
                              by_cases c37 : 0 ≤ (ji36)
                              · rw [if_pos c37] at H
                                have c37b0 := eq_true c37
                                have c37b1 : decide (0 ≤ (ji36)) = true := decide_eq_true c37
                                clear c37
                                by_cases c38 : (ji36) ≤ (x0_2.length : Int)
                                · rw [if_pos c38] at H
                                  have c38b0 := eq_true c38
                                  have c38b1 : decide ((ji36) ≤ (x0_2.length : Int)) = true := decide_eq_true c38
                                  clear c38
                                  obtain ⟨y338, hy338⟩ : ∃ y_ : List Int, y_ = (x0_2.drop ((ji36) : Int).toNat) := ⟨_, rfl⟩
                                  replace H : (bytes_genSplit.l0 k2 y338 l1 a2 (wrap64 ((ji12) - 1)) y337 (wrap64 (x10_2 + 1))) = some r := by first | (rw [hy338]; with_reducible exact H) | (have H2_ := (Option.bind_some _ _).symm.trans H; rw [hy338]; with_reducible exact H2_) | (have H2_ := (Option.bind_some _ _).symm.trans H; with_reducible exact H2_) | with_reducible exact H | (rw [hy338]; exact H) | exact H
                                  have Ny338 := Aside0.mk hy338
                                  clear hy338
                                  have H' := Aside0.mk H
                                  clear H
                                  obtain ⟨Ao39, co39, eo39⟩ := Kd.V_slice HO_0.out
                                  subst eo39
                                  go_wp2_with (first | ((with_reducible refine gate_callee (f := 53) rfl ?_); refine goesL_ (some 40) rfl rfl Tryd.func53 (by kernel_rfl) rfl #[.slice Ao39 x0_2.length co39, .slice A1 l1.length c1] rfl (by (try simp only [List.map_toArray, List.map_cons, List.map_nil]); first | done | rfl | (simp only [List.length_drop, List.length_take]; rfl)) ?_; (with_reducible refine (bytes_Index.calls _ _ x0_2 _ _ l1 t327 _ ?side1 ?side2 ?side3 ?side4 A18.out).mono ?_); (case side1 => repeat (first | exact (Kd.V_reads' HO_0.out).2.2 | (with_reducible refine Kd.C_alloc ?_ _) | (with_reducible refine Kd.C_drewN ?_ _) | (with_reducible refine Kd.C_drew ?_))); (case side2 => exact (Kd.V_reads' HO_0.out).2.1); (case side3 => repeat (first | exact (Kd.C_below HR1.out HB.out) | (with_reducible refine Kd.C_alloc ?_ _) | (with_reducible refine Kd.C_drewN ?_ _) | (with_reducible refine Kd.C_drew ?_))); (case side4 => exact HC1.out); rintro e w' ⟨rfl, ⟨nd, rfl⟩⟩; refine ⟨_, rfl, ?_⟩; (try (rw [drewN_self wr]; generalize hq_ : World.drewN wr _ = wr; have n0_ : Aside0 (Kd.V (Kd.int .u8) 5 wr w.heap.size (fun k_ => (P0_ k_ ∨ w.heap.size ≤ k_) ∧ some k_ ≠ (v325 : Value).ownBlock) (.slice Ao39 x0_2.length co39) x0_2) := ⟨by rw [← hq_]; exact (by (with_reducible repeat (first | apply Kd.V_alloc | apply Kd.V_drewN | apply Kd.V_drew)); exact HO_0.out)⟩; have n1_ : Aside0 (Kd.N (Kd.slice 5 (Kd.int .u8)) 27 wr w.heap.size (fun k_ => (P0_ k_ ∨ w.heap.size ≤ k_)) v325 x9_2) := ⟨by rw [← hq_]; exact (by (with_reducible repeat (first | apply Kd.N_alloc | apply Kd.N_drewN | apply Kd.N_drew)); exact HO_9.out)⟩; have n2_ : Aside0 (Below w.heap.size w wr) := ⟨by rw [← hq_]; exact (by repeat (first | (with_reducible first | exact HB.out | apply below_alloc | apply pw_below_drewN | apply below_drew1) | exact HB.out))⟩; clear HO_0 HO_9 HB hq_; have HO_0 := n0_; have HO_9 := n1_; have HB := n2_; clear n0_ n1_ n2_)); have q40 : ((ji30) : Int) ≤ ((x0_2.length : Int) : Int) := of_decide_eq_true (by first | (with_reducible assumption) | assumption); obtain ⟨i040, hi040, _, hsz40, _⟩ := info_parts info5; have hroom40 : x0_2.length ≤ co39 := (Kd.V_reads' HO_0.out).2.1; have hC40 : Kd.F (Kd.int .u8) _ _ Ao39 x0_2.length x0_2 := (Kd.V_at (base := w.heap.size) HO_0.out).2.2; have hcut40 := cut_to3 (P := Tryd.prog) 27 5 .i64 .i64 Tryd.underlying27 hi040 Ao39 x0_2.length co39 (ji30) (of_decide_eq_true (by first | (with_reducible assumption) | assumption)) q40 hroom40; have hr40 := Kd.F_take (m := ((ji30) : Int).toNat) hC40 (by omega); have hy40 : y332.length = ((ji30) : Int).toNat := (by rw [Ny332.out, List.length_take]; omega); rw [← Ny332.out] at hr40; rw [← hy40] at hcut40; have HO336 := Aside0.mk (show Kd.V (Kd.int .u8) 5 _ w.heap.size _ (.slice Ao39 y332.length y332.length) y332 from Kd.V_mk (by omega) hr40); have HC336 := Aside0.mk (show y332.length ≤ y332.length from by omega); clear hr40 hC40 hroom40 hi040 hsz40; have KY40 := Aside0.mk hy40; clear hy40; replace q40 := eq_true q40; have p35 : 0 ≤ (x10_2 : Int) := of_decide_eq_true (by first | (with_reducible assumption) | assumption); have q35 : (x10_2 : Int) < ((x9_2.length : Int) : Int) := of_decide_eq_true (by first | (with_reducible assumption) | assumption); obtain ⟨go35, co35, eo35, gb35, gl35, cl35, HG35⟩ := Kd.N_form HO_9.out (by omega); (first | cases eo35 | (injection eo35 with ea_ en_ ec_; (first | subst ea_ | (injection ea_ with ea_; subst ea_)); subst ec_; clear en_)); have GB35 := Aside0.mk gb35; have GG35 := Aside0.mk HG35; clear gb35 gl35 HG35; obtain ⟨ce35, hcl35, hM35, hcc35, hfr35⟩ := Kd.N_elem HO_9.out [] (x10_2 : Int) p35 q35; obtain ⟨ua35_0, uc35_0, rfl, ul35_0, ge35_0⟩ := Kd.FK_slice_open hM35; have hx35_0 := hcc35 0 _ rfl; have hf35_0 := hfr35 0; (try simp only [show ((Kd.slice 5 (Kd.int .u8))).sz = 1 from rfl, Nat.mul_one, Nat.add_zero] at hx35_0); (try simp only [show ((Kd.slice 5 (Kd.int .u8))).sz = 1 from rfl, Nat.mul_one, Nat.add_zero] at hf35_0); clear hcl35 hcc35 hfr35 hM35; replace p35 := eq_true p35; replace q35 := eq_true q35; have HX41 := Aside0.mk (show Kd.N (Kd.slice 5 (Kd.int .u8)) 27 wr w.heap.size (fun k_ => (P0_ k_ ∨ w.heap.size ≤ k_)) (.slice (some ⟨go35, 0, none⟩) x9_2.length co35) x9_2 from (by (with_reducible repeat (first | apply Kd.N_alloc | apply Kd.N_drewN | apply Kd.N_drew)); exact HO_9.out)); obtain ⟨ce41, hcl41, hM41, hcc41, hfr41⟩ := Kd.N_elem HX41.out [] (x10_2 : Int) (of_decide_eq_true (by first | (with_reducible assumption) | assumption)) (by have h_ : (x10_2 : Int) < ((x9_2.length : Int) : Int) := of_decide_eq_true (by first | (with_reducible assumption) | assumption); first | exact h_ | (have e_ := (Kd.N_reads' HO_9.out).1; omega) | simpa using h_); obtain ⟨ua41_0, uc41_0, rfl, ul41_0, ge41_0⟩ := Kd.FK_slice_open hM41; have HP41 := Kd.N_seg HX41.out (x10_2 : Int) (of_decide_eq_true (by first | (with_reducible assumption) | assumption)) (by have h_ : (x10_2 : Int) < ((x9_2.length : Int) : Int) := of_decide_eq_true (by first | (with_reducible assumption) | assumption); first | exact h_ | (have e_ := (Kd.N_reads' HO_9.out).1; omega) | simpa using h_) (seg := [.slice Ao39 y332.length y332.length]) (j := 0) hcl41 hcc41 (show 1 ≤ 1 from by decide) (x' := y332) (Kd.FK_slice_mk (Kd.V_reads' (Kd.V_mono (ok' := (fun k_ => ((fun k_ => (P0_ k_ ∨ w.heap.size ≤ k_))) k_ ∧ k_ ≠ go35)) (HO336.out) (fun k_ hk => ⟨hk.1, fun e_ => (hk.2) (by rw [e_]; rfl)⟩))).2.1 (Kd.V_F (Kd.V_mono (ok' := (fun k_ => ((fun k_ => (P0_ k_ ∨ w.heap.size ≤ k_))) k_ ∧ k_ ≠ go35)) (HO336.out) (fun k_ hk => ⟨hk.1, fun e_ => (hk.2) (by rw [e_]; rfl)⟩)))) (fun _ hk => hk); have hx41_0 := hcc41 0 _ rfl; (try simp only [show ((Kd.slice 5 (Kd.int .u8))).sz = 1 from rfl, Nat.mul_one, Nat.add_zero] at hx41_0); have hf41_0 := hfr41 0; (try simp only [show ((Kd.slice 5 (Kd.int .u8))).sz = 1 from rfl, Nat.mul_one, Nat.add_zero] at hf41_0); clear hcl41 hcc41 hfr41 hM41; (try simp only [show ((Kd.slice 5 (Kd.int .u8))).sz = 1 from rfl, Nat.mul_one, Nat.add_zero] at HP41); (try simp only [show ((Kd.slice 5 (Kd.int .u8))).sz = 1 from rfl, Nat.mul_one, Nat.add_zero] at HP41)) | ((with_reducible refine gate_store (t := 27) (p := 53) rfl ?_); refine store_event (t := 27) (p := 53) (v := ?vo_w42) (w1 := (wr.setCell ⟨go35, (x10_2 : Int).toNat, none⟩ (.slice Ao39 y332.length y332.length))) ?hg ?ho ?hn ?hr ?_; (case ho => rfl); (case hg => rfl); (case hn => rfl); (case hr => first | (go_simp; done) | (go_simp; rfl)); intro w42 hw; have hg : wr.grownBy w42 (some go35) := (by rw [hw]; exact HP41.2); have hp_ : Kd.N (Kd.slice 5 (Kd.int .u8)) 27 w42 w.heap.size (fun k_ => (P0_ k_ ∨ w.heap.size ≤ k_)) (.slice (some ⟨go35, 0, none⟩) x9_2.length co35) y337 := (by rw [hw, Ny337.out]; exact HP41.1); clear HP41; have n0_ := Aside0.mk (Kd.V_afterv (v := (.slice (some ⟨go35, 0, none⟩) x9_2.length co35)) (v1 := (.slice (some ⟨go35, 0, none⟩) x9_2.length co35)) (ok := (fun k_ => (P0_ k_ ∨ w.heap.size ≤ k_))) (by (with_reducible repeat (first | apply Kd.V_alloc | apply Kd.V_drewN | apply Kd.V_drew)); exact HO_0.out) hg (.inl rfl)); have n1_ := Aside0.mk (hp_); have n2_ := Aside0.mk (Kd.V_afterv (v := (.slice (some ⟨go35, 0, none⟩) x9_2.length co35)) (v1 := (.slice (some ⟨go35, 0, none⟩) x9_2.length co35)) (ok := (fun k_ => (P0_ k_ ∨ w.heap.size ≤ k_))) (by (with_reducible repeat (first | apply Kd.V_alloc | apply Kd.V_drewN | apply Kd.V_drew)); exact HO336.out) hg (.inl rfl)); have n3_ := Aside0.mk ((by rw [hw]; exact below_set (HB.out) GB35.out : Below w.heap.size w w42)); clear HO_0; clear HO_9; clear HO336; clear HB; have HO_0 := n0_; have HO_9 := n1_; have HO336 := n2_; have HB := n3_; clear n0_ n1_ n2_ n3_; clear hg hw hp_; have q43 : ((ji36) : Int) ≤ ((x0_2.length : Int) : Int) := of_decide_eq_true (by first | (with_reducible assumption) | assumption); obtain ⟨i043, hi043, _, hsz43, _⟩ := info_parts info5; have hroom43 : x0_2.length ≤ co39 := (Kd.V_reads' HO_0.out).2.1; have hC43 : Kd.F (Kd.int .u8) _ _ Ao39 x0_2.length x0_2 := (Kd.V_at (base := w.heap.size) HO_0.out).2.2; have q043 : (0 : Int) ≤ ((ji36) : Int) := of_decide_eq_true (by first | (with_reducible assumption) | assumption); have hcut43 := cut_from (P := Tryd.prog) 27 5 .i64 Tryd.underlying27 hi043 1 hsz43 Ao39 x0_2.length co39 (ji36) q043 q43; have hr43 := Kd.F_cut (m := ((ji36) : Int).toNat) (c := co39) hC43 (by omega) hroom43; obtain ⟨A43, hA43⟩ : ∃ A1, A1 = (if co39 = ((ji36) : Int).toNat then Ao39 else (Ao39 : Option Addr).map (·.add (((ji36) : Int).toNat * 1))) := ⟨_, rfl⟩; obtain ⟨c43, hc43⟩ : ∃ c1, c1 = co39 - ((ji36) : Int).toNat := ⟨_, rfl⟩; have hy43 : y338.length = x0_2.length - ((ji36) : Int).toNat := (by rw [Ny338.out, List.length_drop] <;> omega); rw [show (x0_2).drop ((ji36) : Int).toNat = y338 from Ny338.out.symm] at hr43; replace hr43 : Kd.F (Kd.int .u8) _ _ A43 y338.length y338 := (by rw [hA43]; exact hr43); rw [← hy43, ← hA43, ← hc43] at hcut43; have HO342 := Aside0.mk (show Kd.V (Kd.int .u8) 5 _ w.heap.size _ (.slice A43 y338.length c43) y338 from Kd.V_mk (by rw [hy43, hc43]; exact Nat.sub_le_sub_right hroom43 _) hr43); have HC342 := Aside0.mk (show y338.length ≤ c43 from by rw [hy43, hc43]; exact Nat.sub_le_sub_right hroom43 _); clear hr43 hC43 hroom43 hi043 hsz43 hc43; have KY43 := Aside0.mk hy43; have KA43 := Aside0.mk hA43; clear hy43 hA43; replace q43 := eq_true q43))
                                  go_roundg k2
                                  case measure => have := HJ8.out; have := HK2.out; omega
                                  case rel => exact ⟨(y338), (y337), (wrap64 (x10_2 + 1)), (by first | rfl | (simp; done) | (simp [*]; done)), H', ⟨by have := HJ8.out; have := HK2.out; omega⟩, ⟨by (with_reducible repeat (first | apply Kd.V_alloc | apply Kd.V_drewN | apply Kd.V_drew)); exact HO342.out⟩, ⟨by (with_reducible repeat (first | apply Kd.N_alloc | apply Kd.N_drewN | apply Kd.N_drew)); exact HO_9.out⟩, ⟨by repeat (first | (with_reducible first | exact HB.out | apply below_alloc | apply pw_below_drewN | apply below_drew1) | exact HB.out)⟩⟩
                                · rw [if_neg c38] at H
                                  exact absurd H (by simp)
                              · rw [if_neg c37] at H
                                exact absurd H (by simp)
                            · rw [if_neg c34] at H
                              exact absurd H (by simp)
                          · rw [if_neg c33] at H
                            exact absurd H (by simp)
                        · rw [if_neg c32] at H
                          exact absurd H (by simp)
                      · rw [if_neg c31] at H
                        exact absurd H (by simp)
                  · rw [if_neg c17] at H
                    have c17b0 : decide (x10_2 < (wrap64 ((ji12) - 1))) = false := decide_eq_false c17
                    clear c17
                    by_cases c44 : 0 ≤ x10_2
                    · rw [if_pos c44] at H
                      have c44b0 : decide (0 ≤ x10_2) = true := decide_eq_true c44
                      clear c44
                      by_cases c45 : x10_2 < (x9_2.length : Int)
                      · rw [if_pos c45] at H
                        have c45b0 : decide (x10_2 < (x9_2.length : Int)) = true := decide_eq_true c45
                        clear c45
                        obtain ⟨y343, hy343⟩ : ∃ y_ : List (List Int), y_ = (x9_2.set (x10_2 : Int).toNat x0_2) := ⟨_, rfl⟩
                        replace H : (if 0 ≤ (wrap64 (x10_2 + 1)) then (if (wrap64 (x10_2 + 1)) ≤ (x9_2.length : Int) then (some (y343.take ((wrap64 (x10_2 + 1)) : Int).toNat)) else (none)) else (none)) = some r := by first | (rw [hy343]; with_reducible exact H) | (have H2_ := (Option.bind_some _ _).symm.trans H; rw [hy343]; with_reducible exact H2_) | (have H2_ := (Option.bind_some _ _).symm.trans H; with_reducible exact H2_) | with_reducible exact H | (rw [hy343]; exact H) | exact H
                        have Ny343 := Aside0.mk hy343
                        clear hy343
                        obtain ⟨ji47, hji47⟩ : ∃ j_ : Int, (wrap64 (x10_2 + 1)) = j_ := ⟨_, rfl⟩
                        replace H : (if 0 ≤ (ji47) then (if (ji47) ≤ (x9_2.length : Int) then (some (y343.take ((ji47) : Int).toNat)) else (none)) else (none)) = some r := by first | (rw [hji47] at H; exact H) | (simp only [hji47] at H ⊢; exact H)
                        have hji47w : (IntKind.i64.wrap (x10_2 + 1)) = ji47 := (i64_w _).trans hji47
                        by_cases c48 : 0 ≤ (ji47)
                        · rw [if_pos c48] at H
                          have c48b0 := eq_true c48
                          have c48b1 : decide (0 ≤ (ji47)) = true := decide_eq_true c48
                          clear c48
                          by_cases c49 : (ji47) ≤ (x9_2.length : Int)
                          · rw [if_pos c49] at H
                            have c49b0 := eq_true c49
                            have c49b1 : decide ((ji47) ≤ (x9_2.length : Int)) = true := decide_eq_true c49
                            clear c49
                            obtain ⟨y344, hy344⟩ : ∃ y_ : List (List Int), y_ = (y343.take ((ji47) : Int).toNat) := ⟨_, rfl⟩
                            replace H : (some y344) = some r := by first | (rw [hy344]; with_reducible exact H) | (have H2_ := (Option.bind_some _ _).symm.trans H; rw [hy344]; with_reducible exact H2_) | (have H2_ := (Option.bind_some _ _).symm.trans H; with_reducible exact H2_) | with_reducible exact H | (rw [hy344]; exact H) | exact H
                            have Ny344 := Aside0.mk hy344
                            clear hy344
                            obtain rfl := Option.some.inj H
                            have p46 : 0 ≤ (x10_2 : Int) := of_decide_eq_true (by first | (with_reducible assumption) | assumption)
                            have q46 : (x10_2 : Int) < ((x9_2.length : Int) : Int) := of_decide_eq_true (by first | (with_reducible assumption) | assumption)
                            obtain ⟨go46, co46, eo46, gb46, gl46, cl46, HG46⟩ := Kd.N_form HO_9.out (by omega)
                            (first | cases eo46 | (injection eo46 with ea_ en_ ec_; (first | subst ea_ | (injection ea_ with ea_; subst ea_)); subst ec_; clear en_))
                            have GB46 := Aside0.mk gb46
                            have GG46 := Aside0.mk HG46
                            clear gb46 gl46 HG46
                            obtain ⟨ce46, hcl46, hM46, hcc46, hfr46⟩ := Kd.N_elem HO_9.out [] (x10_2 : Int) p46 q46
                            obtain ⟨ua46_0, uc46_0, rfl, ul46_0, ge46_0⟩ := Kd.FK_slice_open hM46
                            have hx46_0 := hcc46 0 _ rfl
                            have hf46_0 := hfr46 0
                            (try simp only [show ((Kd.slice 5 (Kd.int .u8))).sz = 1 from rfl, Nat.mul_one, Nat.add_zero] at hx46_0)
                            (try simp only [show ((Kd.slice 5 (Kd.int .u8))).sz = 1 from rfl, Nat.mul_one, Nat.add_zero] at hf46_0)
                            clear hcl46 hcc46 hfr46 hM46
                            replace p46 := eq_true p46
                            replace q46 := eq_true q46
                            obtain ⟨Ao52, co52, eo52⟩ := Kd.V_slice HO_0.out
                            subst eo52
                            have HX50 := Aside0.mk (show Kd.N (Kd.slice 5 (Kd.int .u8)) 27 wr w.heap.size (fun k_ => (P0_ k_ ∨ w.heap.size ≤ k_)) (.slice (some ⟨go46, 0, none⟩) x9_2.length co46) x9_2 from (by (with_reducible repeat (first | apply Kd.N_alloc | apply Kd.N_drewN | apply Kd.N_drew)); exact HO_9.out))
                            obtain ⟨ce50, hcl50, hM50, hcc50, hfr50⟩ := Kd.N_elem HX50.out [] (x10_2 : Int) (of_decide_eq_true (by first | (with_reducible assumption) | assumption)) (by have h_ : (x10_2 : Int) < ((x9_2.length : Int) : Int) := of_decide_eq_true (by first | (with_reducible assumption) | assumption); first | exact h_ | (have e_ := (Kd.N_reads' HO_9.out).1; omega) | simpa using h_)
                            obtain ⟨ua50_0, uc50_0, rfl, ul50_0, ge50_0⟩ := Kd.FK_slice_open hM50
                            have HP50 := Kd.N_seg HX50.out (x10_2 : Int) (of_decide_eq_true (by first | (with_reducible assumption) | assumption)) (by have h_ : (x10_2 : Int) < ((x9_2.length : Int) : Int) := of_decide_eq_true (by first | (with_reducible assumption) | assumption); first | exact h_ | (have e_ := (Kd.N_reads' HO_9.out).1; omega) | simpa using h_) (seg := [.slice Ao52 x0_2.length co52]) (j := 0) hcl50 hcc50 (show 1 ≤ 1 from by decide) (x' := x0_2) (Kd.FK_slice_mk (Kd.V_reads' (Kd.V_mono (ok' := (fun k_ => ((fun k_ => (P0_ k_ ∨ w.heap.size ≤ k_))) k_ ∧ k_ ≠ go46)) (HO_0.out) (fun k_ hk => ⟨hk.1, fun e_ => (hk.2) (by rw [e_]; rfl)⟩))).2.1 (Kd.V_F (Kd.V_mono (ok' := (fun k_ => ((fun k_ => (P0_ k_ ∨ w.heap.size ≤ k_))) k_ ∧ k_ ≠ go46)) (HO_0.out) (fun k_ hk => ⟨hk.1, fun e_ => (hk.2) (by rw [e_]; rfl)⟩)))) (fun _ hk => hk)
                            have hx50_0 := hcc50 0 _ rfl
                            (try simp only [show ((Kd.slice 5 (Kd.int .u8))).sz = 1 from rfl, Nat.mul_one, Nat.add_zero] at hx50_0)
                            have hf50_0 := hfr50 0
                            (try simp only [show ((Kd.slice 5 (Kd.int .u8))).sz = 1 from rfl, Nat.mul_one, Nat.add_zero] at hf50_0)
                            clear hcl50 hcc50 hfr50 hM50
                            (try simp only [show ((Kd.slice 5 (Kd.int .u8))).sz = 1 from rfl, Nat.mul_one, Nat.add_zero] at HP50)
                            (try simp only [show ((Kd.slice 5 (Kd.int .u8))).sz = 1 from rfl, Nat.mul_one, Nat.add_zero] at HP50)
                            go_wp2_with (first | ((with_reducible refine gate_store (t := 27) (p := 65) rfl ?_); refine store_event (t := 27) (p := 65) (v := ?vo_w51) (w1 := (wr.setCell ⟨go46, (x10_2 : Int).toNat, none⟩ (.slice Ao52 x0_2.length co52))) ?hg ?ho ?hn ?hr ?_; (case ho => rfl); (case hg => rfl); (case hn => rfl); (case hr => first | (go_simp; done) | (go_simp; rfl)); intro w51 hw; have hg : wr.grownBy w51 (some go46) := (by rw [hw]; exact HP50.2); have hp_ : Kd.N (Kd.slice 5 (Kd.int .u8)) 27 w51 w.heap.size (fun k_ => (P0_ k_ ∨ w.heap.size ≤ k_)) (.slice (some ⟨go46, 0, none⟩) x9_2.length co46) y343 := (by rw [hw, Ny343.out]; exact HP50.1); clear HP50; have n0_ := Aside0.mk (Kd.V_afterv (v := (.slice (some ⟨go46, 0, none⟩) x9_2.length co46)) (v1 := (.slice (some ⟨go46, 0, none⟩) x9_2.length co46)) (ok := (fun k_ => (P0_ k_ ∨ w.heap.size ≤ k_))) (by (with_reducible repeat (first | apply Kd.V_alloc | apply Kd.V_drewN | apply Kd.V_drew)); exact HO_0.out) hg (.inl rfl)); have n1_ := Aside0.mk (hp_); have n2_ := Aside0.mk ((by rw [hw]; exact below_set (HB.out) GB46.out : Below w.heap.size w w51)); clear HO_0; clear HO_9; clear HB; have HO_0 := n0_; have HO_9 := n1_; have HB := n2_; clear n0_ n1_ n2_; clear hg hw hp_; have q53 : ((ji47) : Int) ≤ ((x9_2.length : Int) : Int) := of_decide_eq_true (by first | (with_reducible assumption) | assumption); obtain ⟨i053, hi053, _, hsz53, _⟩ := info_parts info27; have hcut53 := cut_to (P := Tryd.prog) 58 27 .i64 Tryd.underlying58 hi053 (some ⟨go46, 0, none⟩) x9_2.length co46 (ji47) (of_decide_eq_true (by first | (with_reducible assumption) | assumption)) q53 (Kd.N_reads' HO_9.out).2.1; have hr53 := Kd.N_take (m := ((ji47) : Int).toNat) HO_9.out (by first | omega | (have e_ := (Kd.N_reads' HO_9.out).1; omega)); have hy53 : y344.length = ((ji47) : Int).toNat := (by rw [Ny344.out, List.length_take]; first | omega | (have e_ := (Kd.N_reads' HO_9.out).1; omega)); rw [← Ny344.out] at hr53; rw [← hy53] at hr53 hcut53; clear hy53 hi053 hsz53 HO_9; have HO346 := Aside0.mk hr53; clear hr53; replace q53 := eq_true q53))
                            go_ret
                            exact ⟨_, by first | rfl | (simp [errW_none, errW_some] <;> rfl) | (simp only [← hji12, ← hji47]; first | rfl | (simp [errW_none, errW_some] <;> rfl)) | (simp [*, errW_none, errW_some] <;> rfl), by (with_reducible repeat (first | apply Kd.N_alloc | apply Kd.N_drewN | apply Kd.N_drew)); exact HO346.out, by repeat (first | (with_reducible first | exact HB.out | apply below_alloc | apply pw_below_drewN | apply below_drew1) | exact HB.out)⟩
                          · rw [if_neg c49] at H
                            exact absurd H (by simp)
                        · rw [if_neg c48] at H
                          exact absurd H (by simp)
                      · rw [if_neg c45] at H
                        exact absurd H (by simp)
                    · rw [if_neg c44] at H
                      exact absurd H (by simp)
            · rw [if_neg c14] at H
              exact absurd H (by simp)
          · rw [if_neg c13] at H
            exact absurd H (by simp)

/-! ### bytes_Split: function 45 -/
def bytes_Split.f (k : Nat) (l0 : List Int) (l1 : List Int) : Option ((List (List Int))) := (bytes_genSplit.f k l0 l1 0 (-1)).bind fun t347 => (some t347)
theorem bytes_Split.mono : ∀ a0 a1 k, LeO (bytes_Split.f k a0 a1) (bytes_Split.f (k + 1) a0 a1) := by
  intro a0 a1 k
  unfold bytes_Split.f
  repeat' first
      | (with_reducible exact bytes_genSplit.mono _ _ _ _ _)
      | (with_reducible exact LeO.refl _)
      | (with_reducible exact LeO.none _)
      | (with_reducible refine LeO.ite ?_ ?_)
      | (with_reducible refine LeO.bind ?_ (fun _ => ?_))
      | exact bytes_genSplit.mono _ _ _ _ _
      | exact LeO.none _
      | refine LeO.ite ?_ ?_
      | refine LeO.bind ?_ (fun _ => ?_)
set_option maxHeartbeats 8000000 in
set_option maxRecDepth 100000 in
theorem bytes_Split.calls (k : Nat) (P0_ : Nat → Prop) (A0 : Option Addr) (c0 : Nat) (l0 : List Int) (A1 : Option Addr) (c1 : Nat) (l1 : List Int) (r : List (List Int)) (w : World) (hs0 : Kd.V (Kd.int .u8) 5 w w.heap.size (fun k_ => P0_ k_) (.slice A0 l0.length c0) l0) (hr1 : Kd.C (Kd.int .u8) w A1 l1.length l1) (hc1 : l1.length ≤ c1) (h : bytes_Split.f k l0 l1 = some r) :
    Calls Tryd.prog 45 #[.slice A0 l0.length c0, .slice A1 l1.length c1] w fun e w' => ∃ v0_ : Value, e = .returned (v0_) ∧ Kd.N (Kd.slice 5 (Kd.int .u8)) 27 w' w.heap.size (fun k_ => (P0_ k_ ∨ w.heap.size ≤ k_)) v0_ r ∧ Below w.heap.size w w' := by
  have HO0 := Aside0.mk (show Kd.V (Kd.int .u8) 5 w w.heap.size (fun k_ => (P0_ k_ ∨ w.heap.size ≤ k_)) (.slice A0 l0.length c0) l0 from Kd.V_mono hs0 (fun k_ hk => .inl hk))
  have HR1 := Aside0.mk hr1
  have HC1 := Aside0.mk hc1
  clear hr1 hc1
  have HB := Aside0.mk (Below.refl w.heap.size w)
  have H : ((bytes_genSplit.f k l0 l1 0 (-1)).bind fun t347 => (some t347)) = some r := h
  clear h
  replace H := Option.bind_eq_some_iff.mp H
  obtain ⟨t347, A30, H⟩ := H
  replace H : (some t347) = some r := H
  have A3 := Aside0.mk A30
  clear A30
  obtain rfl := Option.some.inj H
  go_enter Tryd.func45, Tryd.ntmps45
  go_wp2_with (first | ((with_reducible refine gate_callee (f := 49) rfl ?_); refine goesL_ (some 7) rfl rfl Tryd.func49 (by kernel_rfl) rfl #[.slice A0 l0.length c0, .slice A1 l1.length c1, .int .i64 0, .int .i64 (-1)] rfl (by (try simp only [List.map_toArray, List.map_cons, List.map_nil]); first | done | rfl | (simp only [List.length_drop, List.length_take]; rfl)) ?_; (with_reducible refine (bytes_genSplit.calls k (fun k_ => (P0_ k_ ∨ w.heap.size ≤ k_)) _ _ l0 _ _ l1 0 (-1) t347 _ ?side1 ?side2 ?side3 A3.out).mono ?_); (case side1 => exact HO0.out); (case side2 => repeat (first | exact HR1.out | (with_reducible refine Kd.C_alloc ?_ _) | (with_reducible refine Kd.C_drewN ?_ _) | (with_reducible refine Kd.C_drew ?_))); (case side3 => exact HC1.out); rintro e w4 ⟨v348, rfl, ho0, hb⟩; refine ⟨_, rfl, ?_⟩; have n0_ := Aside0.mk (Kd.V_elder' (by (with_reducible repeat (first | apply Kd.V_alloc | apply Kd.V_drewN | apply Kd.V_drew)); exact HO0.out) (Kd.N_base ho0) hb); have n1_ := Aside0.mk (Kd.N_lower (Kd.N_mono (ok' := fun k_ => (P0_ k_ ∨ w.heap.size ≤ k_)) ho0 (fun k_ hk_ => Or.elim hk_ (fun hs_ => hs_) (fun hn_ => (.inr (Nat.le_trans (below_size (by repeat (first | (with_reducible first | exact HB.out | apply below_alloc | apply pw_below_drewN | apply below_drew1) | exact HB.out))) hn_))))) (below_size (by repeat (first | (with_reducible first | exact HB.out | apply below_alloc | apply pw_below_drewN | apply below_drew1) | exact HB.out)))); have n2_ := Aside0.mk (below_step (by repeat (first | (with_reducible first | exact HB.out | apply below_alloc | apply pw_below_drewN | apply below_drew1) | exact HB.out)) hb); clear HO0; clear HB; have HO0 := n0_; have HO349 := n1_; have HB := n2_; clear n0_ n1_ n2_; (try clear hb); (try clear hb2); (try clear hk); (try clear hi); (try clear ho0)))
  go_ret
  exact ⟨_, by first | rfl | (simp [errW_none, errW_some] <;> rfl) | (simp [*, errW_none, errW_some] <;> rfl), by (with_reducible repeat (first | apply Kd.N_alloc | apply Kd.N_drewN | apply Kd.N_drew)); exact HO349.out, by repeat (first | (with_reducible first | exact HB.out | apply below_alloc | apply pw_below_drewN | apply below_drew1) | exact HB.out)⟩

/-! ### lines_Split: function 35 -/
def lines_Split.l0 : Nat → List ByteArray → List (List Int) → Int → Int → Option (List ByteArray)
  | 0, _, _, _, _ => none
  | k + 1, x3, x8, x9, x10 => if x10 < x9 then (if 0 ≤ x10 then (if x10 < (x8.length : Int) then (if x3.length < 8796093022208 then (lines_Split.l0 k (x3 ++ [strOfNums (rd_L2 x8 x10)]) x8 x9 (wrap64 (x10 + 1))) else (none)) else (none)) else (none)) else (some x3)
def lines_Split.f (k : Nat) (l0 : List Int) : Option (List ByteArray) := (bytes_Split.f k l0 (([10] : List Int))).bind fun t353 => (lines_Split.l0 k ([] : List ByteArray) t353 (t353.length : Int) 0)
theorem lines_Split.mono_l : ∀ k, (∀ y0 y1 y2 y3, LeO (lines_Split.l0 k y0 y1 y2 y3) (lines_Split.l0 (k + 1) y0 y1 y2 y3))
  | 0 => fun _ _ _ _ r h => by simp [lines_Split.l0] at h
  | k + 1 => by
    have ih0 := lines_Split.mono_l k
    · intro y0 y1 y2 y3
      unfold lines_Split.l0
      repeat' first
      | (with_reducible exact ih0 _ _ _ _)
      | (with_reducible exact bytes_Split.mono _ _ _)
      | (with_reducible exact LeO.refl _)
      | (with_reducible exact LeO.none _)
      | (with_reducible refine LeO.ite ?_ ?_)
      | (with_reducible refine LeO.bind ?_ (fun _ => ?_))
      | exact ih0 _ _ _ _
      | exact bytes_Split.mono _ _ _
      | exact LeO.none _
      | refine LeO.ite ?_ ?_
      | refine LeO.bind ?_ (fun _ => ?_)
theorem lines_Split.mono : ∀ a0 k, LeO (lines_Split.f k a0) (lines_Split.f (k + 1) a0) := by
  intro a0 k
  have ih0 := lines_Split.mono_l k
  unfold lines_Split.f
  repeat' first
      | (with_reducible exact ih0 _ _ _ _)
      | (with_reducible exact bytes_Split.mono _ _ _)
      | (with_reducible exact LeO.refl _)
      | (with_reducible exact LeO.none _)
      | (with_reducible refine LeO.ite ?_ ?_)
      | (with_reducible refine LeO.bind ?_ (fun _ => ?_))
      | exact ih0 _ _ _ _
      | exact bytes_Split.mono _ _ _
      | exact LeO.none _
      | refine LeO.ite ?_ ?_
      | refine LeO.bind ?_ (fun _ => ?_)
set_option maxHeartbeats 8000000 in
set_option maxRecDepth 100000 in
theorem lines_Split.calls (k : Nat) (A0 : Option Addr) (c0 : Nat) (l0 : List Int) (r : List ByteArray) (w : World) (hr0 : Kd.C (Kd.int .u8) w A0 l0.length l0) (hc0 : l0.length ≤ c0) (h : lines_Split.f k l0 = some r) :
    Calls Tryd.prog 35 #[.slice A0 l0.length c0] w fun e w' => ∃ v0_ : Value, e = .returned (v0_) ∧ Kd.R Kd.string 9 w' w.heap.size (fun _ => True) v0_ r ∧ Below w.heap.size w w' := by
  have HR0 := Aside0.mk hr0
  have HC0 := Aside0.mk hc0
  clear hr0 hc0
  have HB := Aside0.mk (Below.refl w.heap.size w)
  have H : ((bytes_Split.f k l0 (([10] : List Int))).bind fun t353 => (lines_Split.l0 k ([] : List ByteArray) t353 (t353.length : Int) 0)) = some r := h
  clear h
  obtain ⟨y350, hy350⟩ : ∃ y_ : List Int, y_ = (([10] : List Int)) := ⟨_, rfl⟩
  replace H : ((bytes_Split.f k l0 y350).bind fun t353 => (lines_Split.l0 k ([] : List ByteArray) t353 (t353.length : Int) 0)) = some r := by first | (rw [hy350]; with_reducible exact H) | (have H2_ := (Option.bind_some _ _).symm.trans H; rw [hy350]; with_reducible exact H2_) | (have H2_ := (Option.bind_some _ _).symm.trans H; with_reducible exact H2_) | with_reducible exact H | (rw [hy350]; exact H) | exact H
  have Ny350 := Aside0.mk hy350
  clear hy350
  replace H := Option.bind_eq_some_iff.mp H
  obtain ⟨t353, A20, H⟩ := H
  replace H : (lines_Split.l0 k ([] : List ByteArray) t353 (t353.length : Int) 0) = some r := H
  have A2 := Aside0.mk A20
  clear A20
  have H' := Aside0.mk H
  clear H
  go_enter Tryd.func35, Tryd.ntmps35
  go_wp2_with (first | ((with_reducible refine gate_dst (N := 7) rfl ?_); refine Kd.R_lit (Kd.int .u8) _ 5 ?hg (N := 7) ?hd (xs := ([10] : List Int)) (inner := [.int .u8 10]) (ok := fun _ => True) (okp := fun _ => True) ?hr ?hp (fun _ hk => hk) trivial (Below.refl _ _) (Nat.le_refl _) (by simp) ?_; (case hd => rfl); (case hg => rfl); (case hr => first | (go_simp; done) | (go_simp; rfl)); (case hp => exact (Reps.one (show Kd.M (Kd.int .u8) _ _ _ 10 [.int .u8 10] from rfl) (Reps.none _ _))); intro v351 w3 ho4 hb hg_ hnew_; clear hg_ hnew_; (first | rw [← Ny350.out] at ho4 | (simp only [Int.reduceToNat] at ho4; rw [← Ny350.out] at ho4)); have n0_ := Aside0.mk (Kd.R_lower ho4 (below_size (by repeat (first | (with_reducible first | exact HB.out | apply below_alloc | apply pw_below_drewN | apply below_drew1) | exact HB.out)))); have n1_ := Aside0.mk (below_step (by repeat (first | (with_reducible first | exact HB.out | apply below_alloc | apply pw_below_drewN | apply below_drew1) | exact HB.out)) hb); clear HB; have HO352 := n0_; have HB := n1_; clear n0_ n1_; clear hb ho4; obtain ⟨Ao5, co5, eo5⟩ := Kd.R_slice HO352.out; subst eo5) | ((with_reducible refine gate_callee (f := 45) rfl ?_); refine goesL_ (some 8) rfl rfl Tryd.func45 (by kernel_rfl) rfl #[.slice A0 l0.length c0, .slice Ao5 y350.length co5] rfl (by (try simp only [List.map_toArray, List.map_cons, List.map_nil]); first | done | rfl | (simp only [List.length_drop, List.length_take]; rfl)) ?_; (with_reducible refine (bytes_Split.calls k (fun k_ => k_ < w.heap.size) _ _ l0 _ _ y350 t353 _ ?side1 ?side2 ?side3 A2.out).mono ?_); (case side1 => exact Kd.V_mk HC0.out (Kd.F_below (Kd.C_F (Kd.heap_int .u8) HR0.out) (by repeat (first | (with_reducible first | exact HB.out | apply below_alloc | apply pw_below_drewN | apply below_drew1) | exact HB.out)))); (case side2 => repeat (first | exact (Kd.R_reads' HO352.out).2.2 | (with_reducible refine Kd.C_alloc ?_ _) | (with_reducible refine Kd.C_drewN ?_ _) | (with_reducible refine Kd.C_drew ?_))); (case side3 => exact (Kd.R_reads' HO352.out).2.1); rintro e w6 ⟨v354, rfl, ho0, hb⟩; refine ⟨_, rfl, ?_⟩; have n0_ := Aside0.mk (Kd.R_below (by (with_reducible repeat (first | apply Kd.R_alloc | apply Kd.R_drewN | apply Kd.R_drew)); exact HO352.out) hb); have n1_ := Aside0.mk (Kd.N_lower (Kd.N_mono (ok' := fun k_ => some k_ ≠ (.slice Ao5 y350.length co5 : Value).ownBlock) ho0 (fun k_ hk_ => Or.elim hk_ (fun hs_ => fun e_ => Nat.not_le.2 hs_ (Kd.R_base HO352.out k_ e_.symm)) (fun hn_ => (Kd.fresh' (Kd.R_lt (by (with_reducible repeat (first | apply Kd.R_alloc | apply Kd.R_drewN | apply Kd.R_drew)); exact HO352.out)) k_ hn_)))) (below_size (by repeat (first | (with_reducible first | exact HB.out | apply below_alloc | apply pw_below_drewN | apply below_drew1) | exact HB.out)))); have n2_ := Aside0.mk (below_step (by repeat (first | (with_reducible first | exact HB.out | apply below_alloc | apply pw_below_drewN | apply below_drew1) | exact HB.out)) hb); clear HO352; clear HB; have HO352 := n0_; have HO355 := n1_; have HB := n2_; clear n0_ n1_ n2_; (try clear hb); (try clear hb2); (try clear hk); (try clear hi); (try clear ho0); obtain ⟨Ao7, co7, eo7⟩ := Kd.N_slice HO355.out; subst eo7))
  go_loopg [3, 10] k (fun kq v3 v10 w' => ∃ (x3_1 : List ByteArray) (x10_1 : Int), v10 = .int .i64 x10_1 ∧ Aside0 (lines_Split.l0 kq x3_1 t353 (t353.length : Int) x10_1 = some r) ∧ Aside0 (kq ≤ k) ∧ Aside0 (Kd.R Kd.string 9 w' w.heap.size (fun _ => True) v3 x3_1) ∧ Aside0 (Kd.N (Kd.slice 5 (Kd.int .u8)) 27 w' w.heap.size (fun k_ => some k_ ≠ (v3 : Value).ownBlock) (.slice Ao7 t353.length co7) t353) ∧ Aside0 (Below w.heap.size w w'))
  case atStart => exact ⟨(([] : List ByteArray)), (0), (by first | rfl | (simp; done) | (simp [*]; done)), H', ⟨Nat.le_refl _⟩, ⟨by first | exact Kd.R_nil _ _ _ _ _ | exact Kd.N_nil _ _ _ _ _ | exact Kd.V_nil _ _ _ _ _ | exact Kd.Q_nil _ _ _ _ _ | exact Kd.S_nil _ _ _ _ _⟩, ⟨by (with_reducible repeat (first | apply Kd.N_alloc | apply Kd.N_drewN | apply Kd.N_drew)); exact Kd.N_mono HO355.out (fun _ hk => (by simp [Value.ownBlock]))⟩, ⟨by repeat (first | (with_reducible first | exact HB.out | apply below_alloc | apply pw_below_drewN | apply below_drew1) | exact HB.out)⟩⟩
  case round =>
    clear H'
    try clear p2
    try clear c3
    try clear c4
    obtain ⟨x3_1, x10_1, rfl, HA, HK1, HO_3, HO_8, HB⟩ := hrel
    cases gk with
    | zero => exact absurd HA.out (by simp [lines_Split.l0])
    | succ k1 =>
      have H := HA.out
      clear HA
      simp only [lines_Split.l0] at H
      by_cases c8 : x10_1 < (t353.length : Int)
      · rw [if_pos c8] at H
        have c8b0 : decide (x10_1 < (t353.length : Int)) = true := decide_eq_true c8
        clear c8
        by_cases c9 : 0 ≤ x10_1
        · rw [if_pos c9] at H
          have c9b0 : decide (0 ≤ x10_1) = true := decide_eq_true c9
          clear c9
          by_cases c10 : x10_1 < (t353.length : Int)
          · rw [if_pos c10] at H
            have c10b0 : decide (x10_1 < (t353.length : Int)) = true := decide_eq_true c10
            clear c10
            by_cases c11 : x3_1.length < 8796093022208
            · rw [if_pos c11] at H
              have LMc11 := Aside0.mk c11
              clear c11
              obtain ⟨y357, hy357⟩ : ∃ y_ : List ByteArray, y_ = (x3_1 ++ [strOfNums (rd_L2 t353 x10_1)]) := ⟨_, rfl⟩
              replace H : (lines_Split.l0 k1 y357 t353 (t353.length : Int) (wrap64 (x10_1 + 1))) = some r := by first | (rw [hy357]; with_reducible exact H) | (have H2_ := (Option.bind_some _ _).symm.trans H; rw [hy357]; with_reducible exact H2_) | (have H2_ := (Option.bind_some _ _).symm.trans H; with_reducible exact H2_) | with_reducible exact H | (rw [hy357]; exact H) | exact H
              have Ny357 := Aside0.mk hy357
              clear hy357
              have H' := Aside0.mk H
              clear H
              have p356 : 0 ≤ (x10_1 : Int) := of_decide_eq_true (by first | (with_reducible assumption) | assumption)
              have q356 : x10_1 < (t353.length : Int) := of_decide_eq_true (by first | (with_reducible assumption) | assumption)
              obtain ⟨ad356, A356_0, c356_0, e356, hx356_0, hl356_0, hi356_0⟩ := at_L2 (Kd.N_reads' HO_8.out).2.2 x10_1 p356 q356
              cases e356
              obtain ⟨ce356, hce356, hMe356, hcc356⟩ := Kd.N_get HO_8.out [] x10_1 p356 (by first | exact q356 | exact of_decide_eq_true (by first | (with_reducible assumption) | assumption) | (have e_ := (Kd.N_reads' HO_8.out).1; omega))
              obtain ⟨ua356_0, uc356_0, rfl, ul356_0, ge356_0⟩ := Kd.FK_slice_open hMe356
              have hv356_0 := hcc356 0 _ rfl
              rw [Nat.add_zero, show ((Kd.slice 5 (Kd.int .u8))).sz = 1 from rfl, Nat.mul_one] at hv356_0
              replace hv356_0 := Option.some.inj (hv356_0.symm.trans hx356_0)
              injection hv356_0 with hva_ hvn_ hvc_
              rw [hva_] at ge356_0
              rw [hvc_] at ul356_0
              have HL356_0 := Aside0.mk (show Kd.V (Kd.int .u8) 5 _ w.heap.size _ _ (rd_L2 t353 x10_1) from Kd.V_mk ul356_0 ge356_0)
              clear hva_ hvn_ hvc_ ge356_0 ul356_0
              clear hcc356 hce356
              have HR356_0 := Aside0.mk hi356_0
              have HC356_0 := Aside0.mk hl356_0
              clear hi356_0 hl356_0
              replace p356 := eq_true p356
              replace q356 := eq_true q356
              have hcv12 := Kd.C_string (P := Tryd.prog) (A := A356_0) (c := c356_0) Tryd.underlying27 Tryd.underlying5 Tryd.underlying9 (by repeat (first | (with_reducible exact HR356_0.out) | (with_reducible refine Kd.C_alloc ?_ _) | (with_reducible refine Kd.C_drewN ?_ _) | (with_reducible refine Kd.C_drew ?_) | exact HR356_0.out))
              go_wp2_with (first | ((with_reducible refine gate_builtin (b := .append) (xs := #[.tmp 14, .tmp 17]) rfl ?_); at_builtin; refine Kd.R_append Kd.string (w0 := w) w.heap.size rfl (.tmp 14) (.tmp 17) 56 9 (.string ⟨#[]⟩) 16 rfl Tryd.underlying56 info9 rfl (by decide) (by omega) u3 x3_1 (strOfNums (rd_L2 t353 x10_1)) [.string (strOfNums (rd_L2 t353 x10_1))] (fun _ => True) (fun _ => False) rfl rfl ?aP (fun _ hk => hk.elim) ?aF ?aO ?aB ?aS ?aL ?_; (case aP => exact rfl); (case aB => exact (by repeat (first | (with_reducible first | exact HB.out | apply below_alloc | apply pw_below_drewN | apply below_drew1) | exact HB.out))); (case aF => exact (fun _ _ => trivial)); (case aO => exact (by (with_reducible repeat (first | apply Kd.R_alloc | apply Kd.R_drewN | apply Kd.R_drew)); exact HO_3.out)); (case aS => exact (below_size (by repeat (first | (with_reducible first | exact HB.out | apply below_alloc | apply pw_below_drewN | apply below_drew1) | exact HB.out)))); (case aL => have := LMc11.out; omega); intro v358 w13 ho hb hg hat; rw [← Ny357.out] at ho; have n0_ := Aside0.mk (Kd.N_afterv (ok := (fun _ => True)) (by (with_reducible repeat (first | apply Kd.N_alloc | apply Kd.N_drewN | apply Kd.N_drew)); exact Kd.N_mono HO_8.out (fun _ hk => ⟨trivial, hk⟩)) hg hat); have n1_ := Aside0.mk (Kd.V_afterv (ok := (fun k_ => some k_ ≠ (.slice (some ad356) t353.length co7 : Value).ownBlock)) (by (with_reducible repeat (first | apply Kd.V_alloc | apply Kd.V_drewN | apply Kd.V_drew)); exact Kd.V_mono HL356_0.out (fun _ hk => ⟨hk.2, hk.1⟩)) hg hat); have n2_ := Aside0.mk (hb); have n3_ := Aside0.mk (ho); clear HO_8; clear HL356_0; clear HB; clear HO_3; have HO_8 := n0_; have HL356_0 := n1_; have HB := n2_; have HO359 := n3_; clear n0_ n1_ n2_ n3_; clear ho hb hg hat))
              go_roundg k1
              case measure => have := HK1.out; omega
              case rel => exact ⟨(y357), (wrap64 (x10_1 + 1)), (by first | rfl | (simp; done) | (simp [*]; done)), H', ⟨by have := HK1.out; omega⟩, ⟨by (with_reducible repeat (first | apply Kd.R_alloc | apply Kd.R_drewN | apply Kd.R_drew)); exact HO359.out⟩, ⟨by (with_reducible repeat (first | apply Kd.N_alloc | apply Kd.N_drewN | apply Kd.N_drew)); exact Kd.N_mono HO_8.out (fun _ hk => hk.2)⟩, ⟨by repeat (first | (with_reducible first | exact HB.out | apply below_alloc | apply pw_below_drewN | apply below_drew1) | exact HB.out)⟩⟩
            · rw [if_neg c11] at H
              exact absurd H (by simp)
          · rw [if_neg c10] at H
            exact absurd H (by simp)
        · rw [if_neg c9] at H
          exact absurd H (by simp)
      · rw [if_neg c8] at H
        have c8b0 : decide (x10_1 < (t353.length : Int)) = false := decide_eq_false c8
        clear c8
        obtain rfl := Option.some.inj H
        go_wp2
        go_ret
        exact ⟨_, by first | rfl | (simp [errW_none, errW_some] <;> rfl) | (simp [*, errW_none, errW_some] <;> rfl), by (with_reducible repeat (first | apply Kd.R_alloc | apply Kd.R_drewN | apply Kd.R_drew)); exact HO_3.out, by repeat (first | (with_reducible first | exact HB.out | apply below_alloc | apply pw_below_drewN | apply below_drew1) | exact HB.out)⟩

/-! ### shift_Shift: function 20 -/
def shift_Shift.l0 : Nat → Int → List Int → List ByteArray → Int → Int → Int → Int → Int → Bool → Bool → Option (List Int × Int)
  | 0, _, _, _, _, _, _, _, _, _, _ => none
  | k + 1, x1, x8, x12, x13, x14, x361000, x361001, x361002, x361003, x361004 => if x14 < x13 then (if 0 ≤ x14 then (if x14 < (x12.length : Int) then (if x14 > 0 then (if x8.length < 140737488355328 then ((some (x8 ++ [10] : List Int)).bind fun y365 => ((shift_Line.f k (rdOf ByteArray.empty x12 x14) x1 x361000 x361001 x361002 x361003 x361004).bind fun t368 => (if y365.length + t368.size < 140737488355328 then ((some (y365 ++ bytesOf t368 : List Int)).bind fun y369 => (if (y369.length : Int) > 65536 then (some (([] : List Int), 4)) else (shift_Shift.l0 k x1 y369 x12 x13 (wrap64 (x14 + 1)) x361000 x361001 x361002 x361003 x361004))) else (none)))) else (none)) else ((shift_Line.f k (rdOf ByteArray.empty x12 x14) x1 x361000 x361001 x361002 x361003 x361004).bind fun t372 => (if x8.length + t372.size < 140737488355328 then ((some (x8 ++ bytesOf t372 : List Int)).bind fun y373 => (if (y373.length : Int) > 65536 then (some (([] : List Int), 4)) else (shift_Shift.l0 k x1 y373 x12 x13 (wrap64 (x14 + 1)) x361000 x361001 x361002 x361003 x361004))) else (none)))) else (none)) else (none)) else (some (x8, 0))
def shift_Shift.f (k : Nat) (l0 : List Int) (a1 : Int) (a2_0 : Int) (a2_1 : Int) (a2_2 : Int) (a2_3 : Bool) (a2_4 : Bool) : Option (List Int × Int) := (lines_Split.f k l0).bind fun t361 => (shift_Shift.l0 k a1 ([] : List Int) t361 (t361.length : Int) 0 a2_0 a2_1 a2_2 a2_3 a2_4)
theorem shift_Shift.mono_l : ∀ k, (∀ y0 y1 y2 y3 y4 y5 y6 y7 y8 y9, LeO (shift_Shift.l0 k y0 y1 y2 y3 y4 y5 y6 y7 y8 y9) (shift_Shift.l0 (k + 1) y0 y1 y2 y3 y4 y5 y6 y7 y8 y9))
  | 0 => fun _ _ _ _ _ _ _ _ _ _ r h => by simp [shift_Shift.l0] at h
  | k + 1 => by
    have ih0 := shift_Shift.mono_l k
    · intro y0 y1 y2 y3 y4 y5 y6 y7 y8 y9
      unfold shift_Shift.l0
      repeat' first
      | (with_reducible exact ih0 _ _ _ _ _ _ _ _ _ _)
      | (with_reducible exact lines_Split.mono _ _)
      | (with_reducible exact shift_Line.mono _ _ _ _ _ _ _ _)
      | (with_reducible exact LeO.refl _)
      | (with_reducible exact LeO.none _)
      | (with_reducible refine LeO.ite ?_ ?_)
      | (with_reducible refine LeO.bind ?_ (fun _ => ?_))
      | exact ih0 _ _ _ _ _ _ _ _ _ _
      | exact lines_Split.mono _ _
      | exact shift_Line.mono _ _ _ _ _ _ _ _
      | exact LeO.none _
      | refine LeO.ite ?_ ?_
      | refine LeO.bind ?_ (fun _ => ?_)
theorem shift_Shift.mono : ∀ a0 a1 a2 a3 a4 a5 a6 k, LeO (shift_Shift.f k a0 a1 a2 a3 a4 a5 a6) (shift_Shift.f (k + 1) a0 a1 a2 a3 a4 a5 a6) := by
  intro a0 a1 a2 a3 a4 a5 a6 k
  have ih0 := shift_Shift.mono_l k
  unfold shift_Shift.f
  repeat' first
      | (with_reducible exact ih0 _ _ _ _ _ _ _ _ _ _)
      | (with_reducible exact lines_Split.mono _ _)
      | (with_reducible exact shift_Line.mono _ _ _ _ _ _ _ _)
      | (with_reducible exact LeO.refl _)
      | (with_reducible exact LeO.none _)
      | (with_reducible refine LeO.ite ?_ ?_)
      | (with_reducible refine LeO.bind ?_ (fun _ => ?_))
      | exact ih0 _ _ _ _ _ _ _ _ _ _
      | exact lines_Split.mono _ _
      | exact shift_Line.mono _ _ _ _ _ _ _ _
      | exact LeO.none _
      | refine LeO.ite ?_ ?_
      | refine LeO.bind ?_ (fun _ => ?_)
set_option maxHeartbeats 8000000 in
set_option maxRecDepth 100000 in
theorem shift_Shift.calls (k : Nat) (A0 : Option Addr) (c0 : Nat) (l0 : List Int) (a1 : Int) (a2_0 : Int) (a2_1 : Int) (a2_2 : Int) (a2_3 : Bool) (a2_4 : Bool) (r1 : List Int) (r2 : Int) (w : World) (hT : Tabs w) (hr0 : Kd.C (Kd.int .u8) w A0 l0.length l0) (hc0 : l0.length ≤ c0) (h : shift_Shift.f k l0 a1 a2_0 a2_1 a2_2 a2_3 a2_4 = some (r1, r2)) :
    Calls Tryd.prog 20 #[.slice A0 l0.length c0, .int .i64 a1, .agg #[.int .i64 a2_0, .int .i64 a2_1, .int .i64 a2_2, .bool a2_3, .bool a2_4]] w fun e w' => ∃ v0_ : Value, e = .returned (.tuple #[v0_, .int .i64 r2]) ∧ Kd.R (Kd.int .u8) 5 w' w.heap.size (fun _ => True) v0_ r1 ∧ Below w.heap.size w w' := by
  have hu24 := Tryd.underlying24
  have HR0 := Aside0.mk hr0
  have HC0 := Aside0.mk hc0
  clear hr0 hc0
  have HB := Aside0.mk (Below.refl w.heap.size w)
  have HT := Aside0.mk hT
  clear hT
  have H : ((lines_Split.f k l0).bind fun t361 => (shift_Shift.l0 k a1 ([] : List Int) t361 (t361.length : Int) 0 a2_0 a2_1 a2_2 a2_3 a2_4)) = some (r1, r2) := h
  clear h
  replace H := Option.bind_eq_some_iff.mp H
  obtain ⟨t361, A40, H⟩ := H
  replace H : (shift_Shift.l0 k a1 ([] : List Int) t361 (t361.length : Int) 0 a2_0 a2_1 a2_2 a2_3 a2_4) = some (r1, r2) := H
  have A4 := Aside0.mk A40
  clear A40
  have H' := Aside0.mk H
  clear H
  go_enter Tryd.func20, Tryd.ntmps20
  go_wp2_with (first | ((with_reducible refine gate_dst (N := 5) rfl ?_); refine box_event ?hg (N := 5) ?hd (cs := #[.int .i64 a2_0, .int .i64 a2_1, .int .i64 a2_2, .bool a2_3, .bool a2_4]) (t := 24) ?hr ?_; (case hd => rfl); (case hg => rfl); (case hr => first | (go_simp; done) | (go_simp; rfl)); intro gb360 hg w5 hbox hb; have n0_ := Aside0.mk (below_step (by repeat (first | (with_reducible first | exact HB.out | apply below_alloc | apply pw_below_drewN | apply below_drew1) | exact HB.out)) hb); have n1_ := Aside0.mk (hbox); have n2_ := Aside0.mk ((by rw [hg]; exact (below_size (by repeat (first | (with_reducible first | exact HB.out | apply below_alloc | apply pw_below_drewN | apply below_drew1) | exact HB.out))) : w.heap.size ≤ gb360)); have n3_ := Aside0.mk ((by rw [hg]; exact (below_size (by repeat (first | (with_reducible first | exact HB.out | apply below_alloc | apply pw_below_drewN | apply below_drew1) | exact HB.out))) : w.heap.size ≤ gb360)); clear HB; have HB := n0_; have BK360 := n1_; have GW360 := n2_; have GE360 := n3_; clear n0_ n1_ n2_ n3_; clear hb hbox hg) | ((with_reducible refine gate_callee (f := 35) rfl ?_); refine goesL_ (some 12) rfl rfl Tryd.func35 (by kernel_rfl) rfl #[.slice A0 l0.length c0] rfl (by (try simp only [List.map_toArray, List.map_cons, List.map_nil]); first | done | rfl | (simp only [List.length_drop, List.length_take]; rfl)) ?_; (with_reducible refine (lines_Split.calls k _ _ l0 t361 _ ?side1 ?side2 A4.out).mono ?_); (case side1 => repeat (first | exact (Kd.C_below HR0.out HB.out) | (with_reducible refine Kd.C_alloc ?_ _) | (with_reducible refine Kd.C_drewN ?_ _) | (with_reducible refine Kd.C_drew ?_))); (case side2 => exact HC0.out); rintro e w6 ⟨v362, rfl, ho0, hb⟩; refine ⟨_, rfl, ?_⟩; have n0_ := Aside0.mk (Kd.R_lower ho0 (below_size (by repeat (first | (with_reducible first | exact HB.out | apply below_alloc | apply pw_below_drewN | apply below_drew1 | refine below_set ?_ GE360.out) | exact HB.out)))); have n1_ := Aside0.mk (blk_below (g := gb360) (o := .cells #[.int .i64 a2_0, .int .i64 a2_1, .int .i64 a2_2, .bool a2_3, .bool a2_4] 24 (0, 0)) (by (with_reducible repeat (first | refine blk_drewN ?_ _ | refine blk_drew ?_ | refine blk_alloc ?_ _)); exact BK360.out) hb); have n2_ := Aside0.mk (below_step (by repeat (first | (with_reducible first | exact HB.out | apply below_alloc | apply pw_below_drewN | apply below_drew1 | refine below_set ?_ GE360.out) | exact HB.out)) hb); clear BK360; clear HB; have HO363 := n0_; have BK360 := n1_; have HB := n2_; clear n0_ n1_ n2_; (try clear hb); (try clear hb2); (try clear hk); (try clear hi); (try clear ho0); obtain ⟨Ao7, co7, eo7⟩ := Kd.R_slice HO363.out; subst eo7))
  go_loopg [8, 14] k (fun kq v8 v14 w' => ∃ (x8_1 : List Int) (x14_1 : Int), v14 = .int .i64 x14_1 ∧ Aside0 (shift_Shift.l0 kq a1 x8_1 t361 (t361.length : Int) x14_1 a2_0 a2_1 a2_2 a2_3 a2_4 = some (r1, r2)) ∧ Aside0 (kq ≤ k) ∧ Aside0 (Kd.R (Kd.int .u8) 5 w' w.heap.size (fun _ => True) v8 x8_1) ∧ Aside0 (Kd.R Kd.string 9 w' w.heap.size (fun _ => True) (.slice Ao7 t361.length co7) t361) ∧ Aside0 (w'.heap[gb360]? = some (.cells #[.int .i64 a2_0, .int .i64 a2_1, .int .i64 a2_2, .bool a2_3, .bool a2_4] 24 (0, 0))) ∧ Aside0 (Below w.heap.size w w'))
  case atStart => exact ⟨(([] : List Int)), (0), (by first | rfl | (simp; done) | (simp [*]; done)), H', ⟨Nat.le_refl _⟩, ⟨by first | exact Kd.R_nil _ _ _ _ _ | exact Kd.N_nil _ _ _ _ _ | exact Kd.V_nil _ _ _ _ _ | exact Kd.Q_nil _ _ _ _ _ | exact Kd.S_nil _ _ _ _ _⟩, ⟨by (with_reducible repeat (first | apply Kd.R_alloc | apply Kd.R_drewN | apply Kd.R_drew)); exact HO363.out⟩, ⟨by (with_reducible repeat (first | refine blk_drewN ?_ _ | refine blk_drew ?_ | refine blk_alloc ?_ _)); exact BK360.out⟩, ⟨by repeat (first | (with_reducible first | exact HB.out | apply below_alloc | apply pw_below_drewN | apply below_drew1 | refine below_set ?_ GE360.out) | exact HB.out)⟩⟩
  case round =>
    clear H'
    try clear c2
    try clear p2
    try clear c3
    obtain ⟨x8_1, x14_1, rfl, HA, HK1, HO_8, HO_12, BK360, HB⟩ := hrel
    cases gk with
    | zero => exact absurd HA.out (by simp [shift_Shift.l0])
    | succ k1 =>
      have H := HA.out
      clear HA
      simp only [shift_Shift.l0] at H
      by_cases c8 : x14_1 < (t361.length : Int)
      · rw [if_pos c8] at H
        have c8b0 : decide (x14_1 < (t361.length : Int)) = true := decide_eq_true c8
        clear c8
        by_cases c9 : 0 ≤ x14_1
        · rw [if_pos c9] at H
          have c9b0 : decide (0 ≤ x14_1) = true := decide_eq_true c9
          clear c9
          by_cases c10 : x14_1 < (t361.length : Int)
          · rw [if_pos c10] at H
            have c10b0 : decide (x14_1 < (t361.length : Int)) = true := decide_eq_true c10
            clear c10
            by_cases c11 : x14_1 > 0
            · rw [if_pos c11] at H
              have c11b0 : decide (0 < x14_1) = true := decide_eq_true c11
              clear c11
              by_cases c12 : x8_1.length < 140737488355328
              · rw [if_pos c12] at H
                have LMc12 := Aside0.mk c12
                clear c12
                obtain ⟨y365, hy365⟩ : ∃ y_ : List Int, y_ = (x8_1 ++ [10]) := ⟨_, rfl⟩
                replace H : ((shift_Line.f k1 (rdOf ByteArray.empty t361 x14_1) a1 a2_0 a2_1 a2_2 a2_3 a2_4).bind fun t368 => (if y365.length + t368.size < 140737488355328 then ((some (y365 ++ bytesOf t368 : List Int)).bind fun y369 => (if (y369.length : Int) > 65536 then (some (([] : List Int), 4)) else (shift_Shift.l0 k1 a1 y369 t361 (t361.length : Int) (wrap64 (x14_1 + 1)) a2_0 a2_1 a2_2 a2_3 a2_4))) else (none))) = some (r1, r2) := by first | (rw [hy365]; with_reducible exact H) | (have H2_ := (Option.bind_some _ _).symm.trans H; rw [hy365]; with_reducible exact H2_) | (have H2_ := (Option.bind_some _ _).symm.trans H; with_reducible exact H2_) | with_reducible exact H | (rw [hy365]; exact H) | exact H
                have Ny365 := Aside0.mk hy365
                clear hy365
                replace H := Option.bind_eq_some_iff.mp H
                obtain ⟨t368, A130, H⟩ := H
                replace H : (if y365.length + t368.size < 140737488355328 then ((some (y365 ++ bytesOf t368 : List Int)).bind fun y369 => (if (y369.length : Int) > 65536 then (some (([] : List Int), 4)) else (shift_Shift.l0 k1 a1 y369 t361 (t361.length : Int) (wrap64 (x14_1 + 1)) a2_0 a2_1 a2_2 a2_3 a2_4))) else (none)) = some (r1, r2) := H
                have A13 := Aside0.mk A130
                clear A130
                by_cases c14 : y365.length + t368.size < 140737488355328
                · rw [if_pos c14] at H
                  have LMc14 := Aside0.mk c14
                  clear c14
                  obtain ⟨y369, hy369⟩ : ∃ y_ : List Int, y_ = (y365 ++ bytesOf t368) := ⟨_, rfl⟩
                  replace H : (if (y369.length : Int) > 65536 then (some (([] : List Int), 4)) else (shift_Shift.l0 k1 a1 y369 t361 (t361.length : Int) (wrap64 (x14_1 + 1)) a2_0 a2_1 a2_2 a2_3 a2_4)) = some (r1, r2) := by first | (rw [hy369]; with_reducible exact H) | (have H2_ := (Option.bind_some _ _).symm.trans H; rw [hy369]; with_reducible exact H2_) | (have H2_ := (Option.bind_some _ _).symm.trans H; with_reducible exact H2_) | with_reducible exact H | (rw [hy369]; exact H) | exact H
                  have Ny369 := Aside0.mk hy369
                  clear hy369
                  by_cases c15 : (y369.length : Int) > 65536
                  · rw [if_pos c15] at H
                    have c15b0 : decide (65536 < (y369.length : Int)) = true := decide_eq_true c15
                    have c15b1 : decide (65536 < y369.length) = true := decide_eq_true (by omega)
                    clear c15
                    simp only [Option.some.injEq, Prod.mk.injEq] at H
                    obtain ⟨rfl, rfl⟩ := H
                    have p364 : 0 ≤ (x14_1 : Int) := of_decide_eq_true (by first | (with_reducible assumption) | assumption)
                    have q364 : x14_1 < (t361.length : Int) := of_decide_eq_true (by first | (with_reducible assumption) | assumption)
                    obtain ⟨ad364, e364, hx364_0⟩ := Kd.at_string (Kd.R_reads' HO_12.out).2.2 x14_1 p364 q364
                    cases e364
                    replace p364 := eq_true p364
                    replace q364 := eq_true q364
                    go_wp2_with (first | ((with_reducible refine gate_builtin (b := .append) (xs := #[.tmp 21, .tmp 22]) rfl ?_); at_builtin; refine Kd.R_append (Kd.int .u8) (w0 := w) w.heap.size rfl (.tmp 21) (.tmp 22) 27 5 (.int .u8 0) 1 rfl Tryd.underlying27 info5 rfl (by decide) (by omega) u8 x8_1 10 [.int .u8 10] (fun _ => True) (fun _ => False) rfl rfl ?aP (fun _ hk => hk.elim) ?aF ?aO ?aB ?aS ?aL ?_; (case aP => exact rfl); (case aB => exact (by repeat (first | (with_reducible first | exact HB.out | apply below_alloc | apply pw_below_drewN | apply below_drew1 | refine below_set ?_ GE360.out) | exact HB.out))); (case aF => exact (fun _ _ => trivial)); (case aO => exact (by (with_reducible repeat (first | apply Kd.R_alloc | apply Kd.R_drewN | apply Kd.R_drew)); exact HO_8.out)); (case aS => exact (below_size (by repeat (first | (with_reducible first | exact HB.out | apply below_alloc | apply pw_below_drewN | apply below_drew1 | refine below_set ?_ GE360.out) | exact HB.out)))); (case aL => have := LMc12.out; omega); intro v366 w16 ho hb hg hat; rw [← Ny365.out] at ho; have n0_ := Aside0.mk (Kd.R_over' (by (with_reducible repeat (first | apply Kd.R_alloc | apply Kd.R_drewN | apply Kd.R_drew)); exact HO_12.out) (Kd.R_typed (by (with_reducible repeat (first | apply Kd.R_alloc | apply Kd.R_drewN | apply Kd.R_drew)); exact HO_8.out)) (by decide) hg); have n1_ := Aside0.mk (blk_grown (g := gb360) (o := .cells #[.int .i64 a2_0, .int .i64 a2_1, .int .i64 a2_2, .bool a2_3, .bool a2_4] 24 (0, 0)) (by (with_reducible repeat (first | refine blk_drewN ?_ _ | refine blk_drew ?_ | refine blk_alloc ?_ _)); exact BK360.out) hg (Kd.R_ne HO_8.out BK360.out (by decide))); have n2_ := Aside0.mk (hb); have n3_ := Aside0.mk (ho); clear HO_12; clear BK360; clear HB; clear HO_8; have HO_12 := n0_; have BK360 := n1_; have HB := n2_; have HO367 := n3_; clear n0_ n1_ n2_ n3_; clear ho hb hg hat; have hcz17_0 : w16.cell? ⟨gb360, 0, none⟩ = some (.int .i64 a2_0) := (blk_cell BK360.out 0).trans rfl; have hcz17_1 : w16.cell? ⟨gb360, 1, none⟩ = some (.int .i64 a2_1) := (blk_cell BK360.out 1).trans rfl; have hcz17_2 : w16.cell? ⟨gb360, 2, none⟩ = some (.int .i64 a2_2) := (blk_cell BK360.out 2).trans rfl; have hcz17_3 : w16.cell? ⟨gb360, 3, none⟩ = some (.bool a2_3) := (blk_cell BK360.out 3).trans rfl; have hcz17_4 : w16.cell? ⟨gb360, 4, none⟩ = some (.bool a2_4) := (blk_cell BK360.out 4).trans rfl; have hfz17_0 := blk_frozen BK360.out 0; have hfz17_1 := blk_frozen BK360.out 1; have hfz17_2 := blk_frozen BK360.out 2; have hfz17_3 := blk_frozen BK360.out 3; have hfz17_4 := blk_frozen BK360.out 4) | ((with_reducible refine gate_callee (f := 12) rfl ?_); refine goesL_ (some 28) rfl rfl Tryd.func12 (by kernel_rfl) rfl #[.string (rdOf ByteArray.empty t361 x14_1), .int .i64 a1, .agg #[.int .i64 a2_0, .int .i64 a2_1, .int .i64 a2_2, .bool a2_3, .bool a2_4]] rfl (by (try simp only [List.map_toArray, List.map_cons, List.map_nil]); first | done | rfl | (simp only [List.length_drop, List.length_take]; rfl)) ?_; (with_reducible refine (shift_Line.calls k1 (rdOf ByteArray.empty t361 x14_1) a1 a2_0 a2_1 a2_2 a2_3 a2_4 t368 _ ?side1 A13.out).mono ?_); (case side1 => exact Tabs.below HT.out (by repeat (first | (with_reducible first | exact HB.out | apply below_alloc | apply pw_below_drewN | apply below_drew1 | refine below_set ?_ GE360.out) | exact HB.out))); rintro e w18 ⟨rfl, hb⟩; refine ⟨_, rfl, ?_⟩; have n0_ := Aside0.mk (Kd.R_below (by (with_reducible repeat (first | apply Kd.R_alloc | apply Kd.R_drewN | apply Kd.R_drew)); exact HO_12.out) hb); have n1_ := Aside0.mk (Kd.R_below (by (with_reducible repeat (first | apply Kd.R_alloc | apply Kd.R_drewN | apply Kd.R_drew)); exact HO367.out) hb); have n2_ := Aside0.mk (blk_below (g := gb360) (o := .cells #[.int .i64 a2_0, .int .i64 a2_1, .int .i64 a2_2, .bool a2_3, .bool a2_4] 24 (0, 0)) (by (with_reducible repeat (first | refine blk_drewN ?_ _ | refine blk_drew ?_ | refine blk_alloc ?_ _)); exact BK360.out) hb); have n3_ := Aside0.mk (below_step (by repeat (first | (with_reducible first | exact HB.out | apply below_alloc | apply pw_below_drewN | apply below_drew1 | refine below_set ?_ GE360.out) | exact HB.out)) hb); clear HO_12; clear HO367; clear BK360; clear HB; have HO_12 := n0_; have HO367 := n1_; have BK360 := n2_; have HB := n3_; clear n0_ n1_ n2_ n3_; (try clear hb); (try clear hb2); (try clear hk); (try clear hi)) | (at_builtin; refine print_append_str (w0 := w) w.heap.size rfl (.tmp 24) _ 27 9 5 rfl Tryd.underlying27 Tryd.underlying9 info5 v366 y365 t368 rfl rfl ?aO ?aB ?aS ?aL ?_; (case aB => exact (by repeat (first | (with_reducible first | exact HB.out | apply below_alloc | apply pw_below_drewN | apply below_drew1 | refine below_set ?_ GE360.out) | exact HB.out))); (case aO => exact (Kd.own_of_R (by (with_reducible repeat (first | apply Kd.R_alloc | apply Kd.R_drewN | apply Kd.R_drew)); exact HO367.out))); (case aS => exact (below_size (by repeat (first | (with_reducible first | exact HB.out | apply below_alloc | apply pw_below_drewN | apply below_drew1 | refine below_set ?_ GE360.out) | exact HB.out)))); (case aL => have := LMc14.out; omega); intro v370 w19 ho0 hb hg; have ho := Kd.R_of_own (h1 := fun _ => rfl) (ok := fun _ => True) ho0 (fun _ _ => trivial); clear ho0; have hat := True.intro; rw [← Ny369.out] at ho; change Kd.R (Kd.int .u8) 5 w19 w.heap.size (fun _ => True) v370 y369 at ho; have n0_ := Aside0.mk (Kd.R_over' (by (with_reducible repeat (first | apply Kd.R_alloc | apply Kd.R_drewN | apply Kd.R_drew)); exact HO_12.out) (Kd.R_typed (by (with_reducible repeat (first | apply Kd.R_alloc | apply Kd.R_drewN | apply Kd.R_drew)); exact HO367.out)) (by decide) hg); have n1_ := Aside0.mk (blk_grown (g := gb360) (o := .cells #[.int .i64 a2_0, .int .i64 a2_1, .int .i64 a2_2, .bool a2_3, .bool a2_4] 24 (0, 0)) (by (with_reducible repeat (first | refine blk_drewN ?_ _ | refine blk_drew ?_ | refine blk_alloc ?_ _)); exact BK360.out) hg (Kd.R_ne HO367.out BK360.out (by decide))); have n2_ := Aside0.mk (hb); have n3_ := Aside0.mk (ho); clear HO_12; clear BK360; clear HB; clear HO367; have HO_12 := n0_; have BK360 := n1_; have HB := n2_; have HO371 := n3_; clear n0_ n1_ n2_ n3_; clear ho hb hg hat; obtain ⟨Ao20, co20, eo20⟩ := Kd.R_slice HO371.out; subst eo20))
                    go_ret2
                    exact ⟨_, by first | rfl | (simp [errW_none, errW_some] <;> rfl) | (simp [*, errW_none, errW_some] <;> rfl), by first | exact Kd.R_nil _ _ _ _ _ | exact Kd.N_nil _ _ _ _ _ | exact Kd.V_nil _ _ _ _ _ | exact Kd.Q_nil _ _ _ _ _ | exact Kd.S_nil _ _ _ _ _, by repeat (first | (with_reducible first | exact HB.out | apply below_alloc | apply pw_below_drewN | apply below_drew1 | refine below_set ?_ GE360.out) | exact HB.out)⟩
                  · rw [if_neg c15] at H
                    have c15b0 : decide (65536 < (y369.length : Int)) = false := decide_eq_false c15
                    have c15b1 : decide (65536 < y369.length) = false := decide_eq_false (by omega)
                    clear c15
                    have H' := Aside0.mk H
                    clear H
                    have p364 : 0 ≤ (x14_1 : Int) := of_decide_eq_true (by first | (with_reducible assumption) | assumption)
                    have q364 : x14_1 < (t361.length : Int) := of_decide_eq_true (by first | (with_reducible assumption) | assumption)
                    obtain ⟨ad364, e364, hx364_0⟩ := Kd.at_string (Kd.R_reads' HO_12.out).2.2 x14_1 p364 q364
                    cases e364
                    replace p364 := eq_true p364
                    replace q364 := eq_true q364
                    go_wp2_with (first | ((with_reducible refine gate_builtin (b := .append) (xs := #[.tmp 21, .tmp 22]) rfl ?_); at_builtin; refine Kd.R_append (Kd.int .u8) (w0 := w) w.heap.size rfl (.tmp 21) (.tmp 22) 27 5 (.int .u8 0) 1 rfl Tryd.underlying27 info5 rfl (by decide) (by omega) u8 x8_1 10 [.int .u8 10] (fun _ => True) (fun _ => False) rfl rfl ?aP (fun _ hk => hk.elim) ?aF ?aO ?aB ?aS ?aL ?_; (case aP => exact rfl); (case aB => exact (by repeat (first | (with_reducible first | exact HB.out | apply below_alloc | apply pw_below_drewN | apply below_drew1 | refine below_set ?_ GE360.out) | exact HB.out))); (case aF => exact (fun _ _ => trivial)); (case aO => exact (by (with_reducible repeat (first | apply Kd.R_alloc | apply Kd.R_drewN | apply Kd.R_drew)); exact HO_8.out)); (case aS => exact (below_size (by repeat (first | (with_reducible first | exact HB.out | apply below_alloc | apply pw_below_drewN | apply below_drew1 | refine below_set ?_ GE360.out) | exact HB.out)))); (case aL => have := LMc12.out; omega); intro v366 w21 ho hb hg hat; rw [← Ny365.out] at ho; have n0_ := Aside0.mk (Kd.R_over' (by (with_reducible repeat (first | apply Kd.R_alloc | apply Kd.R_drewN | apply Kd.R_drew)); exact HO_12.out) (Kd.R_typed (by (with_reducible repeat (first | apply Kd.R_alloc | apply Kd.R_drewN | apply Kd.R_drew)); exact HO_8.out)) (by decide) hg); have n1_ := Aside0.mk (blk_grown (g := gb360) (o := .cells #[.int .i64 a2_0, .int .i64 a2_1, .int .i64 a2_2, .bool a2_3, .bool a2_4] 24 (0, 0)) (by (with_reducible repeat (first | refine blk_drewN ?_ _ | refine blk_drew ?_ | refine blk_alloc ?_ _)); exact BK360.out) hg (Kd.R_ne HO_8.out BK360.out (by decide))); have n2_ := Aside0.mk (hb); have n3_ := Aside0.mk (ho); clear HO_12; clear BK360; clear HB; clear HO_8; have HO_12 := n0_; have BK360 := n1_; have HB := n2_; have HO367 := n3_; clear n0_ n1_ n2_ n3_; clear ho hb hg hat; have hcz22_0 : w21.cell? ⟨gb360, 0, none⟩ = some (.int .i64 a2_0) := (blk_cell BK360.out 0).trans rfl; have hcz22_1 : w21.cell? ⟨gb360, 1, none⟩ = some (.int .i64 a2_1) := (blk_cell BK360.out 1).trans rfl; have hcz22_2 : w21.cell? ⟨gb360, 2, none⟩ = some (.int .i64 a2_2) := (blk_cell BK360.out 2).trans rfl; have hcz22_3 : w21.cell? ⟨gb360, 3, none⟩ = some (.bool a2_3) := (blk_cell BK360.out 3).trans rfl; have hcz22_4 : w21.cell? ⟨gb360, 4, none⟩ = some (.bool a2_4) := (blk_cell BK360.out 4).trans rfl; have hfz22_0 := blk_frozen BK360.out 0; have hfz22_1 := blk_frozen BK360.out 1; have hfz22_2 := blk_frozen BK360.out 2; have hfz22_3 := blk_frozen BK360.out 3; have hfz22_4 := blk_frozen BK360.out 4) | ((with_reducible refine gate_callee (f := 12) rfl ?_); refine goesL_ (some 28) rfl rfl Tryd.func12 (by kernel_rfl) rfl #[.string (rdOf ByteArray.empty t361 x14_1), .int .i64 a1, .agg #[.int .i64 a2_0, .int .i64 a2_1, .int .i64 a2_2, .bool a2_3, .bool a2_4]] rfl (by (try simp only [List.map_toArray, List.map_cons, List.map_nil]); first | done | rfl | (simp only [List.length_drop, List.length_take]; rfl)) ?_; (with_reducible refine (shift_Line.calls k1 (rdOf ByteArray.empty t361 x14_1) a1 a2_0 a2_1 a2_2 a2_3 a2_4 t368 _ ?side1 A13.out).mono ?_); (case side1 => exact Tabs.below HT.out (by repeat (first | (with_reducible first | exact HB.out | apply below_alloc | apply pw_below_drewN | apply below_drew1 | refine below_set ?_ GE360.out) | exact HB.out))); rintro e w23 ⟨rfl, hb⟩; refine ⟨_, rfl, ?_⟩; have n0_ := Aside0.mk (Kd.R_below (by (with_reducible repeat (first | apply Kd.R_alloc | apply Kd.R_drewN | apply Kd.R_drew)); exact HO_12.out) hb); have n1_ := Aside0.mk (Kd.R_below (by (with_reducible repeat (first | apply Kd.R_alloc | apply Kd.R_drewN | apply Kd.R_drew)); exact HO367.out) hb); have n2_ := Aside0.mk (blk_below (g := gb360) (o := .cells #[.int .i64 a2_0, .int .i64 a2_1, .int .i64 a2_2, .bool a2_3, .bool a2_4] 24 (0, 0)) (by (with_reducible repeat (first | refine blk_drewN ?_ _ | refine blk_drew ?_ | refine blk_alloc ?_ _)); exact BK360.out) hb); have n3_ := Aside0.mk (below_step (by repeat (first | (with_reducible first | exact HB.out | apply below_alloc | apply pw_below_drewN | apply below_drew1 | refine below_set ?_ GE360.out) | exact HB.out)) hb); clear HO_12; clear HO367; clear BK360; clear HB; have HO_12 := n0_; have HO367 := n1_; have BK360 := n2_; have HB := n3_; clear n0_ n1_ n2_ n3_; (try clear hb); (try clear hb2); (try clear hk); (try clear hi)) | (at_builtin; refine print_append_str (w0 := w) w.heap.size rfl (.tmp 24) _ 27 9 5 rfl Tryd.underlying27 Tryd.underlying9 info5 v366 y365 t368 rfl rfl ?aO ?aB ?aS ?aL ?_; (case aB => exact (by repeat (first | (with_reducible first | exact HB.out | apply below_alloc | apply pw_below_drewN | apply below_drew1 | refine below_set ?_ GE360.out) | exact HB.out))); (case aO => exact (Kd.own_of_R (by (with_reducible repeat (first | apply Kd.R_alloc | apply Kd.R_drewN | apply Kd.R_drew)); exact HO367.out))); (case aS => exact (below_size (by repeat (first | (with_reducible first | exact HB.out | apply below_alloc | apply pw_below_drewN | apply below_drew1 | refine below_set ?_ GE360.out) | exact HB.out)))); (case aL => have := LMc14.out; omega); intro v370 w24 ho0 hb hg; have ho := Kd.R_of_own (h1 := fun _ => rfl) (ok := fun _ => True) ho0 (fun _ _ => trivial); clear ho0; have hat := True.intro; rw [← Ny369.out] at ho; change Kd.R (Kd.int .u8) 5 w24 w.heap.size (fun _ => True) v370 y369 at ho; have n0_ := Aside0.mk (Kd.R_over' (by (with_reducible repeat (first | apply Kd.R_alloc | apply Kd.R_drewN | apply Kd.R_drew)); exact HO_12.out) (Kd.R_typed (by (with_reducible repeat (first | apply Kd.R_alloc | apply Kd.R_drewN | apply Kd.R_drew)); exact HO367.out)) (by decide) hg); have n1_ := Aside0.mk (blk_grown (g := gb360) (o := .cells #[.int .i64 a2_0, .int .i64 a2_1, .int .i64 a2_2, .bool a2_3, .bool a2_4] 24 (0, 0)) (by (with_reducible repeat (first | refine blk_drewN ?_ _ | refine blk_drew ?_ | refine blk_alloc ?_ _)); exact BK360.out) hg (Kd.R_ne HO367.out BK360.out (by decide))); have n2_ := Aside0.mk (hb); have n3_ := Aside0.mk (ho); clear HO_12; clear BK360; clear HB; clear HO367; have HO_12 := n0_; have BK360 := n1_; have HB := n2_; have HO371 := n3_; clear n0_ n1_ n2_ n3_; clear ho hb hg hat; obtain ⟨Ao25, co25, eo25⟩ := Kd.R_slice HO371.out; subst eo25))
                    go_roundg k1
                    case measure => have := HK1.out; omega
                    case rel => exact ⟨(y369), (wrap64 (x14_1 + 1)), (by first | rfl | (simp; done) | (simp [*]; done)), H', ⟨by have := HK1.out; omega⟩, ⟨by (with_reducible repeat (first | apply Kd.R_alloc | apply Kd.R_drewN | apply Kd.R_drew)); exact HO371.out⟩, ⟨by (with_reducible repeat (first | apply Kd.R_alloc | apply Kd.R_drewN | apply Kd.R_drew)); exact HO_12.out⟩, ⟨by (with_reducible repeat (first | refine blk_drewN ?_ _ | refine blk_drew ?_ | refine blk_alloc ?_ _)); exact BK360.out⟩, ⟨by repeat (first | (with_reducible first | exact HB.out | apply below_alloc | apply pw_below_drewN | apply below_drew1 | refine below_set ?_ GE360.out) | exact HB.out)⟩⟩
                · rw [if_neg c14] at H
                  exact absurd H (by simp)
              · rw [if_neg c12] at H
                exact absurd H (by simp)
            · rw [if_neg c11] at H
              have c11b0 : decide (0 < x14_1) = false := decide_eq_false c11
              clear c11
              replace H := Option.bind_eq_some_iff.mp H
              obtain ⟨t372, A260, H⟩ := H
              replace H : (if x8_1.length + t372.size < 140737488355328 then ((some (x8_1 ++ bytesOf t372 : List Int)).bind fun y373 => (if (y373.length : Int) > 65536 then (some (([] : List Int), 4)) else (shift_Shift.l0 k1 a1 y373 t361 (t361.length : Int) (wrap64 (x14_1 + 1)) a2_0 a2_1 a2_2 a2_3 a2_4))) else (none)) = some (r1, r2) := H
              have A26 := Aside0.mk A260
              clear A260
              by_cases c27 : x8_1.length + t372.size < 140737488355328
              · rw [if_pos c27] at H
                have LMc27 := Aside0.mk c27
                clear c27
                obtain ⟨y373, hy373⟩ : ∃ y_ : List Int, y_ = (x8_1 ++ bytesOf t372) := ⟨_, rfl⟩
                replace H : (if (y373.length : Int) > 65536 then (some (([] : List Int), 4)) else (shift_Shift.l0 k1 a1 y373 t361 (t361.length : Int) (wrap64 (x14_1 + 1)) a2_0 a2_1 a2_2 a2_3 a2_4)) = some (r1, r2) := by first | (rw [hy373]; with_reducible exact H) | (have H2_ := (Option.bind_some _ _).symm.trans H; rw [hy373]; with_reducible exact H2_) | (have H2_ := (Option.bind_some _ _).symm.trans H; with_reducible exact H2_) | with_reducible exact H | (rw [hy373]; exact H) | exact H
                have Ny373 := Aside0.mk hy373
                clear hy373
                by_cases c28 : (y373.length : Int) > 65536
                · rw [if_pos c28] at H
                  have c28b0 : decide (65536 < (y373.length : Int)) = true := decide_eq_true c28
                  have c28b1 : decide (65536 < y373.length) = true := decide_eq_true (by omega)
                  clear c28
                  simp only [Option.some.injEq, Prod.mk.injEq] at H
                  obtain ⟨rfl, rfl⟩ := H
                  have p364 : 0 ≤ (x14_1 : Int) := of_decide_eq_true (by first | (with_reducible assumption) | assumption)
                  have q364 : x14_1 < (t361.length : Int) := of_decide_eq_true (by first | (with_reducible assumption) | assumption)
                  obtain ⟨ad364, e364, hx364_0⟩ := Kd.at_string (Kd.R_reads' HO_12.out).2.2 x14_1 p364 q364
                  cases e364
                  replace p364 := eq_true p364
                  replace q364 := eq_true q364
                  have hcz29_0 : wr.cell? ⟨gb360, 0, none⟩ = some (.int .i64 a2_0) := (blk_cell BK360.out 0).trans rfl
                  have hcz29_1 : wr.cell? ⟨gb360, 1, none⟩ = some (.int .i64 a2_1) := (blk_cell BK360.out 1).trans rfl
                  have hcz29_2 : wr.cell? ⟨gb360, 2, none⟩ = some (.int .i64 a2_2) := (blk_cell BK360.out 2).trans rfl
                  have hcz29_3 : wr.cell? ⟨gb360, 3, none⟩ = some (.bool a2_3) := (blk_cell BK360.out 3).trans rfl
                  have hcz29_4 : wr.cell? ⟨gb360, 4, none⟩ = some (.bool a2_4) := (blk_cell BK360.out 4).trans rfl
                  have hfz29_0 := blk_frozen BK360.out 0
                  have hfz29_1 := blk_frozen BK360.out 1
                  have hfz29_2 := blk_frozen BK360.out 2
                  have hfz29_3 := blk_frozen BK360.out 3
                  have hfz29_4 := blk_frozen BK360.out 4
                  go_wp2_with (first | ((with_reducible refine gate_callee (f := 12) rfl ?_); refine goesL_ (some 28) rfl rfl Tryd.func12 (by kernel_rfl) rfl #[.string (rdOf ByteArray.empty t361 x14_1), .int .i64 a1, .agg #[.int .i64 a2_0, .int .i64 a2_1, .int .i64 a2_2, .bool a2_3, .bool a2_4]] rfl (by (try simp only [List.map_toArray, List.map_cons, List.map_nil]); first | done | rfl | (simp only [List.length_drop, List.length_take]; rfl)) ?_; (with_reducible refine (shift_Line.calls k1 (rdOf ByteArray.empty t361 x14_1) a1 a2_0 a2_1 a2_2 a2_3 a2_4 t372 _ ?side1 A26.out).mono ?_); (case side1 => exact Tabs.below HT.out (by repeat (first | (with_reducible first | exact HB.out | apply below_alloc | apply pw_below_drewN | apply below_drew1 | refine below_set ?_ GE360.out) | exact HB.out))); rintro e w30 ⟨rfl, hb⟩; refine ⟨_, rfl, ?_⟩; have n0_ := Aside0.mk (Kd.R_below (by (with_reducible repeat (first | apply Kd.R_alloc | apply Kd.R_drewN | apply Kd.R_drew)); exact HO_8.out) hb); have n1_ := Aside0.mk (Kd.R_below (by (with_reducible repeat (first | apply Kd.R_alloc | apply Kd.R_drewN | apply Kd.R_drew)); exact HO_12.out) hb); have n2_ := Aside0.mk (blk_below (g := gb360) (o := .cells #[.int .i64 a2_0, .int .i64 a2_1, .int .i64 a2_2, .bool a2_3, .bool a2_4] 24 (0, 0)) (by (with_reducible repeat (first | refine blk_drewN ?_ _ | refine blk_drew ?_ | refine blk_alloc ?_ _)); exact BK360.out) hb); have n3_ := Aside0.mk (below_step (by repeat (first | (with_reducible first | exact HB.out | apply below_alloc | apply pw_below_drewN | apply below_drew1 | refine below_set ?_ GE360.out) | exact HB.out)) hb); clear HO_8; clear HO_12; clear BK360; clear HB; have HO_8 := n0_; have HO_12 := n1_; have BK360 := n2_; have HB := n3_; clear n0_ n1_ n2_ n3_; (try clear hb); (try clear hb2); (try clear hk); (try clear hi)) | (at_builtin; refine print_append_str (w0 := w) w.heap.size rfl (.tmp 24) _ 27 9 5 rfl Tryd.underlying27 Tryd.underlying9 info5 u8 x8_1 t372 rfl rfl ?aO ?aB ?aS ?aL ?_; (case aB => exact (by repeat (first | (with_reducible first | exact HB.out | apply below_alloc | apply pw_below_drewN | apply below_drew1 | refine below_set ?_ GE360.out) | exact HB.out))); (case aO => exact (Kd.own_of_R (by (with_reducible repeat (first | apply Kd.R_alloc | apply Kd.R_drewN | apply Kd.R_drew)); exact HO_8.out))); (case aS => exact (below_size (by repeat (first | (with_reducible first | exact HB.out | apply below_alloc | apply pw_below_drewN | apply below_drew1 | refine below_set ?_ GE360.out) | exact HB.out)))); (case aL => have := LMc27.out; omega); intro v374 w31 ho0 hb hg; have ho := Kd.R_of_own (h1 := fun _ => rfl) (ok := fun _ => True) ho0 (fun _ _ => trivial); clear ho0; have hat := True.intro; rw [← Ny373.out] at ho; change Kd.R (Kd.int .u8) 5 w31 w.heap.size (fun _ => True) v374 y373 at ho; have n0_ := Aside0.mk (Kd.R_over' (by (with_reducible repeat (first | apply Kd.R_alloc | apply Kd.R_drewN | apply Kd.R_drew)); exact HO_12.out) (Kd.R_typed (by (with_reducible repeat (first | apply Kd.R_alloc | apply Kd.R_drewN | apply Kd.R_drew)); exact HO_8.out)) (by decide) hg); have n1_ := Aside0.mk (blk_grown (g := gb360) (o := .cells #[.int .i64 a2_0, .int .i64 a2_1, .int .i64 a2_2, .bool a2_3, .bool a2_4] 24 (0, 0)) (by (with_reducible repeat (first | refine blk_drewN ?_ _ | refine blk_drew ?_ | refine blk_alloc ?_ _)); exact BK360.out) hg (Kd.R_ne HO_8.out BK360.out (by decide))); have n2_ := Aside0.mk (hb); have n3_ := Aside0.mk (ho); clear HO_12; clear BK360; clear HB; clear HO_8; have HO_12 := n0_; have BK360 := n1_; have HB := n2_; have HO375 := n3_; clear n0_ n1_ n2_ n3_; clear ho hb hg hat; obtain ⟨Ao32, co32, eo32⟩ := Kd.R_slice HO375.out; subst eo32))
                  go_ret2
                  exact ⟨_, by first | rfl | (simp [errW_none, errW_some] <;> rfl) | (simp [*, errW_none, errW_some] <;> rfl), by first | exact Kd.R_nil _ _ _ _ _ | exact Kd.N_nil _ _ _ _ _ | exact Kd.V_nil _ _ _ _ _ | exact Kd.Q_nil _ _ _ _ _ | exact Kd.S_nil _ _ _ _ _, by repeat (first | (with_reducible first | exact HB.out | apply below_alloc | apply pw_below_drewN | apply below_drew1 | refine below_set ?_ GE360.out) | exact HB.out)⟩
                · rw [if_neg c28] at H
                  have c28b0 : decide (65536 < (y373.length : Int)) = false := decide_eq_false c28
                  have c28b1 : decide (65536 < y373.length) = false := decide_eq_false (by omega)
                  clear c28
                  have H' := Aside0.mk H
                  clear H
                  have p364 : 0 ≤ (x14_1 : Int) := of_decide_eq_true (by first | (with_reducible assumption) | assumption)
                  have q364 : x14_1 < (t361.length : Int) := of_decide_eq_true (by first | (with_reducible assumption) | assumption)
                  obtain ⟨ad364, e364, hx364_0⟩ := Kd.at_string (Kd.R_reads' HO_12.out).2.2 x14_1 p364 q364
                  cases e364
                  replace p364 := eq_true p364
                  replace q364 := eq_true q364
                  have hcz33_0 : wr.cell? ⟨gb360, 0, none⟩ = some (.int .i64 a2_0) := (blk_cell BK360.out 0).trans rfl
                  have hcz33_1 : wr.cell? ⟨gb360, 1, none⟩ = some (.int .i64 a2_1) := (blk_cell BK360.out 1).trans rfl
                  have hcz33_2 : wr.cell? ⟨gb360, 2, none⟩ = some (.int .i64 a2_2) := (blk_cell BK360.out 2).trans rfl
                  have hcz33_3 : wr.cell? ⟨gb360, 3, none⟩ = some (.bool a2_3) := (blk_cell BK360.out 3).trans rfl
                  have hcz33_4 : wr.cell? ⟨gb360, 4, none⟩ = some (.bool a2_4) := (blk_cell BK360.out 4).trans rfl
                  have hfz33_0 := blk_frozen BK360.out 0
                  have hfz33_1 := blk_frozen BK360.out 1
                  have hfz33_2 := blk_frozen BK360.out 2
                  have hfz33_3 := blk_frozen BK360.out 3
                  have hfz33_4 := blk_frozen BK360.out 4
                  go_wp2_with (first | ((with_reducible refine gate_callee (f := 12) rfl ?_); refine goesL_ (some 28) rfl rfl Tryd.func12 (by kernel_rfl) rfl #[.string (rdOf ByteArray.empty t361 x14_1), .int .i64 a1, .agg #[.int .i64 a2_0, .int .i64 a2_1, .int .i64 a2_2, .bool a2_3, .bool a2_4]] rfl (by (try simp only [List.map_toArray, List.map_cons, List.map_nil]); first | done | rfl | (simp only [List.length_drop, List.length_take]; rfl)) ?_; (with_reducible refine (shift_Line.calls k1 (rdOf ByteArray.empty t361 x14_1) a1 a2_0 a2_1 a2_2 a2_3 a2_4 t372 _ ?side1 A26.out).mono ?_); (case side1 => exact Tabs.below HT.out (by repeat (first | (with_reducible first | exact HB.out | apply below_alloc | apply pw_below_drewN | apply below_drew1 | refine below_set ?_ GE360.out) | exact HB.out))); rintro e w34 ⟨rfl, hb⟩; refine ⟨_, rfl, ?_⟩; have n0_ := Aside0.mk (Kd.R_below (by (with_reducible repeat (first | apply Kd.R_alloc | apply Kd.R_drewN | apply Kd.R_drew)); exact HO_8.out) hb); have n1_ := Aside0.mk (Kd.R_below (by (with_reducible repeat (first | apply Kd.R_alloc | apply Kd.R_drewN | apply Kd.R_drew)); exact HO_12.out) hb); have n2_ := Aside0.mk (blk_below (g := gb360) (o := .cells #[.int .i64 a2_0, .int .i64 a2_1, .int .i64 a2_2, .bool a2_3, .bool a2_4] 24 (0, 0)) (by (with_reducible repeat (first | refine blk_drewN ?_ _ | refine blk_drew ?_ | refine blk_alloc ?_ _)); exact BK360.out) hb); have n3_ := Aside0.mk (below_step (by repeat (first | (with_reducible first | exact HB.out | apply below_alloc | apply pw_below_drewN | apply below_drew1 | refine below_set ?_ GE360.out) | exact HB.out)) hb); clear HO_8; clear HO_12; clear BK360; clear HB; have HO_8 := n0_; have HO_12 := n1_; have BK360 := n2_; have HB := n3_; clear n0_ n1_ n2_ n3_; (try clear hb); (try clear hb2); (try clear hk); (try clear hi)) | (at_builtin; refine print_append_str (w0 := w) w.heap.size rfl (.tmp 24) _ 27 9 5 rfl Tryd.underlying27 Tryd.underlying9 info5 u8 x8_1 t372 rfl rfl ?aO ?aB ?aS ?aL ?_; (case aB => exact (by repeat (first | (with_reducible first | exact HB.out | apply below_alloc | apply pw_below_drewN | apply below_drew1 | refine below_set ?_ GE360.out) | exact HB.out))); (case aO => exact (Kd.own_of_R (by (with_reducible repeat (first | apply Kd.R_alloc | apply Kd.R_drewN | apply Kd.R_drew)); exact HO_8.out))); (case aS => exact (below_size (by repeat (first | (with_reducible first | exact HB.out | apply below_alloc | apply pw_below_drewN | apply below_drew1 | refine below_set ?_ GE360.out) | exact HB.out)))); (case aL => have := LMc27.out; omega); intro v374 w35 ho0 hb hg; have ho := Kd.R_of_own (h1 := fun _ => rfl) (ok := fun _ => True) ho0 (fun _ _ => trivial); clear ho0; have hat := True.intro; rw [← Ny373.out] at ho; change Kd.R (Kd.int .u8) 5 w35 w.heap.size (fun _ => True) v374 y373 at ho; have n0_ := Aside0.mk (Kd.R_over' (by (with_reducible repeat (first | apply Kd.R_alloc | apply Kd.R_drewN | apply Kd.R_drew)); exact HO_12.out) (Kd.R_typed (by (with_reducible repeat (first | apply Kd.R_alloc | apply Kd.R_drewN | apply Kd.R_drew)); exact HO_8.out)) (by decide) hg); have n1_ := Aside0.mk (blk_grown (g := gb360) (o := .cells #[.int .i64 a2_0, .int .i64 a2_1, .int .i64 a2_2, .bool a2_3, .bool a2_4] 24 (0, 0)) (by (with_reducible repeat (first | refine blk_drewN ?_ _ | refine blk_drew ?_ | refine blk_alloc ?_ _)); exact BK360.out) hg (Kd.R_ne HO_8.out BK360.out (by decide))); have n2_ := Aside0.mk (hb); have n3_ := Aside0.mk (ho); clear HO_12; clear BK360; clear HB; clear HO_8; have HO_12 := n0_; have BK360 := n1_; have HB := n2_; have HO375 := n3_; clear n0_ n1_ n2_ n3_; clear ho hb hg hat; obtain ⟨Ao36, co36, eo36⟩ := Kd.R_slice HO375.out; subst eo36))
                  go_roundg k1
                  case measure => have := HK1.out; omega
                  case rel => exact ⟨(y373), (wrap64 (x14_1 + 1)), (by first | rfl | (simp; done) | (simp [*]; done)), H', ⟨by have := HK1.out; omega⟩, ⟨by (with_reducible repeat (first | apply Kd.R_alloc | apply Kd.R_drewN | apply Kd.R_drew)); exact HO375.out⟩, ⟨by (with_reducible repeat (first | apply Kd.R_alloc | apply Kd.R_drewN | apply Kd.R_drew)); exact HO_12.out⟩, ⟨by (with_reducible repeat (first | refine blk_drewN ?_ _ | refine blk_drew ?_ | refine blk_alloc ?_ _)); exact BK360.out⟩, ⟨by repeat (first | (with_reducible first | exact HB.out | apply below_alloc | apply pw_below_drewN | apply below_drew1 | refine below_set ?_ GE360.out) | exact HB.out)⟩⟩
              · rw [if_neg c27] at H
                exact absurd H (by simp)
          · rw [if_neg c10] at H
            exact absurd H (by simp)
        · rw [if_neg c9] at H
          exact absurd H (by simp)
      · rw [if_neg c8] at H
        have c8b0 : decide (x14_1 < (t361.length : Int)) = false := decide_eq_false c8
        clear c8
        simp only [Option.some.injEq, Prod.mk.injEq] at H
        obtain ⟨rfl, rfl⟩ := H
        go_wp2
        go_ret2
        exact ⟨_, by first | rfl | (simp [errW_none, errW_some] <;> rfl) | (simp [*, errW_none, errW_some] <;> rfl), by (with_reducible repeat (first | apply Kd.R_alloc | apply Kd.R_drewN | apply Kd.R_drew)); exact HO_8.out, by repeat (first | (with_reducible first | exact HB.out | apply below_alloc | apply pw_below_drewN | apply below_drew1 | refine below_set ?_ GE360.out) | exact HB.out)⟩

end Go.Proofs.YtdaodcdbfaikjaaDoor.Pa
