-- Laid by a program of this claim's own (wip/tools/mkprint.py, ext.py): walks of the functions that the statements reach.
import Derived.Test.YtemmalkgjfdlcaaPax0
import Derived.Test.YtemmalkgjfdlcaaPax1
namespace Go.Proofs.Ytemmalkgjfdlcaa.Pa
open Go.RowKit Go.Proofs.Ytemmalkgjfdlcaa.Ext Go.Proofs.YtemmalkgjfdlcaaW.PrintWords Go.Proofs.YtemmalkgjfdlcaaW.PrintLast Go.Proofs.YtemmalkgjfdlcaaW.PrintMore
attribute [local go_sem] max2_int min2_int max_two min_two max_three min_three max_four min_four   -- for this text's walks alone
set_option linter.unusedVariables false
set_option linter.unusedSimpArgs false

/-! ### keep_same_string: function 22 -/
def keep_same_string.l0 : Nat → List ByteArray → List ByteArray → Int → Int → Option (Bool)
  | 0, _, _, _, _ => none
  | k + 1, x1, x12, x13, x14 => if x14 < x13 then (if 0 ≤ x14 then (if x14 < (x12.length : Int) then (if x14 < (x1.length : Int) then (if (rdOf ByteArray.empty x12 x14).toList = (rdOf ByteArray.empty x1 x14).toList then (keep_same_string.l0 k x1 x12 x13 (wrap64 (x14 + 1))) else (some false)) else (none)) else (none)) else (none)) else (some true)
def keep_same_string.f (k : Nat) (l0 : List ByteArray) (l1 : List ByteArray) : Option (Bool) := if (l0.length : Int) = (l1.length : Int) then (keep_same_string.l0 k l1 l0 (l0.length : Int) 0) else (some false)
theorem keep_same_string.mono_l : ∀ k, (∀ y0 y1 y2 y3, LeO (keep_same_string.l0 k y0 y1 y2 y3) (keep_same_string.l0 (k + 1) y0 y1 y2 y3))
  | 0 => fun _ _ _ _ r h => by simp [keep_same_string.l0] at h
  | k + 1 => by
    have ih0 := keep_same_string.mono_l k
    · intro y0 y1 y2 y3
      unfold keep_same_string.l0
      repeat' first
      | (with_reducible exact ih0 _ _ _ _)
      | (with_reducible exact LeO.refl _)
      | (with_reducible exact LeO.none _)
      | (with_reducible refine LeO.ite ?_ ?_)
      | (with_reducible refine LeO.bind ?_ (fun _ => ?_))
      | exact ih0 _ _ _ _
      | exact LeO.none _
      | refine LeO.ite ?_ ?_
      | refine LeO.bind ?_ (fun _ => ?_)
theorem keep_same_string.mono : ∀ a0 a1 k, LeO (keep_same_string.f k a0 a1) (keep_same_string.f (k + 1) a0 a1) := by
  intro a0 a1 k
  have ih0 := keep_same_string.mono_l k
  unfold keep_same_string.f
  repeat' first
      | (with_reducible exact ih0 _ _ _ _)
      | (with_reducible exact LeO.refl _)
      | (with_reducible exact LeO.none _)
      | (with_reducible refine LeO.ite ?_ ?_)
      | (with_reducible refine LeO.bind ?_ (fun _ => ?_))
      | exact ih0 _ _ _ _
      | exact LeO.none _
      | refine LeO.ite ?_ ?_
      | refine LeO.bind ?_ (fun _ => ?_)
set_option maxHeartbeats 8000000 in
set_option maxRecDepth 100000 in
theorem keep_same_string.calls (k : Nat) (A0 : Option Addr) (c0 : Nat) (l0 : List ByteArray) (A1 : Option Addr) (c1 : Nat) (l1 : List ByteArray) (r : Bool) (w : World) (hr0 : Kd.C Kd.string w A0 l0.length l0) (hc0 : l0.length ≤ c0) (hr1 : Kd.C Kd.string w A1 l1.length l1) (hc1 : l1.length ≤ c1) (h : keep_same_string.f k l0 l1 = some r) :
    Calls Try.prog 22 #[.slice A0 l0.length c0, .slice A1 l1.length c1] w fun e w' => e = .returned (.bool r) ∧ Drawn0 w w' := by
  have HR0 := Aside0.mk hr0
  have HC0 := Aside0.mk hc0
  clear hr0 hc0
  have HR1 := Aside0.mk hr1
  have HC1 := Aside0.mk hc1
  clear hr1 hc1
  have H : (if (l0.length : Int) = (l1.length : Int) then (keep_same_string.l0 k l1 l0 (l0.length : Int) 0) else (some false)) = some r := h
  clear h
  by_cases c3 : (l0.length : Int) = (l1.length : Int)
  · rw [if_pos c3] at H
    have c3b0 : ((l0.length : Int) == (l1.length : Int)) = true := beq_iff_eq.mpr c3
    have c3b1 : ((l0.length : Int) != (l1.length : Int)) = false := bne_eq_false_iff_eq.mpr c3
    have c3b2 : (l0.length == l1.length) = true := by first | simpa using c3 | (simp at c3 ⊢; omega)
    clear c3
    have H' := Aside0.mk H
    clear H
    go_enter Try.func22, Try.ntmps22
    go_wp2
    go_loopg [14] k (fun kq v14 w' => ∃ (x14_1 : Int), v14 = .int .i64 x14_1 ∧ Aside0 (keep_same_string.l0 kq l1 l0 (l0.length : Int) x14_1 = some r) ∧ Aside0 (kq ≤ k) ∧ Drawn0 w w')
    case atStart => exact ⟨(0), (by first | rfl | (simp; done) | (simp [*]; done)), H', ⟨Nat.le_refl _⟩, by repeat (first | exact Drawn0.refl _ | apply Drawn0.step)⟩
    case round =>
      clear H'
      try clear c1
      try clear c2
      try clear p2
      try clear c3
      try clear c3b0
      try clear c3b1
      try clear c3b2
      obtain ⟨x14_1, rfl, HA, HK1, ⟨m1, rfl⟩⟩ := hrel
      cases gk with
      | zero => exact absurd HA.out (by simp [keep_same_string.l0])
      | succ k1 =>
        have H := HA.out
        clear HA
        simp only [keep_same_string.l0] at H
        by_cases c4 : x14_1 < (l0.length : Int)
        · rw [if_pos c4] at H
          have c4b0 : decide (x14_1 < (l0.length : Int)) = true := decide_eq_true c4
          clear c4
          by_cases c5 : 0 ≤ x14_1
          · rw [if_pos c5] at H
            have c5b0 : decide (0 ≤ x14_1) = true := decide_eq_true c5
            clear c5
            by_cases c6 : x14_1 < (l0.length : Int)
            · rw [if_pos c6] at H
              have c6b0 : decide (x14_1 < (l0.length : Int)) = true := decide_eq_true c6
              clear c6
              by_cases c7 : x14_1 < (l1.length : Int)
              · rw [if_pos c7] at H
                have c7b0 : decide (x14_1 < (l1.length : Int)) = true := decide_eq_true c7
                clear c7
                by_cases c8 : (rdOf ByteArray.empty l0 x14_1).toList = (rdOf ByteArray.empty l1 x14_1).toList
                · rw [if_pos c8] at H
                  have c8b0 : ((rdOf ByteArray.empty l0 x14_1).toList == (rdOf ByteArray.empty l1 x14_1).toList) = true := beq_iff_eq.mpr c8
                  have c8b1 : ((rdOf ByteArray.empty l0 x14_1).toList != (rdOf ByteArray.empty l1 x14_1).toList) = false := bne_eq_false_iff_eq.mpr c8
                  clear c8
                  have H' := Aside0.mk H
                  clear H
                  have p126 : 0 ≤ (x14_1 : Int) := of_decide_eq_true (by first | (with_reducible assumption) | assumption)
                  have q126 : x14_1 < (l0.length : Int) := of_decide_eq_true (by first | (with_reducible assumption) | assumption)
                  obtain ⟨ad126, e126, hx126_0⟩ := Kd.at_string HR0.out x14_1 p126 q126
                  cases e126
                  replace p126 := eq_true p126
                  replace q126 := eq_true q126
                  have p127 : 0 ≤ (x14_1 : Int) := of_decide_eq_true (by first | (with_reducible assumption) | assumption)
                  have q127 : x14_1 < (l1.length : Int) := of_decide_eq_true (by first | (with_reducible assumption) | assumption)
                  obtain ⟨ad127, e127, hx127_0⟩ := Kd.at_string HR1.out x14_1 p127 q127
                  cases e127
                  replace p127 := eq_true p127
                  replace q127 := eq_true q127
                  go_wp2
                  go_roundg k1
                  case measure => have := HK1.out; omega
                  case rel => exact ⟨(wrap64 (x14_1 + 1)), (by first | rfl | (simp; done) | (simp [*]; done)), H', ⟨by have := HK1.out; omega⟩, by repeat (first | exact Drawn0.refl _ | apply Drawn0.step)⟩
                · rw [if_neg c8] at H
                  have c8b0 : ((rdOf ByteArray.empty l0 x14_1).toList == (rdOf ByteArray.empty l1 x14_1).toList) = false := beq_eq_false_iff_ne.mpr c8
                  have c8b1 : ((rdOf ByteArray.empty l0 x14_1).toList != (rdOf ByteArray.empty l1 x14_1).toList) = true := bne_iff_ne.mpr c8
                  obtain rfl := Option.some.inj H
                  have p126 : 0 ≤ (x14_1 : Int) := of_decide_eq_true (by first | (with_reducible assumption) | assumption)
                  have q126 : x14_1 < (l0.length : Int) := of_decide_eq_true (by first | (with_reducible assumption) | assumption)
                  obtain ⟨ad126, e126, hx126_0⟩ := Kd.at_string HR0.out x14_1 p126 q126
                  cases e126
                  replace p126 := eq_true p126
                  replace q126 := eq_true q126
                  have p127 : 0 ≤ (x14_1 : Int) := of_decide_eq_true (by first | (with_reducible assumption) | assumption)
                  have q127 : x14_1 < (l1.length : Int) := of_decide_eq_true (by first | (with_reducible assumption) | assumption)
                  obtain ⟨ad127, e127, hx127_0⟩ := Kd.at_string HR1.out x14_1 p127 q127
                  cases e127
                  replace p127 := eq_true p127
                  replace q127 := eq_true q127
                  go_wp2
                  go_ret
                  exact ⟨by first | rfl | (simp; done) | (simp [*]; done), by repeat (first | exact Drawn0.refl _ | apply Drawn0.step)⟩
              · rw [if_neg c7] at H
                exact absurd H (by simp)
            · rw [if_neg c6] at H
              exact absurd H (by simp)
          · rw [if_neg c5] at H
            exact absurd H (by simp)
        · rw [if_neg c4] at H
          have c4b0 : decide (x14_1 < (l0.length : Int)) = false := decide_eq_false c4
          clear c4
          obtain rfl := Option.some.inj H
          go_wp2
          go_ret
          exact ⟨by first | rfl | (simp; done) | (simp [*]; done), by repeat (first | exact Drawn0.refl _ | apply Drawn0.step)⟩
  · rw [if_neg c3] at H
    have c3b0 : ((l0.length : Int) == (l1.length : Int)) = false := beq_eq_false_iff_ne.mpr c3
    have c3b1 : ((l0.length : Int) != (l1.length : Int)) = true := bne_iff_ne.mpr c3
    have c3b2 : (l0.length == l1.length) = false := by first | simpa using c3 | (simp at c3 ⊢; omega)
    obtain rfl := Option.some.inj H
    go_enter Try.func22, Try.ntmps22
    go_wp2
    go_ret
    exact ⟨by first | rfl | (simp; done) | (simp [*]; done), by repeat (first | exact Drawn0.refl _ | apply Drawn0.step)⟩

/-! ### keep_texts: function 23 -/
def keep_texts.l0 : Nat → List Int → List ByteArray → List (S33) → Int → Int → Option (List ByteArray)
  | 0, _, _, _, _, _ => none
  | k + 1, x0, x3, x7, x8, x9 => if x9 < x8 then (if 0 ≤ x9 then (if x9 < (x7.length : Int) then (if 0 ≤ ((rd_T33 x7 x9).f0) then (if ((rd_T33 x7 x9).f0) ≤ (wrap64 (((rd_T33 x7 x9).f0) + ((rd_T33 x7 x9).f1))) then (if (wrap64 (((rd_T33 x7 x9).f0) + ((rd_T33 x7 x9).f1))) ≤ (x0.length : Int) then (if x3.length < 8796093022208 then (keep_texts.l0 k x0 (x3 ++ [strOfNums ((x0.take ((wrap64 (((rd_T33 x7 x9).f0) + ((rd_T33 x7 x9).f1))) : Int).toNat).drop (((rd_T33 x7 x9).f0) : Int).toNat)]) x7 x8 (wrap64 (x9 + 1))) else (none)) else (none)) else (none)) else (none)) else (none)) else (none)) else (some x3)
def keep_texts.f (k : Nat) (l0 : List Int) : Option (List ByteArray) := (words_Solid.f k l0).bind fun t128 => (keep_texts.l0 k l0 ([] : List ByteArray) t128 (t128.length : Int) 0)
theorem keep_texts.mono_l : ∀ k, (∀ y0 y1 y2 y3 y4, LeO (keep_texts.l0 k y0 y1 y2 y3 y4) (keep_texts.l0 (k + 1) y0 y1 y2 y3 y4))
  | 0 => fun _ _ _ _ _ r h => by simp [keep_texts.l0] at h
  | k + 1 => by
    have ih0 := keep_texts.mono_l k
    · intro y0 y1 y2 y3 y4
      unfold keep_texts.l0
      repeat' first
      | (with_reducible exact ih0 _ _ _ _ _)
      | (with_reducible exact words_Solid.mono _ _)
      | (with_reducible exact LeO.refl _)
      | (with_reducible exact LeO.none _)
      | (with_reducible refine LeO.ite ?_ ?_)
      | (with_reducible refine LeO.bind ?_ (fun _ => ?_))
      | exact ih0 _ _ _ _ _
      | exact words_Solid.mono _ _
      | exact LeO.none _
      | refine LeO.ite ?_ ?_
      | refine LeO.bind ?_ (fun _ => ?_)
theorem keep_texts.mono : ∀ a0 k, LeO (keep_texts.f k a0) (keep_texts.f (k + 1) a0) := by
  intro a0 k
  have ih0 := keep_texts.mono_l k
  unfold keep_texts.f
  repeat' first
      | (with_reducible exact ih0 _ _ _ _ _)
      | (with_reducible exact words_Solid.mono _ _)
      | (with_reducible exact LeO.refl _)
      | (with_reducible exact LeO.none _)
      | (with_reducible refine LeO.ite ?_ ?_)
      | (with_reducible refine LeO.bind ?_ (fun _ => ?_))
      | exact ih0 _ _ _ _ _
      | exact words_Solid.mono _ _
      | exact LeO.none _
      | refine LeO.ite ?_ ?_
      | refine LeO.bind ?_ (fun _ => ?_)
set_option maxHeartbeats 8000000 in
set_option maxRecDepth 100000 in
theorem keep_texts.calls (k : Nat) (A0 : Option Addr) (c0 : Nat) (l0 : List Int) (r : List ByteArray) (w : World) (hr0 : Kd.C (Kd.int .u8) w A0 l0.length l0) (hc0 : l0.length ≤ c0) (h : keep_texts.f k l0 = some r) :
    Calls Try.prog 23 #[.slice A0 l0.length c0] w fun e w' => ∃ v0_ : Value, e = .returned (v0_) ∧ Kd.R Kd.string 9 w' w.heap.size (fun _ => True) v0_ r ∧ Below w.heap.size w w' := by
  have hu33 := Try.underlying33
  have HR0 := Aside0.mk hr0
  have HC0 := Aside0.mk hc0
  clear hr0 hc0
  have HB := Aside0.mk (Below.refl w.heap.size w)
  have H : ((words_Solid.f k l0).bind fun t128 => (keep_texts.l0 k l0 ([] : List ByteArray) t128 (t128.length : Int) 0)) = some r := h
  clear h
  replace H := Option.bind_eq_some_iff.mp H
  obtain ⟨t128, A20, H⟩ := H
  replace H : (keep_texts.l0 k l0 ([] : List ByteArray) t128 (t128.length : Int) 0) = some r := H
  have A2 := Aside0.mk A20
  clear A20
  have H' := Aside0.mk H
  clear H
  go_enter Try.func23, Try.ntmps23
  go_wp2_with (first | ((with_reducible refine gate_callee (f := 21) rfl ?_); refine goesL_ (some 7) rfl rfl Try.func21 (by kernel_rfl) rfl #[.slice A0 l0.length c0] rfl (by (try simp only [List.map_toArray, List.map_cons, List.map_nil]); first | done | rfl | (simp only [List.length_drop, List.length_take]; rfl)) ?_; (with_reducible refine (words_Solid.calls k _ _ l0 t128 _ ?side1 ?side2 A2.out).mono ?_); (case side1 => repeat (first | exact HR0.out | (with_reducible refine Kd.C_alloc ?_ _) | (with_reducible refine Kd.C_drewN ?_ _) | (with_reducible refine Kd.C_drew ?_))); (case side2 => exact HC0.out); rintro e w3 ⟨v129, rfl, ho0, hb⟩; refine ⟨_, rfl, ?_⟩; have n0_ := Aside0.mk (Kd.R_lower ho0 (below_size (by repeat (first | (with_reducible first | exact HB.out | apply below_alloc | apply pw_below_drewN | apply below_drew1) | exact HB.out)))); have n1_ := Aside0.mk (below_step (by repeat (first | (with_reducible first | exact HB.out | apply below_alloc | apply pw_below_drewN | apply below_drew1) | exact HB.out)) hb); clear HB; have HO130 := n0_; have HB := n1_; clear n0_ n1_; (try clear hb); (try clear hb2); (try clear hk); (try clear hi); (try clear ho0); obtain ⟨Ao4, co4, eo4⟩ := Kd.R_slice HO130.out; subst eo4))
  go_loopg [3, 9] k (fun kq v3 v9 w' => ∃ (x3_1 : List ByteArray) (x9_1 : Int), v9 = .int .i64 x9_1 ∧ Aside0 (keep_texts.l0 kq l0 x3_1 t128 (t128.length : Int) x9_1 = some r) ∧ Aside0 (kq ≤ k) ∧ Aside0 (Kd.R Kd.string 9 w' w.heap.size (fun _ => True) v3 x3_1) ∧ Aside0 (Kd.R k33 33 w' w.heap.size (fun _ => True) (.slice Ao4 t128.length co4) t128) ∧ Aside0 (Below w.heap.size w w'))
  case atStart => exact ⟨(([] : List ByteArray)), (0), (by first | rfl | (simp; done) | (simp [*]; done)), H', ⟨Nat.le_refl _⟩, ⟨by first | exact Kd.R_nil _ _ _ _ _ | exact Kd.N_nil _ _ _ _ _ | exact Kd.V_nil _ _ _ _ _ | exact Kd.Q_nil _ _ _ _ _ | exact Kd.S_nil _ _ _ _ _⟩, ⟨by (with_reducible repeat (first | apply Kd.R_alloc | apply Kd.R_drewN | apply Kd.R_drew)); exact HO130.out⟩, ⟨by repeat (first | (with_reducible first | exact HB.out | apply below_alloc | apply pw_below_drewN | apply below_drew1) | exact HB.out)⟩⟩
  case round =>
    clear H'
    try clear c2
    try clear p2
    obtain ⟨x3_1, x9_1, rfl, HA, HK1, HO_3, HO_7, HB⟩ := hrel
    cases gk with
    | zero => exact absurd HA.out (by simp [keep_texts.l0])
    | succ k1 =>
      have H := HA.out
      clear HA
      simp only [keep_texts.l0] at H
      by_cases c5 : x9_1 < (t128.length : Int)
      · rw [if_pos c5] at H
        have c5b0 : decide (x9_1 < (t128.length : Int)) = true := decide_eq_true c5
        clear c5
        by_cases c6 : 0 ≤ x9_1
        · rw [if_pos c6] at H
          have c6b0 : decide (0 ≤ x9_1) = true := decide_eq_true c6
          clear c6
          by_cases c7 : x9_1 < (t128.length : Int)
          · rw [if_pos c7] at H
            have c7b0 : decide (x9_1 < (t128.length : Int)) = true := decide_eq_true c7
            clear c7
            by_cases c8 : 0 ≤ ((rd_T33 t128 x9_1).f0)
            · rw [if_pos c8] at H
              have c8b0 := eq_true c8
              have c8b1 : decide (0 ≤ ((rd_T33 t128 x9_1).f0)) = true := decide_eq_true c8
              clear c8
              by_cases c9 : ((rd_T33 t128 x9_1).f0) ≤ (wrap64 (((rd_T33 t128 x9_1).f0) + ((rd_T33 t128 x9_1).f1)))
              · rw [if_pos c9] at H
                have c9b0 := eq_true c9
                have c9b1 : decide (((rd_T33 t128 x9_1).f0) ≤ (wrap64 (((rd_T33 t128 x9_1).f0) + ((rd_T33 t128 x9_1).f1)))) = true := decide_eq_true c9
                by_cases c10 : (wrap64 (((rd_T33 t128 x9_1).f0) + ((rd_T33 t128 x9_1).f1))) ≤ (l0.length : Int)
                · rw [if_pos c10] at H
                  have c10b0 := eq_true c10
                  have c10b1 : decide ((wrap64 (((rd_T33 t128 x9_1).f0) + ((rd_T33 t128 x9_1).f1))) ≤ (l0.length : Int)) = true := decide_eq_true c10
                  by_cases c11 : x3_1.length < 8796093022208
                  · rw [if_pos c11] at H
                    have LMc11 := Aside0.mk c11
                    clear c11
                    obtain ⟨y134, hy134⟩ : ∃ y_ : List ByteArray, y_ = (x3_1 ++ [strOfNums ((l0.take ((wrap64 (((rd_T33 t128 x9_1).f0) + ((rd_T33 t128 x9_1).f1))) : Int).toNat).drop (((rd_T33 t128 x9_1).f0) : Int).toNat)]) := ⟨_, rfl⟩
                    replace H : (keep_texts.l0 k1 l0 y134 t128 (t128.length : Int) (wrap64 (x9_1 + 1))) = some r := by first | (rw [hy134]; with_reducible exact H) | (have H2_ := (Option.bind_some _ _).symm.trans H; rw [hy134]; with_reducible exact H2_) | (have H2_ := (Option.bind_some _ _).symm.trans H; with_reducible exact H2_) | with_reducible exact H | (rw [hy134]; exact H) | exact H
                    have Ny134 := Aside0.mk hy134
                    clear hy134
                    have H' := Aside0.mk H
                    clear H
                    have p131 : 0 ≤ (x9_1 : Int) := of_decide_eq_true (by first | (with_reducible assumption) | assumption)
                    have q131 : x9_1 < (t128.length : Int) := of_decide_eq_true (by first | (with_reducible assumption) | assumption)
                    obtain ⟨ad131, e131, hx131_0, hx131_1⟩ := at_T33 (Kd.R_reads' HO_7.out).2.2 x9_1 p131 q131
                    cases e131
                    replace p131 := eq_true p131
                    replace q131 := eq_true q131
                    go_wp2_with (first | ((with_reducible refine gate_dst (N := 5) rfl ?_); refine box_event ?hg (N := 5) ?hd (cs := #[.int .i64 0, .int .i64 0]) (t := 33) ?hr ?_; (case hd => rfl); (case hg => rfl); (case hr => first | (go_simp; done) | (go_simp; rfl)); intro gb132 hg w12 hbox hb; have n0_ := Aside0.mk (Kd.R_below (by (with_reducible repeat (first | apply Kd.R_alloc | apply Kd.R_drewN | apply Kd.R_drew)); exact HO_3.out) hb); have n1_ := Aside0.mk (Kd.R_below (Kd.R_elderB (by (with_reducible repeat (first | apply Kd.R_alloc | apply Kd.R_drewN | apply Kd.R_drew)); exact HO_7.out) gb132 (Nat.le_of_eq hg.symm)) hb); have n2_ := Aside0.mk (below_step (by repeat (first | (with_reducible first | exact HB.out | apply below_alloc | apply pw_below_drewN | apply below_drew1) | exact HB.out)) hb); have n3_ := Aside0.mk (hbox); have n4_ := Aside0.mk ((by rw [hg]; exact (below_size (by repeat (first | (with_reducible first | exact HB.out | apply below_alloc | apply pw_below_drewN | apply below_drew1) | exact HB.out))) : w.heap.size ≤ gb132)); have n5_ := Aside0.mk ((by rw [hg]; exact (below_size (by repeat (first | (with_reducible first | exact HB.out | apply below_alloc | apply pw_below_drewN | apply below_drew1) | exact HB.out))) : w.heap.size ≤ gb132)); clear HO_3; clear HO_7; clear HB; have HO_3 := n0_; have HO_7 := n1_; have HB := n2_; have BK132 := n3_; have GW132 := n4_; have GE132 := n5_; clear n0_ n1_ n2_ n3_ n4_ n5_; clear hb hbox hg; have hcz13_0 : w12.cell? ⟨gb132, 0, none⟩ = some (.int .i64 0) := (blk_cell BK132.out 0).trans rfl; have hcz13_1 : w12.cell? ⟨gb132, 1, none⟩ = some (.int .i64 0) := (blk_cell BK132.out 1).trans rfl; have hfz13_0 := blk_frozen BK132.out 0; have hfz13_1 := blk_frozen BK132.out 1; obtain ⟨i014, hi014, _, hsz14, _⟩ := info_parts info5; obtain ⟨A14, hcut14, hA14, hC14⟩ := print_mid_of (P := Try.prog) (Value.int .u8) 0 22 5 .i64 .i64 Try.underlying22 hi014 hsz14 A0 c0 l0 ((rd_T33 t128 x9_1).f0) (wrap64 (((rd_T33 t128 x9_1).f0) + ((rd_T33 t128 x9_1).f1))) (of_decide_eq_true (by first | (with_reducible assumption) | assumption)) (by first | omega | exact of_decide_eq_true (by first | (with_reducible assumption) | assumption)) (of_decide_eq_true (by first | (with_reducible assumption) | assumption)) HC0.out; have HR133 := Aside0.mk (Kd.C_of_reads (h1 := fun _ => rfl) (hA14 _ (Kd.reads_of_C HR0.out))); have HC133 := Aside0.mk hC14; clear hA14 hC14 hi014 hsz14; have hcv15 := Kd.C_string (P := Try.prog) (A := A14) (c := (c0 - ((rd_T33 t128 x9_1).f0).toNat)) Try.underlying22 Try.underlying5 Try.underlying9 (Kd.C_below HR133.out (show Below w.heap.size w ((w12.setCell ⟨gb132, 0, none⟩ (.int .i64 ((rd_T33 t128 x9_1).f0))).setCell ⟨gb132, 1, none⟩ (.int .i64 ((rd_T33 t128 x9_1).f1))) from by repeat (first | (with_reducible first | exact HB.out | apply below_alloc | apply pw_below_drewN | apply below_drew1 | refine below_set ?_ GE132.out) | exact HB.out))); (try (have hcv15b := hcv15; rw [show ((l0.take ((wrap64 (((rd_T33 t128 x9_1).f0) + ((rd_T33 t128 x9_1).f1))) : Int).toNat).drop (((rd_T33 t128 x9_1).f0) : Int).toNat).length = ((wrap64 (((rd_T33 t128 x9_1).f0) + ((rd_T33 t128 x9_1).f1))) : Int).toNat - (((rd_T33 t128 x9_1).f0) : Int).toNat from by simp only [List.length_drop, List.length_take]; omega] at hcv15b))) | ((with_reducible refine gate_builtin (b := .append) (xs := #[.tmp 13, .tmp 24]) rfl ?_); at_builtin; refine Kd.R_append Kd.string (w0 := w) w.heap.size rfl (.tmp 13) (.tmp 24) 38 9 (.string ⟨#[]⟩) 16 rfl Try.underlying38 info9 rfl (by decide) (by omega) u3 x3_1 (strOfNums ((l0.take ((wrap64 (((rd_T33 t128 x9_1).f0) + ((rd_T33 t128 x9_1).f1))) : Int).toNat).drop (((rd_T33 t128 x9_1).f0) : Int).toNat)) [.string (strOfNums ((l0.take ((wrap64 (((rd_T33 t128 x9_1).f0) + ((rd_T33 t128 x9_1).f1))) : Int).toNat).drop (((rd_T33 t128 x9_1).f0) : Int).toNat))] (fun _ => True) (fun _ => False) rfl (by first | (go_simp; done) | (go_simp; rfl)) ?aP (fun _ hk => hk.elim) ?aF ?aO ?aB ?aS ?aL ?_; (case aP => exact rfl); (case aB => exact (by repeat (first | (with_reducible first | exact HB.out | apply below_alloc | apply pw_below_drewN | apply below_drew1 | refine below_set ?_ GE132.out) | exact HB.out))); (case aF => exact (fun _ _ => trivial)); (case aO => exact (by (with_reducible repeat (first | apply Kd.R_alloc | apply Kd.R_drewN | apply Kd.R_drew)); exact Kd.R_mono (Kd.R_far (p := ⟨gb132, 1, none⟩) (Kd.R_far (p := ⟨gb132, 0, none⟩) (Kd.R_types HO_3.out BK132.out (by decide)) (fun _ hk => hk.2) (.int .i64 ((rd_T33 t128 x9_1).f0))) (fun _ hk => hk.2) (.int .i64 ((rd_T33 t128 x9_1).f1))) (fun _ hk => trivial))); (case aS => exact (below_size (by repeat (first | (with_reducible first | exact HB.out | apply below_alloc | apply pw_below_drewN | apply below_drew1 | refine below_set ?_ GE132.out) | exact HB.out)))); (case aL => have := LMc11.out; omega); intro v135 w16 ho hb hg hat; rw [← Ny134.out] at ho; have n0_ := Aside0.mk (Kd.R_over' (by (with_reducible repeat (first | apply Kd.R_alloc | apply Kd.R_drewN | apply Kd.R_drew)); exact (Kd.R_mono (Kd.R_far (p := ⟨gb132, 1, none⟩) (Kd.R_far (p := ⟨gb132, 0, none⟩) (Kd.R_mono HO_7.out (fun k_ hk => (⟨hk, hk.2⟩ : _ ∧ k_ ≠ gb132))) (fun _ hk => hk.2) (.int .i64 ((rd_T33 t128 x9_1).f0))) (fun _ hk => hk.2) (.int .i64 ((rd_T33 t128 x9_1).f1))) (fun _ h_ => h_.1))) (Kd.R_typed (by (with_reducible repeat (first | apply Kd.R_alloc | apply Kd.R_drewN | apply Kd.R_drew)); exact (Kd.R_mono (Kd.R_far (p := ⟨gb132, 1, none⟩) (Kd.R_far (p := ⟨gb132, 0, none⟩) (Kd.R_types HO_3.out BK132.out (by decide)) (fun _ hk => hk.2) (.int .i64 ((rd_T33 t128 x9_1).f0))) (fun _ hk => hk.2) (.int .i64 ((rd_T33 t128 x9_1).f1))) (fun _ h_ => h_.1)))) (by decide) hg); have n1_ := Aside0.mk (blk_grown (g := gb132) (o := .cells #[.int .i64 ((rd_T33 t128 x9_1).f0), .int .i64 ((rd_T33 t128 x9_1).f1)] 33 (0, 0)) (by (with_reducible repeat (first | refine blk_drewN ?_ _ | refine blk_drew ?_ | refine blk_alloc ?_ _)); refine blk_put (cs := #[.int .i64 ((rd_T33 t128 x9_1).f0), .int .i64 0]) ?_ 1 _ rfl; (with_reducible repeat (first | refine blk_drewN ?_ _ | refine blk_drew ?_ | refine blk_alloc ?_ _)); refine blk_put (cs := #[.int .i64 0, .int .i64 0]) ?_ 0 _ rfl; (with_reducible repeat (first | refine blk_drewN ?_ _ | refine blk_drew ?_ | refine blk_alloc ?_ _)); exact BK132.out) hg (Kd.R_ne HO_3.out BK132.out (by decide))); have n2_ := Aside0.mk (hb); have n3_ := Aside0.mk (ho); clear HO_7; clear BK132; clear HB; clear HO_3; have HO_7 := n0_; have BK132 := n1_; have HB := n2_; have HO136 := n3_; clear n0_ n1_ n2_ n3_; clear ho hb hg hat))
                    go_roundg k1
                    case measure => have := HK1.out; omega
                    case rel => exact ⟨(y134), (wrap64 (x9_1 + 1)), (by first | rfl | (simp; done) | (simp [*]; done)), H', ⟨by have := HK1.out; omega⟩, ⟨by (with_reducible repeat (first | apply Kd.R_alloc | apply Kd.R_drewN | apply Kd.R_drew)); exact HO136.out⟩, ⟨by (with_reducible repeat (first | apply Kd.R_alloc | apply Kd.R_drewN | apply Kd.R_drew)); exact Kd.R_mono HO_7.out (fun _ hk => trivial)⟩, ⟨by repeat (first | (with_reducible first | exact HB.out | apply below_alloc | apply pw_below_drewN | apply below_drew1 | refine below_set ?_ GE132.out) | exact HB.out)⟩⟩
                  · rw [if_neg c11] at H
                    exact absurd H (by simp)
                · rw [if_neg c10] at H
                  exact absurd H (by simp)
              · rw [if_neg c9] at H
                exact absurd H (by simp)
            · rw [if_neg c8] at H
              exact absurd H (by simp)
          · rw [if_neg c7] at H
            exact absurd H (by simp)
        · rw [if_neg c6] at H
          exact absurd H (by simp)
      · rw [if_neg c5] at H
        have c5b0 : decide (x9_1 < (t128.length : Int)) = false := decide_eq_false c5
        clear c5
        obtain rfl := Option.some.inj H
        go_wp2
        go_ret
        exact ⟨_, by first | rfl | (simp [errW_none, errW_some] <;> rfl) | (simp [*, errW_none, errW_some] <;> rfl), by (with_reducible repeat (first | apply Kd.R_alloc | apply Kd.R_drewN | apply Kd.R_drew)); exact HO_3.out, by repeat (first | (with_reducible first | exact HB.out | apply below_alloc | apply pw_below_drewN | apply below_drew1) | exact HB.out)⟩

/-! ### keep_Alike: function 15 -/
def keep_Alike.f (k : Nat) (l0 : List Int) (l1 : List Int) : Option (Bool) := (keep_texts.f k l0).bind fun t137 => ((keep_texts.f k l1).bind fun t140 => ((keep_same_string.f k t137 t140).bind fun t143 => (some t143)))
theorem keep_Alike.mono : ∀ a0 a1 k, LeO (keep_Alike.f k a0 a1) (keep_Alike.f (k + 1) a0 a1) := by
  intro a0 a1 k
  unfold keep_Alike.f
  repeat' first
      | (with_reducible exact keep_same_string.mono _ _ _)
      | (with_reducible exact keep_texts.mono _ _)
      | (with_reducible exact LeO.refl _)
      | (with_reducible exact LeO.none _)
      | (with_reducible refine LeO.ite ?_ ?_)
      | (with_reducible refine LeO.bind ?_ (fun _ => ?_))
      | exact keep_same_string.mono _ _ _
      | exact keep_texts.mono _ _
      | exact LeO.none _
      | refine LeO.ite ?_ ?_
      | refine LeO.bind ?_ (fun _ => ?_)
set_option maxHeartbeats 8000000 in
set_option maxRecDepth 100000 in
theorem keep_Alike.calls (k : Nat) (A0 : Option Addr) (c0 : Nat) (l0 : List Int) (A1 : Option Addr) (c1 : Nat) (l1 : List Int) (r : Bool) (w : World) (hr0 : Kd.C (Kd.int .u8) w A0 l0.length l0) (hc0 : l0.length ≤ c0) (hr1 : Kd.C (Kd.int .u8) w A1 l1.length l1) (hc1 : l1.length ≤ c1) (h : keep_Alike.f k l0 l1 = some r) :
    Calls Try.prog 15 #[.slice A0 l0.length c0, .slice A1 l1.length c1] w fun e w' => e = .returned (.bool r) ∧ Below w.heap.size w w' := by
  have HR0 := Aside0.mk hr0
  have HC0 := Aside0.mk hc0
  clear hr0 hc0
  have HR1 := Aside0.mk hr1
  have HC1 := Aside0.mk hc1
  clear hr1 hc1
  have HB := Aside0.mk (Below.refl w.heap.size w)
  have H : ((keep_texts.f k l0).bind fun t137 => ((keep_texts.f k l1).bind fun t140 => ((keep_same_string.f k t137 t140).bind fun t143 => (some t143)))) = some r := h
  clear h
  replace H := Option.bind_eq_some_iff.mp H
  obtain ⟨t137, A30, H⟩ := H
  replace H : ((keep_texts.f k l1).bind fun t140 => ((keep_same_string.f k t137 t140).bind fun t143 => (some t143))) = some r := H
  have A3 := Aside0.mk A30
  clear A30
  replace H := Option.bind_eq_some_iff.mp H
  obtain ⟨t140, A40, H⟩ := H
  replace H : ((keep_same_string.f k t137 t140).bind fun t143 => (some t143)) = some r := H
  have A4 := Aside0.mk A40
  clear A40
  replace H := Option.bind_eq_some_iff.mp H
  obtain ⟨t143, A50, H⟩ := H
  replace H : (some t143) = some r := H
  have A5 := Aside0.mk A50
  clear A50
  obtain rfl := Option.some.inj H
  go_enter Try.func15, Try.ntmps15
  go_wp2_with (first | ((with_reducible refine gate_callee (f := 23) rfl ?_); refine goesL_ (some 6) rfl rfl Try.func23 (by kernel_rfl) rfl #[.slice A0 l0.length c0] rfl (by (try simp only [List.map_toArray, List.map_cons, List.map_nil]); first | done | rfl | (simp only [List.length_drop, List.length_take]; rfl)) ?_; (with_reducible refine (keep_texts.calls k _ _ l0 t137 _ ?side1 ?side2 A3.out).mono ?_); (case side1 => repeat (first | exact HR0.out | (with_reducible refine Kd.C_alloc ?_ _) | (with_reducible refine Kd.C_drewN ?_ _) | (with_reducible refine Kd.C_drew ?_))); (case side2 => exact HC0.out); rintro e w6 ⟨v138, rfl, ho0, hb⟩; refine ⟨_, rfl, ?_⟩; have n0_ := Aside0.mk (Kd.R_lower ho0 (below_size (by repeat (first | (with_reducible first | exact HB.out | apply below_alloc | apply pw_below_drewN | apply below_drew1) | exact HB.out)))); have n1_ := Aside0.mk (below_step (by repeat (first | (with_reducible first | exact HB.out | apply below_alloc | apply pw_below_drewN | apply below_drew1) | exact HB.out)) hb); clear HB; have HO139 := n0_; have HB := n1_; clear n0_ n1_; (try clear hb); (try clear hb2); (try clear hk); (try clear hi); (try clear ho0)) | ((with_reducible refine gate_callee (f := 23) rfl ?_); refine goesL_ (some 8) rfl rfl Try.func23 (by kernel_rfl) rfl #[.slice A1 l1.length c1] rfl (by (try simp only [List.map_toArray, List.map_cons, List.map_nil]); first | done | rfl | (simp only [List.length_drop, List.length_take]; rfl)) ?_; (with_reducible refine (keep_texts.calls k _ _ l1 t140 _ ?side1 ?side2 A4.out).mono ?_); (case side1 => repeat (first | exact (Kd.C_below HR1.out HB.out) | (with_reducible refine Kd.C_alloc ?_ _) | (with_reducible refine Kd.C_drewN ?_ _) | (with_reducible refine Kd.C_drew ?_))); (case side2 => exact HC1.out); rintro e w7 ⟨v141, rfl, ho0, hb⟩; refine ⟨_, rfl, ?_⟩; have n0_ := Aside0.mk (Kd.R_elder' (by (with_reducible repeat (first | apply Kd.R_alloc | apply Kd.R_drewN | apply Kd.R_drew)); exact HO139.out) (Kd.R_base ho0) hb); have n1_ := Aside0.mk (Kd.R_lower (Kd.R_new' ho0 (Kd.R_lt (by (with_reducible repeat (first | apply Kd.R_alloc | apply Kd.R_drewN | apply Kd.R_drew)); exact HO139.out))) (below_size (by repeat (first | (with_reducible first | exact HB.out | apply below_alloc | apply pw_below_drewN | apply below_drew1) | exact HB.out)))); have n2_ := Aside0.mk (below_step (by repeat (first | (with_reducible first | exact HB.out | apply below_alloc | apply pw_below_drewN | apply below_drew1) | exact HB.out)) hb); clear HO139; clear HB; have HO139 := n0_; have HO142 := n1_; have HB := n2_; clear n0_ n1_ n2_; (try clear hb); (try clear hb2); (try clear hk); (try clear hi); (try clear ho0); obtain ⟨Ao8, co8, eo8⟩ := Kd.R_slice HO139.out; subst eo8; obtain ⟨Ao9, co9, eo9⟩ := Kd.R_slice HO142.out; subst eo9) | ((with_reducible refine gate_callee (f := 22) rfl ?_); refine goesL_ (some 9) rfl rfl Try.func22 (by kernel_rfl) rfl #[.slice Ao8 t137.length co8, .slice Ao9 t140.length co9] rfl (by (try simp only [List.map_toArray, List.map_cons, List.map_nil]); first | done | rfl | (simp only [List.length_drop, List.length_take]; rfl)) ?_; (with_reducible refine (keep_same_string.calls k _ _ t137 _ _ t140 t143 _ ?side1 ?side2 ?side3 ?side4 A5.out).mono ?_); (case side1 => repeat (first | exact (Kd.R_reads' HO139.out).2.2 | (with_reducible refine Kd.C_alloc ?_ _) | (with_reducible refine Kd.C_drewN ?_ _) | (with_reducible refine Kd.C_drew ?_))); (case side2 => exact (Kd.R_reads' HO139.out).2.1); (case side3 => repeat (first | exact (Kd.R_reads' HO142.out).2.2 | (with_reducible refine Kd.C_alloc ?_ _) | (with_reducible refine Kd.C_drewN ?_ _) | (with_reducible refine Kd.C_drew ?_))); (case side4 => exact (Kd.R_reads' HO142.out).2.1); rintro e w' ⟨rfl, ⟨nd, rfl⟩⟩; refine ⟨_, rfl, ?_⟩))
  go_ret
  exact ⟨by first | rfl | (simp [errW_none, errW_some] <;> rfl) | (simp [*, errW_none, errW_some] <;> rfl), by repeat (first | (with_reducible first | exact HB.out | apply below_alloc | apply pw_below_drewN | apply below_drew1) | exact HB.out)⟩

/-! ### platenlaw18_kept: function 9 -/
def platenlaw18_kept.f (k : Nat)  : Option (Bool) := (keep_Solid.f k 1 (([97, 32, 98] : List Int)) (([97, 32, 32, 32, 98] : List Int))).bind fun t150 => (if t150 = 4 then ((keep_Solid.f k 2 (([97, 32, 98] : List Int)) (([97, 32, 32, 32, 98] : List Int))).bind fun t157 => (if t157 = 4 then ((keep_Alike.f k (([97, 32, 98] : List Int)) (([97, 10, 98] : List Int))).bind fun t164 => (if t164 = true then ((keep_Alike.f k (([97, 98] : List Int)) (([97, 32, 98] : List Int))).bind fun t171 => (some (!t171))) else (some false))) else (some false))) else (some false))
theorem platenlaw18_kept.mono : ∀ k, LeO (platenlaw18_kept.f k ) (platenlaw18_kept.f (k + 1) ) := by
  intro  k
  unfold platenlaw18_kept.f
  repeat' first
      | (with_reducible exact keep_Alike.mono _ _ _)
      | (with_reducible exact keep_Solid.mono _ _ _ _)
      | (with_reducible exact LeO.refl _)
      | (with_reducible exact LeO.none _)
      | (with_reducible refine LeO.ite ?_ ?_)
      | (with_reducible refine LeO.bind ?_ (fun _ => ?_))
      | exact keep_Alike.mono _ _ _
      | exact keep_Solid.mono _ _ _ _
      | exact LeO.none _
      | refine LeO.ite ?_ ?_
      | refine LeO.bind ?_ (fun _ => ?_)
set_option maxHeartbeats 8000000 in
set_option maxRecDepth 100000 in
theorem platenlaw18_kept.calls (k : Nat)  (r : Bool) (w : World) (h : platenlaw18_kept.f k  = some r) :
    Calls Try.prog 9 #[] w fun e w' => e = .returned (.bool r) ∧ Below w.heap.size w w' := by
  have HB := Aside0.mk (Below.refl w.heap.size w)
  have H : ((keep_Solid.f k 1 (([97, 32, 98] : List Int)) (([97, 32, 32, 32, 98] : List Int))).bind fun t150 => (if t150 = 4 then ((keep_Solid.f k 2 (([97, 32, 98] : List Int)) (([97, 32, 32, 32, 98] : List Int))).bind fun t157 => (if t157 = 4 then ((keep_Alike.f k (([97, 32, 98] : List Int)) (([97, 10, 98] : List Int))).bind fun t164 => (if t164 = true then ((keep_Alike.f k (([97, 98] : List Int)) (([97, 32, 98] : List Int))).bind fun t171 => (some (!t171))) else (some false))) else (some false))) else (some false))) = some r := h
  clear h
  obtain ⟨y144, hy144⟩ : ∃ y_ : List Int, y_ = (([97, 32, 98] : List Int)) := ⟨_, rfl⟩
  replace H : ((keep_Solid.f k 1 y144 (([97, 32, 32, 32, 98] : List Int))).bind fun t150 => (if t150 = 4 then ((keep_Solid.f k 2 (([97, 32, 98] : List Int)) (([97, 32, 32, 32, 98] : List Int))).bind fun t157 => (if t157 = 4 then ((keep_Alike.f k (([97, 32, 98] : List Int)) (([97, 10, 98] : List Int))).bind fun t164 => (if t164 = true then ((keep_Alike.f k (([97, 98] : List Int)) (([97, 32, 98] : List Int))).bind fun t171 => (some (!t171))) else (some false))) else (some false))) else (some false))) = some r := by first | (rw [hy144]; with_reducible exact H) | (have H2_ := (Option.bind_some _ _).symm.trans H; rw [hy144]; with_reducible exact H2_) | (have H2_ := (Option.bind_some _ _).symm.trans H; with_reducible exact H2_) | with_reducible exact H | (rw [hy144]; exact H) | exact H
  have Ny144 := Aside0.mk hy144
  clear hy144
  obtain ⟨y147, hy147⟩ : ∃ y_ : List Int, y_ = (([97, 32, 32, 32, 98] : List Int)) := ⟨_, rfl⟩
  replace H : ((keep_Solid.f k 1 y144 y147).bind fun t150 => (if t150 = 4 then ((keep_Solid.f k 2 (([97, 32, 98] : List Int)) (([97, 32, 32, 32, 98] : List Int))).bind fun t157 => (if t157 = 4 then ((keep_Alike.f k (([97, 32, 98] : List Int)) (([97, 10, 98] : List Int))).bind fun t164 => (if t164 = true then ((keep_Alike.f k (([97, 98] : List Int)) (([97, 32, 98] : List Int))).bind fun t171 => (some (!t171))) else (some false))) else (some false))) else (some false))) = some r := by first | (rw [hy147]; with_reducible exact H) | (have H2_ := (Option.bind_some _ _).symm.trans H; rw [hy147]; with_reducible exact H2_) | (have H2_ := (Option.bind_some _ _).symm.trans H; with_reducible exact H2_) | with_reducible exact H | (rw [hy147]; exact H) | exact H
  have Ny147 := Aside0.mk hy147
  clear hy147
  replace H := Option.bind_eq_some_iff.mp H
  obtain ⟨t150, A10, H⟩ := H
  replace H : (if t150 = 4 then ((keep_Solid.f k 2 (([97, 32, 98] : List Int)) (([97, 32, 32, 32, 98] : List Int))).bind fun t157 => (if t157 = 4 then ((keep_Alike.f k (([97, 32, 98] : List Int)) (([97, 10, 98] : List Int))).bind fun t164 => (if t164 = true then ((keep_Alike.f k (([97, 98] : List Int)) (([97, 32, 98] : List Int))).bind fun t171 => (some (!t171))) else (some false))) else (some false))) else (some false)) = some r := H
  have A1 := Aside0.mk A10
  clear A10
  by_cases c2 : t150 = 4
  · rw [if_pos c2] at H
    have c2b0 : (t150 == 4) = true := beq_iff_eq.mpr c2
    have c2b1 : (t150 != 4) = false := bne_eq_false_iff_eq.mpr c2
    clear c2
    obtain ⟨y151, hy151⟩ : ∃ y_ : List Int, y_ = (([97, 32, 98] : List Int)) := ⟨_, rfl⟩
    replace H : ((keep_Solid.f k 2 y151 (([97, 32, 32, 32, 98] : List Int))).bind fun t157 => (if t157 = 4 then ((keep_Alike.f k (([97, 32, 98] : List Int)) (([97, 10, 98] : List Int))).bind fun t164 => (if t164 = true then ((keep_Alike.f k (([97, 98] : List Int)) (([97, 32, 98] : List Int))).bind fun t171 => (some (!t171))) else (some false))) else (some false))) = some r := by first | (rw [hy151]; with_reducible exact H) | (have H2_ := (Option.bind_some _ _).symm.trans H; rw [hy151]; with_reducible exact H2_) | (have H2_ := (Option.bind_some _ _).symm.trans H; with_reducible exact H2_) | with_reducible exact H | (rw [hy151]; exact H) | exact H
    have Ny151 := Aside0.mk hy151
    clear hy151
    obtain ⟨y154, hy154⟩ : ∃ y_ : List Int, y_ = (([97, 32, 32, 32, 98] : List Int)) := ⟨_, rfl⟩
    replace H : ((keep_Solid.f k 2 y151 y154).bind fun t157 => (if t157 = 4 then ((keep_Alike.f k (([97, 32, 98] : List Int)) (([97, 10, 98] : List Int))).bind fun t164 => (if t164 = true then ((keep_Alike.f k (([97, 98] : List Int)) (([97, 32, 98] : List Int))).bind fun t171 => (some (!t171))) else (some false))) else (some false))) = some r := by first | (rw [hy154]; with_reducible exact H) | (have H2_ := (Option.bind_some _ _).symm.trans H; rw [hy154]; with_reducible exact H2_) | (have H2_ := (Option.bind_some _ _).symm.trans H; with_reducible exact H2_) | with_reducible exact H | (rw [hy154]; exact H) | exact H
    have Ny154 := Aside0.mk hy154
    clear hy154
    replace H := Option.bind_eq_some_iff.mp H
    obtain ⟨t157, A30, H⟩ := H
    replace H : (if t157 = 4 then ((keep_Alike.f k (([97, 32, 98] : List Int)) (([97, 10, 98] : List Int))).bind fun t164 => (if t164 = true then ((keep_Alike.f k (([97, 98] : List Int)) (([97, 32, 98] : List Int))).bind fun t171 => (some (!t171))) else (some false))) else (some false)) = some r := H
    have A3 := Aside0.mk A30
    clear A30
    by_cases c4 : t157 = 4
    · rw [if_pos c4] at H
      have c4b0 : (t157 == 4) = true := beq_iff_eq.mpr c4
      have c4b1 : (t157 != 4) = false := bne_eq_false_iff_eq.mpr c4
      clear c4
      obtain ⟨y158, hy158⟩ : ∃ y_ : List Int, y_ = (([97, 32, 98] : List Int)) := ⟨_, rfl⟩
      replace H : ((keep_Alike.f k y158 (([97, 10, 98] : List Int))).bind fun t164 => (if t164 = true then ((keep_Alike.f k (([97, 98] : List Int)) (([97, 32, 98] : List Int))).bind fun t171 => (some (!t171))) else (some false))) = some r := by first | (rw [hy158]; with_reducible exact H) | (have H2_ := (Option.bind_some _ _).symm.trans H; rw [hy158]; with_reducible exact H2_) | (have H2_ := (Option.bind_some _ _).symm.trans H; with_reducible exact H2_) | with_reducible exact H | (rw [hy158]; exact H) | exact H
      have Ny158 := Aside0.mk hy158
      clear hy158
      obtain ⟨y161, hy161⟩ : ∃ y_ : List Int, y_ = (([97, 10, 98] : List Int)) := ⟨_, rfl⟩
      replace H : ((keep_Alike.f k y158 y161).bind fun t164 => (if t164 = true then ((keep_Alike.f k (([97, 98] : List Int)) (([97, 32, 98] : List Int))).bind fun t171 => (some (!t171))) else (some false))) = some r := by first | (rw [hy161]; with_reducible exact H) | (have H2_ := (Option.bind_some _ _).symm.trans H; rw [hy161]; with_reducible exact H2_) | (have H2_ := (Option.bind_some _ _).symm.trans H; with_reducible exact H2_) | with_reducible exact H | (rw [hy161]; exact H) | exact H
      have Ny161 := Aside0.mk hy161
      clear hy161
      replace H := Option.bind_eq_some_iff.mp H
      obtain ⟨t164, A50, H⟩ := H
      replace H : (if t164 = true then ((keep_Alike.f k (([97, 98] : List Int)) (([97, 32, 98] : List Int))).bind fun t171 => (some (!t171))) else (some false)) = some r := H
      have A5 := Aside0.mk A50
      clear A50
      by_cases c6 : t164 = true
      · subst c6
        have H1 : ((keep_Alike.f k (([97, 98] : List Int)) (([97, 32, 98] : List Int))).bind fun t171 => (some (!t171))) = some r := by rw [if_pos rfl] at H; exact H
        clear H
        have H := H1
        clear H1
        obtain ⟨y165, hy165⟩ : ∃ y_ : List Int, y_ = (([97, 98] : List Int)) := ⟨_, rfl⟩
        replace H : ((keep_Alike.f k y165 (([97, 32, 98] : List Int))).bind fun t171 => (some (!t171))) = some r := by first | (rw [hy165]; with_reducible exact H) | (have H2_ := (Option.bind_some _ _).symm.trans H; rw [hy165]; with_reducible exact H2_) | (have H2_ := (Option.bind_some _ _).symm.trans H; with_reducible exact H2_) | with_reducible exact H | (rw [hy165]; exact H) | exact H
        have Ny165 := Aside0.mk hy165
        clear hy165
        obtain ⟨y168, hy168⟩ : ∃ y_ : List Int, y_ = (([97, 32, 98] : List Int)) := ⟨_, rfl⟩
        replace H : ((keep_Alike.f k y165 y168).bind fun t171 => (some (!t171))) = some r := by first | (rw [hy168]; with_reducible exact H) | (have H2_ := (Option.bind_some _ _).symm.trans H; rw [hy168]; with_reducible exact H2_) | (have H2_ := (Option.bind_some _ _).symm.trans H; with_reducible exact H2_) | with_reducible exact H | (rw [hy168]; exact H) | exact H
        have Ny168 := Aside0.mk hy168
        clear hy168
        replace H := Option.bind_eq_some_iff.mp H
        obtain ⟨t171, A70, H⟩ := H
        replace H : (some (!t171)) = some r := H
        have A7 := Aside0.mk A70
        clear A70
        obtain rfl := Option.some.inj H
        go_enter Try.func9, Try.ntmps9
        go_wp2_with (first | ((with_reducible refine gate_dst (N := 2) rfl ?_); (try (refine gate_guard (by rfl) ?_; dsimp only)); refine V_mark 5 22 ?hg (N := 2) ?hd (.tmp 1) ?ho Try.underlying22 Try.underlying5 (xs := ([97, 32, 98] : List Int)) ?hx ?hi (by simp) ?_; (case hd => rfl); (case hg => rfl); (case ho => rfl); (case hx => first | rfl | (go_simp; done) | (go_simp; rfl)); (case hi => rfl); intro v145 w8 ho9 hb hg_ hnew_; clear hg_ hnew_; (first | rw [← Ny144.out] at ho9 | (simp only [Int.reduceToNat] at ho9; rw [← Ny144.out] at ho9)); have n0_ := Aside0.mk (Kd.V_lower (Kd.V_mono (ok' := fun k_ => True) ho9 (fun k_ hk_ => trivial)) (below_size (by repeat (first | (with_reducible first | exact HB.out | apply below_alloc | apply pw_below_drewN | apply below_drew1) | exact HB.out)))); have n1_ := Aside0.mk (below_step (by repeat (first | (with_reducible first | exact HB.out | apply below_alloc | apply pw_below_drewN | apply below_drew1) | exact HB.out)) hb); clear HB; have HO146 := n0_; have HB := n1_; clear n0_ n1_; clear hb ho9) | ((with_reducible refine gate_dst (N := 4) rfl ?_); (try (refine gate_guard (by rfl) ?_; dsimp only)); refine V_mark 5 22 ?hg (N := 4) ?hd (.tmp 3) ?ho Try.underlying22 Try.underlying5 (xs := ([97, 32, 32, 32, 98] : List Int)) ?hx ?hi (by simp) ?_; (case hd => rfl); (case hg => rfl); (case ho => rfl); (case hx => first | rfl | (go_simp; done) | (go_simp; rfl)); (case hi => rfl); intro v148 w10 ho11 hb hg_ hnew_; clear hg_ hnew_; (first | rw [← Ny147.out] at ho11 | (simp only [Int.reduceToNat] at ho11; rw [← Ny147.out] at ho11)); have n0_ := Aside0.mk (Kd.V_below (by (with_reducible repeat (first | apply Kd.V_alloc | apply Kd.V_drewN | apply Kd.V_drew)); exact HO146.out) hb); have n1_ := Aside0.mk (Kd.V_lower (Kd.V_mono (ok' := fun k_ => True) ho11 (fun k_ hk_ => trivial)) (below_size (by repeat (first | (with_reducible first | exact HB.out | apply below_alloc | apply pw_below_drewN | apply below_drew1) | exact HB.out)))); have n2_ := Aside0.mk (below_step (by repeat (first | (with_reducible first | exact HB.out | apply below_alloc | apply pw_below_drewN | apply below_drew1) | exact HB.out)) hb); clear HO146; clear HB; have HO146 := n0_; have HO149 := n1_; have HB := n2_; clear n0_ n1_ n2_; clear hb ho11; obtain ⟨Ao12, co12, eo12⟩ := Kd.V_slice HO146.out; subst eo12; obtain ⟨Ao13, co13, eo13⟩ := Kd.V_slice HO149.out; subst eo13) | ((with_reducible refine gate_callee (f := 13) rfl ?_); refine goesL_ (some 5) rfl rfl Try.func13 (by kernel_rfl) rfl #[.int .i64 1, .slice Ao12 y144.length co12, .slice Ao13 y147.length co13] rfl (by (try simp only [List.map_toArray, List.map_cons, List.map_nil]); first | done | rfl | (simp only [List.length_drop, List.length_take]; rfl)) ?_; (with_reducible refine (keep_Solid.calls k 1 _ _ y144 _ _ y147 t150 _ ?side1 ?side2 ?side3 ?side4 A1.out).mono ?_); (case side1 => repeat (first | exact (Kd.V_reads' HO146.out).2.2 | (with_reducible refine Kd.C_alloc ?_ _) | (with_reducible refine Kd.C_drewN ?_ _) | (with_reducible refine Kd.C_drew ?_))); (case side2 => exact (Kd.V_reads' HO146.out).2.1); (case side3 => repeat (first | exact (Kd.V_reads' HO149.out).2.2 | (with_reducible refine Kd.C_alloc ?_ _) | (with_reducible refine Kd.C_drewN ?_ _) | (with_reducible refine Kd.C_drew ?_))); (case side4 => exact (Kd.V_reads' HO149.out).2.1); rintro e w14 ⟨rfl, hb⟩; refine ⟨_, rfl, ?_⟩; have n0_ := Aside0.mk (Kd.V_below (by (with_reducible repeat (first | apply Kd.V_alloc | apply Kd.V_drewN | apply Kd.V_drew)); exact HO146.out) hb); have n1_ := Aside0.mk (Kd.V_below (by (with_reducible repeat (first | apply Kd.V_alloc | apply Kd.V_drewN | apply Kd.V_drew)); exact HO149.out) hb); have n2_ := Aside0.mk (below_step (by repeat (first | (with_reducible first | exact HB.out | apply below_alloc | apply pw_below_drewN | apply below_drew1) | exact HB.out)) hb); clear HO146; clear HO149; clear HB; have HO146 := n0_; have HO149 := n1_; have HB := n2_; clear n0_ n1_ n2_; (try clear hb); (try clear hb2); (try clear hk); (try clear hi)) | ((with_reducible refine gate_dst (N := 9) rfl ?_); (try (refine gate_guard (by rfl) ?_; dsimp only)); refine V_mark 5 22 ?hg (N := 9) ?hd (.tmp 8) ?ho Try.underlying22 Try.underlying5 (xs := ([97, 32, 98] : List Int)) ?hx ?hi (by simp) ?_; (case hd => rfl); (case hg => rfl); (case ho => rfl); (case hx => first | rfl | (go_simp; done) | (go_simp; rfl)); (case hi => rfl); intro v152 w15 ho16 hb hg_ hnew_; clear hg_ hnew_; (first | rw [← Ny151.out] at ho16 | (simp only [Int.reduceToNat] at ho16; rw [← Ny151.out] at ho16)); have n0_ := Aside0.mk (Kd.V_below (by (with_reducible repeat (first | apply Kd.V_alloc | apply Kd.V_drewN | apply Kd.V_drew)); exact HO146.out) hb); have n1_ := Aside0.mk (Kd.V_below (by (with_reducible repeat (first | apply Kd.V_alloc | apply Kd.V_drewN | apply Kd.V_drew)); exact HO149.out) hb); have n2_ := Aside0.mk (Kd.V_lower (Kd.V_mono (ok' := fun k_ => True) ho16 (fun k_ hk_ => trivial)) (below_size (by repeat (first | (with_reducible first | exact HB.out | apply below_alloc | apply pw_below_drewN | apply below_drew1) | exact HB.out)))); have n3_ := Aside0.mk (below_step (by repeat (first | (with_reducible first | exact HB.out | apply below_alloc | apply pw_below_drewN | apply below_drew1) | exact HB.out)) hb); clear HO146; clear HO149; clear HB; have HO146 := n0_; have HO149 := n1_; have HO153 := n2_; have HB := n3_; clear n0_ n1_ n2_ n3_; clear hb ho16) | ((with_reducible refine gate_dst (N := 11) rfl ?_); (try (refine gate_guard (by rfl) ?_; dsimp only)); refine V_mark 5 22 ?hg (N := 11) ?hd (.tmp 10) ?ho Try.underlying22 Try.underlying5 (xs := ([97, 32, 32, 32, 98] : List Int)) ?hx ?hi (by simp) ?_; (case hd => rfl); (case hg => rfl); (case ho => rfl); (case hx => first | rfl | (go_simp; done) | (go_simp; rfl)); (case hi => rfl); intro v155 w17 ho18 hb hg_ hnew_; clear hg_ hnew_; (first | rw [← Ny154.out] at ho18 | (simp only [Int.reduceToNat] at ho18; rw [← Ny154.out] at ho18)); have n0_ := Aside0.mk (Kd.V_below (by (with_reducible repeat (first | apply Kd.V_alloc | apply Kd.V_drewN | apply Kd.V_drew)); exact HO146.out) hb); have n1_ := Aside0.mk (Kd.V_below (by (with_reducible repeat (first | apply Kd.V_alloc | apply Kd.V_drewN | apply Kd.V_drew)); exact HO149.out) hb); have n2_ := Aside0.mk (Kd.V_below (by (with_reducible repeat (first | apply Kd.V_alloc | apply Kd.V_drewN | apply Kd.V_drew)); exact HO153.out) hb); have n3_ := Aside0.mk (Kd.V_lower (Kd.V_mono (ok' := fun k_ => True) ho18 (fun k_ hk_ => trivial)) (below_size (by repeat (first | (with_reducible first | exact HB.out | apply below_alloc | apply pw_below_drewN | apply below_drew1) | exact HB.out)))); have n4_ := Aside0.mk (below_step (by repeat (first | (with_reducible first | exact HB.out | apply below_alloc | apply pw_below_drewN | apply below_drew1) | exact HB.out)) hb); clear HO146; clear HO149; clear HO153; clear HB; have HO146 := n0_; have HO149 := n1_; have HO153 := n2_; have HO156 := n3_; have HB := n4_; clear n0_ n1_ n2_ n3_ n4_; clear hb ho18; obtain ⟨Ao19, co19, eo19⟩ := Kd.V_slice HO153.out; subst eo19; obtain ⟨Ao20, co20, eo20⟩ := Kd.V_slice HO156.out; subst eo20) | (go_at_call 13; (with_reducible refine (keep_Solid.calls k 2 _ _ y151 _ _ y154 t157 _ ?side1 ?side2 ?side3 ?side4 A3.out).mono ?_); (case side1 => repeat (first | exact (Kd.V_reads' HO153.out).2.2 | (with_reducible refine Kd.C_alloc ?_ _) | (with_reducible refine Kd.C_drewN ?_ _) | (with_reducible refine Kd.C_drew ?_))); (case side2 => exact (Kd.V_reads' HO153.out).2.1); (case side3 => repeat (first | exact (Kd.V_reads' HO156.out).2.2 | (with_reducible refine Kd.C_alloc ?_ _) | (with_reducible refine Kd.C_drewN ?_ _) | (with_reducible refine Kd.C_drew ?_))); (case side4 => exact (Kd.V_reads' HO156.out).2.1); rintro e w21 ⟨rfl, hb⟩; have n0_ := Aside0.mk (Kd.V_below (by (with_reducible repeat (first | apply Kd.V_alloc | apply Kd.V_drewN | apply Kd.V_drew)); exact HO146.out) hb); have n1_ := Aside0.mk (Kd.V_below (by (with_reducible repeat (first | apply Kd.V_alloc | apply Kd.V_drewN | apply Kd.V_drew)); exact HO149.out) hb); have n2_ := Aside0.mk (Kd.V_below (by (with_reducible repeat (first | apply Kd.V_alloc | apply Kd.V_drewN | apply Kd.V_drew)); exact HO153.out) hb); have n3_ := Aside0.mk (Kd.V_below (by (with_reducible repeat (first | apply Kd.V_alloc | apply Kd.V_drewN | apply Kd.V_drew)); exact HO156.out) hb); have n4_ := Aside0.mk (below_step (by repeat (first | (with_reducible first | exact HB.out | apply below_alloc | apply pw_below_drewN | apply below_drew1) | exact HB.out)) hb); clear HO146; clear HO149; clear HO153; clear HO156; clear HB; have HO146 := n0_; have HO149 := n1_; have HO153 := n2_; have HO156 := n3_; have HB := n4_; clear n0_ n1_ n2_ n3_ n4_; (try clear hb); (try clear hb2); (try clear hk); (try clear hi)) | ((with_reducible refine gate_dst (N := 17) rfl ?_); (try (refine gate_guard (by rfl) ?_; dsimp only)); refine V_mark 5 22 ?hg (N := 17) ?hd (.tmp 16) ?ho Try.underlying22 Try.underlying5 (xs := ([97, 32, 98] : List Int)) ?hx ?hi (by simp) ?_; (case hd => rfl); (case hg => rfl); (case ho => rfl); (case hx => first | rfl | (go_simp; done) | (go_simp; rfl)); (case hi => rfl); intro v159 w22 ho23 hb hg_ hnew_; clear hg_ hnew_; (first | rw [← Ny158.out] at ho23 | (simp only [Int.reduceToNat] at ho23; rw [← Ny158.out] at ho23)); have n0_ := Aside0.mk (Kd.V_below (by (with_reducible repeat (first | apply Kd.V_alloc | apply Kd.V_drewN | apply Kd.V_drew)); exact HO146.out) hb); have n1_ := Aside0.mk (Kd.V_below (by (with_reducible repeat (first | apply Kd.V_alloc | apply Kd.V_drewN | apply Kd.V_drew)); exact HO149.out) hb); have n2_ := Aside0.mk (Kd.V_below (by (with_reducible repeat (first | apply Kd.V_alloc | apply Kd.V_drewN | apply Kd.V_drew)); exact HO153.out) hb); have n3_ := Aside0.mk (Kd.V_below (by (with_reducible repeat (first | apply Kd.V_alloc | apply Kd.V_drewN | apply Kd.V_drew)); exact HO156.out) hb); have n4_ := Aside0.mk (Kd.V_lower (Kd.V_mono (ok' := fun k_ => True) ho23 (fun k_ hk_ => trivial)) (below_size (by repeat (first | (with_reducible first | exact HB.out | apply below_alloc | apply pw_below_drewN | apply below_drew1) | exact HB.out)))); have n5_ := Aside0.mk (below_step (by repeat (first | (with_reducible first | exact HB.out | apply below_alloc | apply pw_below_drewN | apply below_drew1) | exact HB.out)) hb); clear HO146; clear HO149; clear HO153; clear HO156; clear HB; have HO146 := n0_; have HO149 := n1_; have HO153 := n2_; have HO156 := n3_; have HO160 := n4_; have HB := n5_; clear n0_ n1_ n2_ n3_ n4_ n5_; clear hb ho23) | ((with_reducible refine gate_dst (N := 19) rfl ?_); (try (refine gate_guard (by rfl) ?_; dsimp only)); refine V_mark 5 22 ?hg (N := 19) ?hd (.tmp 18) ?ho Try.underlying22 Try.underlying5 (xs := ([97, 10, 98] : List Int)) ?hx ?hi (by simp) ?_; (case hd => rfl); (case hg => rfl); (case ho => rfl); (case hx => first | rfl | (go_simp; done) | (go_simp; rfl)); (case hi => rfl); intro v162 w24 ho25 hb hg_ hnew_; clear hg_ hnew_; (first | rw [← Ny161.out] at ho25 | (simp only [Int.reduceToNat] at ho25; rw [← Ny161.out] at ho25)); have n0_ := Aside0.mk (Kd.V_below (by (with_reducible repeat (first | apply Kd.V_alloc | apply Kd.V_drewN | apply Kd.V_drew)); exact HO146.out) hb); have n1_ := Aside0.mk (Kd.V_below (by (with_reducible repeat (first | apply Kd.V_alloc | apply Kd.V_drewN | apply Kd.V_drew)); exact HO149.out) hb); have n2_ := Aside0.mk (Kd.V_below (by (with_reducible repeat (first | apply Kd.V_alloc | apply Kd.V_drewN | apply Kd.V_drew)); exact HO153.out) hb); have n3_ := Aside0.mk (Kd.V_below (by (with_reducible repeat (first | apply Kd.V_alloc | apply Kd.V_drewN | apply Kd.V_drew)); exact HO156.out) hb); have n4_ := Aside0.mk (Kd.V_below (by (with_reducible repeat (first | apply Kd.V_alloc | apply Kd.V_drewN | apply Kd.V_drew)); exact HO160.out) hb); have n5_ := Aside0.mk (Kd.V_lower (Kd.V_mono (ok' := fun k_ => True) ho25 (fun k_ hk_ => trivial)) (below_size (by repeat (first | (with_reducible first | exact HB.out | apply below_alloc | apply pw_below_drewN | apply below_drew1) | exact HB.out)))); have n6_ := Aside0.mk (below_step (by repeat (first | (with_reducible first | exact HB.out | apply below_alloc | apply pw_below_drewN | apply below_drew1) | exact HB.out)) hb); clear HO146; clear HO149; clear HO153; clear HO156; clear HO160; clear HB; have HO146 := n0_; have HO149 := n1_; have HO153 := n2_; have HO156 := n3_; have HO160 := n4_; have HO163 := n5_; have HB := n6_; clear n0_ n1_ n2_ n3_ n4_ n5_ n6_; clear hb ho25; obtain ⟨Ao26, co26, eo26⟩ := Kd.V_slice HO160.out; subst eo26; obtain ⟨Ao27, co27, eo27⟩ := Kd.V_slice HO163.out; subst eo27) | (go_at_call 15; (with_reducible refine (keep_Alike.calls k _ _ y158 _ _ y161 true _ ?side1 ?side2 ?side3 ?side4 A5.out).mono ?_); (case side1 => repeat (first | exact (Kd.V_reads' HO160.out).2.2 | (with_reducible refine Kd.C_alloc ?_ _) | (with_reducible refine Kd.C_drewN ?_ _) | (with_reducible refine Kd.C_drew ?_))); (case side2 => exact (Kd.V_reads' HO160.out).2.1); (case side3 => repeat (first | exact (Kd.V_reads' HO163.out).2.2 | (with_reducible refine Kd.C_alloc ?_ _) | (with_reducible refine Kd.C_drewN ?_ _) | (with_reducible refine Kd.C_drew ?_))); (case side4 => exact (Kd.V_reads' HO163.out).2.1); rintro e w28 ⟨rfl, hb⟩; have n0_ := Aside0.mk (Kd.V_below (by (with_reducible repeat (first | apply Kd.V_alloc | apply Kd.V_drewN | apply Kd.V_drew)); exact HO146.out) hb); have n1_ := Aside0.mk (Kd.V_below (by (with_reducible repeat (first | apply Kd.V_alloc | apply Kd.V_drewN | apply Kd.V_drew)); exact HO149.out) hb); have n2_ := Aside0.mk (Kd.V_below (by (with_reducible repeat (first | apply Kd.V_alloc | apply Kd.V_drewN | apply Kd.V_drew)); exact HO153.out) hb); have n3_ := Aside0.mk (Kd.V_below (by (with_reducible repeat (first | apply Kd.V_alloc | apply Kd.V_drewN | apply Kd.V_drew)); exact HO156.out) hb); have n4_ := Aside0.mk (Kd.V_below (by (with_reducible repeat (first | apply Kd.V_alloc | apply Kd.V_drewN | apply Kd.V_drew)); exact HO160.out) hb); have n5_ := Aside0.mk (Kd.V_below (by (with_reducible repeat (first | apply Kd.V_alloc | apply Kd.V_drewN | apply Kd.V_drew)); exact HO163.out) hb); have n6_ := Aside0.mk (below_step (by repeat (first | (with_reducible first | exact HB.out | apply below_alloc | apply pw_below_drewN | apply below_drew1) | exact HB.out)) hb); clear HO146; clear HO149; clear HO153; clear HO156; clear HO160; clear HO163; clear HB; have HO146 := n0_; have HO149 := n1_; have HO153 := n2_; have HO156 := n3_; have HO160 := n4_; have HO163 := n5_; have HB := n6_; clear n0_ n1_ n2_ n3_ n4_ n5_ n6_; (try clear hb); (try clear hb2); (try clear hk); (try clear hi)) | ((with_reducible refine gate_dst (N := 24) rfl ?_); (try (refine gate_guard (by rfl) ?_; dsimp only)); refine V_mark 5 22 ?hg (N := 24) ?hd (.tmp 23) ?ho Try.underlying22 Try.underlying5 (xs := ([97, 98] : List Int)) ?hx ?hi (by simp) ?_; (case hd => rfl); (case hg => rfl); (case ho => rfl); (case hx => first | rfl | (go_simp; done) | (go_simp; rfl)); (case hi => rfl); intro v166 w29 ho30 hb hg_ hnew_; clear hg_ hnew_; (first | rw [← Ny165.out] at ho30 | (simp only [Int.reduceToNat] at ho30; rw [← Ny165.out] at ho30)); have n0_ := Aside0.mk (Kd.V_below (by (with_reducible repeat (first | apply Kd.V_alloc | apply Kd.V_drewN | apply Kd.V_drew)); exact HO146.out) hb); have n1_ := Aside0.mk (Kd.V_below (by (with_reducible repeat (first | apply Kd.V_alloc | apply Kd.V_drewN | apply Kd.V_drew)); exact HO149.out) hb); have n2_ := Aside0.mk (Kd.V_below (by (with_reducible repeat (first | apply Kd.V_alloc | apply Kd.V_drewN | apply Kd.V_drew)); exact HO153.out) hb); have n3_ := Aside0.mk (Kd.V_below (by (with_reducible repeat (first | apply Kd.V_alloc | apply Kd.V_drewN | apply Kd.V_drew)); exact HO156.out) hb); have n4_ := Aside0.mk (Kd.V_below (by (with_reducible repeat (first | apply Kd.V_alloc | apply Kd.V_drewN | apply Kd.V_drew)); exact HO160.out) hb); have n5_ := Aside0.mk (Kd.V_below (by (with_reducible repeat (first | apply Kd.V_alloc | apply Kd.V_drewN | apply Kd.V_drew)); exact HO163.out) hb); have n6_ := Aside0.mk (Kd.V_lower (Kd.V_mono (ok' := fun k_ => True) ho30 (fun k_ hk_ => trivial)) (below_size (by repeat (first | (with_reducible first | exact HB.out | apply below_alloc | apply pw_below_drewN | apply below_drew1) | exact HB.out)))); have n7_ := Aside0.mk (below_step (by repeat (first | (with_reducible first | exact HB.out | apply below_alloc | apply pw_below_drewN | apply below_drew1) | exact HB.out)) hb); clear HO146; clear HO149; clear HO153; clear HO156; clear HO160; clear HO163; clear HB; have HO146 := n0_; have HO149 := n1_; have HO153 := n2_; have HO156 := n3_; have HO160 := n4_; have HO163 := n5_; have HO167 := n6_; have HB := n7_; clear n0_ n1_ n2_ n3_ n4_ n5_ n6_ n7_; clear hb ho30) | ((with_reducible refine gate_dst (N := 26) rfl ?_); (try (refine gate_guard (by rfl) ?_; dsimp only)); refine V_mark 5 22 ?hg (N := 26) ?hd (.tmp 25) ?ho Try.underlying22 Try.underlying5 (xs := ([97, 32, 98] : List Int)) ?hx ?hi (by simp) ?_; (case hd => rfl); (case hg => rfl); (case ho => rfl); (case hx => first | rfl | (go_simp; done) | (go_simp; rfl)); (case hi => rfl); intro v169 w31 ho32 hb hg_ hnew_; clear hg_ hnew_; (first | rw [← Ny168.out] at ho32 | (simp only [Int.reduceToNat] at ho32; rw [← Ny168.out] at ho32)); have n0_ := Aside0.mk (Kd.V_below (by (with_reducible repeat (first | apply Kd.V_alloc | apply Kd.V_drewN | apply Kd.V_drew)); exact HO146.out) hb); have n1_ := Aside0.mk (Kd.V_below (by (with_reducible repeat (first | apply Kd.V_alloc | apply Kd.V_drewN | apply Kd.V_drew)); exact HO149.out) hb); have n2_ := Aside0.mk (Kd.V_below (by (with_reducible repeat (first | apply Kd.V_alloc | apply Kd.V_drewN | apply Kd.V_drew)); exact HO153.out) hb); have n3_ := Aside0.mk (Kd.V_below (by (with_reducible repeat (first | apply Kd.V_alloc | apply Kd.V_drewN | apply Kd.V_drew)); exact HO156.out) hb); have n4_ := Aside0.mk (Kd.V_below (by (with_reducible repeat (first | apply Kd.V_alloc | apply Kd.V_drewN | apply Kd.V_drew)); exact HO160.out) hb); have n5_ := Aside0.mk (Kd.V_below (by (with_reducible repeat (first | apply Kd.V_alloc | apply Kd.V_drewN | apply Kd.V_drew)); exact HO163.out) hb); have n6_ := Aside0.mk (Kd.V_below (by (with_reducible repeat (first | apply Kd.V_alloc | apply Kd.V_drewN | apply Kd.V_drew)); exact HO167.out) hb); have n7_ := Aside0.mk (Kd.V_lower (Kd.V_mono (ok' := fun k_ => True) ho32 (fun k_ hk_ => trivial)) (below_size (by repeat (first | (with_reducible first | exact HB.out | apply below_alloc | apply pw_below_drewN | apply below_drew1) | exact HB.out)))); have n8_ := Aside0.mk (below_step (by repeat (first | (with_reducible first | exact HB.out | apply below_alloc | apply pw_below_drewN | apply below_drew1) | exact HB.out)) hb); clear HO146; clear HO149; clear HO153; clear HO156; clear HO160; clear HO163; clear HO167; clear HB; have HO146 := n0_; have HO149 := n1_; have HO153 := n2_; have HO156 := n3_; have HO160 := n4_; have HO163 := n5_; have HO167 := n6_; have HO170 := n7_; have HB := n8_; clear n0_ n1_ n2_ n3_ n4_ n5_ n6_ n7_ n8_; clear hb ho32; obtain ⟨Ao33, co33, eo33⟩ := Kd.V_slice HO167.out; subst eo33; obtain ⟨Ao34, co34, eo34⟩ := Kd.V_slice HO170.out; subst eo34) | (go_at_call 15; (with_reducible refine (keep_Alike.calls k _ _ y165 _ _ y168 t171 _ ?side1 ?side2 ?side3 ?side4 A7.out).mono ?_); (case side1 => repeat (first | exact (Kd.V_reads' HO167.out).2.2 | (with_reducible refine Kd.C_alloc ?_ _) | (with_reducible refine Kd.C_drewN ?_ _) | (with_reducible refine Kd.C_drew ?_))); (case side2 => exact (Kd.V_reads' HO167.out).2.1); (case side3 => repeat (first | exact (Kd.V_reads' HO170.out).2.2 | (with_reducible refine Kd.C_alloc ?_ _) | (with_reducible refine Kd.C_drewN ?_ _) | (with_reducible refine Kd.C_drew ?_))); (case side4 => exact (Kd.V_reads' HO170.out).2.1); rintro e w35 ⟨rfl, hb⟩; have n0_ := Aside0.mk (Kd.V_below (by (with_reducible repeat (first | apply Kd.V_alloc | apply Kd.V_drewN | apply Kd.V_drew)); exact HO146.out) hb); have n1_ := Aside0.mk (Kd.V_below (by (with_reducible repeat (first | apply Kd.V_alloc | apply Kd.V_drewN | apply Kd.V_drew)); exact HO149.out) hb); have n2_ := Aside0.mk (Kd.V_below (by (with_reducible repeat (first | apply Kd.V_alloc | apply Kd.V_drewN | apply Kd.V_drew)); exact HO153.out) hb); have n3_ := Aside0.mk (Kd.V_below (by (with_reducible repeat (first | apply Kd.V_alloc | apply Kd.V_drewN | apply Kd.V_drew)); exact HO156.out) hb); have n4_ := Aside0.mk (Kd.V_below (by (with_reducible repeat (first | apply Kd.V_alloc | apply Kd.V_drewN | apply Kd.V_drew)); exact HO160.out) hb); have n5_ := Aside0.mk (Kd.V_below (by (with_reducible repeat (first | apply Kd.V_alloc | apply Kd.V_drewN | apply Kd.V_drew)); exact HO163.out) hb); have n6_ := Aside0.mk (Kd.V_below (by (with_reducible repeat (first | apply Kd.V_alloc | apply Kd.V_drewN | apply Kd.V_drew)); exact HO167.out) hb); have n7_ := Aside0.mk (Kd.V_below (by (with_reducible repeat (first | apply Kd.V_alloc | apply Kd.V_drewN | apply Kd.V_drew)); exact HO170.out) hb); have n8_ := Aside0.mk (below_step (by repeat (first | (with_reducible first | exact HB.out | apply below_alloc | apply pw_below_drewN | apply below_drew1) | exact HB.out)) hb); clear HO146; clear HO149; clear HO153; clear HO156; clear HO160; clear HO163; clear HO167; clear HO170; clear HB; have HO146 := n0_; have HO149 := n1_; have HO153 := n2_; have HO156 := n3_; have HO160 := n4_; have HO163 := n5_; have HO167 := n6_; have HO170 := n7_; have HB := n8_; clear n0_ n1_ n2_ n3_ n4_ n5_ n6_ n7_ n8_; (try clear hb); (try clear hb2); (try clear hk); (try clear hi)))
        go_ret
        exact ⟨by first | rfl | (simp [errW_none, errW_some] <;> rfl) | (simp [*, errW_none, errW_some] <;> rfl), by repeat (first | (with_reducible first | exact HB.out | apply below_alloc | apply pw_below_drewN | apply below_drew1) | exact HB.out)⟩
      · replace c6 := Bool.eq_false_iff.mpr c6
        subst c6
        have H1 : (some false) = some r := by rw [if_neg (show ¬ (false = true) by decide)] at H; exact H
        clear H
        have H := H1
        clear H1
        obtain rfl := Option.some.inj H
        go_enter Try.func9, Try.ntmps9
        go_wp2_with (first | ((with_reducible refine gate_dst (N := 2) rfl ?_); (try (refine gate_guard (by rfl) ?_; dsimp only)); refine V_mark 5 22 ?hg (N := 2) ?hd (.tmp 1) ?ho Try.underlying22 Try.underlying5 (xs := ([97, 32, 98] : List Int)) ?hx ?hi (by simp) ?_; (case hd => rfl); (case hg => rfl); (case ho => rfl); (case hx => first | rfl | (go_simp; done) | (go_simp; rfl)); (case hi => rfl); intro v145 w36 ho37 hb hg_ hnew_; clear hg_ hnew_; (first | rw [← Ny144.out] at ho37 | (simp only [Int.reduceToNat] at ho37; rw [← Ny144.out] at ho37)); have n0_ := Aside0.mk (Kd.V_lower (Kd.V_mono (ok' := fun k_ => True) ho37 (fun k_ hk_ => trivial)) (below_size (by repeat (first | (with_reducible first | exact HB.out | apply below_alloc | apply pw_below_drewN | apply below_drew1) | exact HB.out)))); have n1_ := Aside0.mk (below_step (by repeat (first | (with_reducible first | exact HB.out | apply below_alloc | apply pw_below_drewN | apply below_drew1) | exact HB.out)) hb); clear HB; have HO146 := n0_; have HB := n1_; clear n0_ n1_; clear hb ho37) | ((with_reducible refine gate_dst (N := 4) rfl ?_); (try (refine gate_guard (by rfl) ?_; dsimp only)); refine V_mark 5 22 ?hg (N := 4) ?hd (.tmp 3) ?ho Try.underlying22 Try.underlying5 (xs := ([97, 32, 32, 32, 98] : List Int)) ?hx ?hi (by simp) ?_; (case hd => rfl); (case hg => rfl); (case ho => rfl); (case hx => first | rfl | (go_simp; done) | (go_simp; rfl)); (case hi => rfl); intro v148 w38 ho39 hb hg_ hnew_; clear hg_ hnew_; (first | rw [← Ny147.out] at ho39 | (simp only [Int.reduceToNat] at ho39; rw [← Ny147.out] at ho39)); have n0_ := Aside0.mk (Kd.V_below (by (with_reducible repeat (first | apply Kd.V_alloc | apply Kd.V_drewN | apply Kd.V_drew)); exact HO146.out) hb); have n1_ := Aside0.mk (Kd.V_lower (Kd.V_mono (ok' := fun k_ => True) ho39 (fun k_ hk_ => trivial)) (below_size (by repeat (first | (with_reducible first | exact HB.out | apply below_alloc | apply pw_below_drewN | apply below_drew1) | exact HB.out)))); have n2_ := Aside0.mk (below_step (by repeat (first | (with_reducible first | exact HB.out | apply below_alloc | apply pw_below_drewN | apply below_drew1) | exact HB.out)) hb); clear HO146; clear HB; have HO146 := n0_; have HO149 := n1_; have HB := n2_; clear n0_ n1_ n2_; clear hb ho39; obtain ⟨Ao40, co40, eo40⟩ := Kd.V_slice HO146.out; subst eo40; obtain ⟨Ao41, co41, eo41⟩ := Kd.V_slice HO149.out; subst eo41) | ((with_reducible refine gate_callee (f := 13) rfl ?_); refine goesL_ (some 5) rfl rfl Try.func13 (by kernel_rfl) rfl #[.int .i64 1, .slice Ao40 y144.length co40, .slice Ao41 y147.length co41] rfl (by (try simp only [List.map_toArray, List.map_cons, List.map_nil]); first | done | rfl | (simp only [List.length_drop, List.length_take]; rfl)) ?_; (with_reducible refine (keep_Solid.calls k 1 _ _ y144 _ _ y147 t150 _ ?side1 ?side2 ?side3 ?side4 A1.out).mono ?_); (case side1 => repeat (first | exact (Kd.V_reads' HO146.out).2.2 | (with_reducible refine Kd.C_alloc ?_ _) | (with_reducible refine Kd.C_drewN ?_ _) | (with_reducible refine Kd.C_drew ?_))); (case side2 => exact (Kd.V_reads' HO146.out).2.1); (case side3 => repeat (first | exact (Kd.V_reads' HO149.out).2.2 | (with_reducible refine Kd.C_alloc ?_ _) | (with_reducible refine Kd.C_drewN ?_ _) | (with_reducible refine Kd.C_drew ?_))); (case side4 => exact (Kd.V_reads' HO149.out).2.1); rintro e w42 ⟨rfl, hb⟩; refine ⟨_, rfl, ?_⟩; have n0_ := Aside0.mk (Kd.V_below (by (with_reducible repeat (first | apply Kd.V_alloc | apply Kd.V_drewN | apply Kd.V_drew)); exact HO146.out) hb); have n1_ := Aside0.mk (Kd.V_below (by (with_reducible repeat (first | apply Kd.V_alloc | apply Kd.V_drewN | apply Kd.V_drew)); exact HO149.out) hb); have n2_ := Aside0.mk (below_step (by repeat (first | (with_reducible first | exact HB.out | apply below_alloc | apply pw_below_drewN | apply below_drew1) | exact HB.out)) hb); clear HO146; clear HO149; clear HB; have HO146 := n0_; have HO149 := n1_; have HB := n2_; clear n0_ n1_ n2_; (try clear hb); (try clear hb2); (try clear hk); (try clear hi)) | ((with_reducible refine gate_dst (N := 9) rfl ?_); (try (refine gate_guard (by rfl) ?_; dsimp only)); refine V_mark 5 22 ?hg (N := 9) ?hd (.tmp 8) ?ho Try.underlying22 Try.underlying5 (xs := ([97, 32, 98] : List Int)) ?hx ?hi (by simp) ?_; (case hd => rfl); (case hg => rfl); (case ho => rfl); (case hx => first | rfl | (go_simp; done) | (go_simp; rfl)); (case hi => rfl); intro v152 w43 ho44 hb hg_ hnew_; clear hg_ hnew_; (first | rw [← Ny151.out] at ho44 | (simp only [Int.reduceToNat] at ho44; rw [← Ny151.out] at ho44)); have n0_ := Aside0.mk (Kd.V_below (by (with_reducible repeat (first | apply Kd.V_alloc | apply Kd.V_drewN | apply Kd.V_drew)); exact HO146.out) hb); have n1_ := Aside0.mk (Kd.V_below (by (with_reducible repeat (first | apply Kd.V_alloc | apply Kd.V_drewN | apply Kd.V_drew)); exact HO149.out) hb); have n2_ := Aside0.mk (Kd.V_lower (Kd.V_mono (ok' := fun k_ => True) ho44 (fun k_ hk_ => trivial)) (below_size (by repeat (first | (with_reducible first | exact HB.out | apply below_alloc | apply pw_below_drewN | apply below_drew1) | exact HB.out)))); have n3_ := Aside0.mk (below_step (by repeat (first | (with_reducible first | exact HB.out | apply below_alloc | apply pw_below_drewN | apply below_drew1) | exact HB.out)) hb); clear HO146; clear HO149; clear HB; have HO146 := n0_; have HO149 := n1_; have HO153 := n2_; have HB := n3_; clear n0_ n1_ n2_ n3_; clear hb ho44) | ((with_reducible refine gate_dst (N := 11) rfl ?_); (try (refine gate_guard (by rfl) ?_; dsimp only)); refine V_mark 5 22 ?hg (N := 11) ?hd (.tmp 10) ?ho Try.underlying22 Try.underlying5 (xs := ([97, 32, 32, 32, 98] : List Int)) ?hx ?hi (by simp) ?_; (case hd => rfl); (case hg => rfl); (case ho => rfl); (case hx => first | rfl | (go_simp; done) | (go_simp; rfl)); (case hi => rfl); intro v155 w45 ho46 hb hg_ hnew_; clear hg_ hnew_; (first | rw [← Ny154.out] at ho46 | (simp only [Int.reduceToNat] at ho46; rw [← Ny154.out] at ho46)); have n0_ := Aside0.mk (Kd.V_below (by (with_reducible repeat (first | apply Kd.V_alloc | apply Kd.V_drewN | apply Kd.V_drew)); exact HO146.out) hb); have n1_ := Aside0.mk (Kd.V_below (by (with_reducible repeat (first | apply Kd.V_alloc | apply Kd.V_drewN | apply Kd.V_drew)); exact HO149.out) hb); have n2_ := Aside0.mk (Kd.V_below (by (with_reducible repeat (first | apply Kd.V_alloc | apply Kd.V_drewN | apply Kd.V_drew)); exact HO153.out) hb); have n3_ := Aside0.mk (Kd.V_lower (Kd.V_mono (ok' := fun k_ => True) ho46 (fun k_ hk_ => trivial)) (below_size (by repeat (first | (with_reducible first | exact HB.out | apply below_alloc | apply pw_below_drewN | apply below_drew1) | exact HB.out)))); have n4_ := Aside0.mk (below_step (by repeat (first | (with_reducible first | exact HB.out | apply below_alloc | apply pw_below_drewN | apply below_drew1) | exact HB.out)) hb); clear HO146; clear HO149; clear HO153; clear HB; have HO146 := n0_; have HO149 := n1_; have HO153 := n2_; have HO156 := n3_; have HB := n4_; clear n0_ n1_ n2_ n3_ n4_; clear hb ho46; obtain ⟨Ao47, co47, eo47⟩ := Kd.V_slice HO153.out; subst eo47; obtain ⟨Ao48, co48, eo48⟩ := Kd.V_slice HO156.out; subst eo48) | (go_at_call 13; (with_reducible refine (keep_Solid.calls k 2 _ _ y151 _ _ y154 t157 _ ?side1 ?side2 ?side3 ?side4 A3.out).mono ?_); (case side1 => repeat (first | exact (Kd.V_reads' HO153.out).2.2 | (with_reducible refine Kd.C_alloc ?_ _) | (with_reducible refine Kd.C_drewN ?_ _) | (with_reducible refine Kd.C_drew ?_))); (case side2 => exact (Kd.V_reads' HO153.out).2.1); (case side3 => repeat (first | exact (Kd.V_reads' HO156.out).2.2 | (with_reducible refine Kd.C_alloc ?_ _) | (with_reducible refine Kd.C_drewN ?_ _) | (with_reducible refine Kd.C_drew ?_))); (case side4 => exact (Kd.V_reads' HO156.out).2.1); rintro e w49 ⟨rfl, hb⟩; have n0_ := Aside0.mk (Kd.V_below (by (with_reducible repeat (first | apply Kd.V_alloc | apply Kd.V_drewN | apply Kd.V_drew)); exact HO146.out) hb); have n1_ := Aside0.mk (Kd.V_below (by (with_reducible repeat (first | apply Kd.V_alloc | apply Kd.V_drewN | apply Kd.V_drew)); exact HO149.out) hb); have n2_ := Aside0.mk (Kd.V_below (by (with_reducible repeat (first | apply Kd.V_alloc | apply Kd.V_drewN | apply Kd.V_drew)); exact HO153.out) hb); have n3_ := Aside0.mk (Kd.V_below (by (with_reducible repeat (first | apply Kd.V_alloc | apply Kd.V_drewN | apply Kd.V_drew)); exact HO156.out) hb); have n4_ := Aside0.mk (below_step (by repeat (first | (with_reducible first | exact HB.out | apply below_alloc | apply pw_below_drewN | apply below_drew1) | exact HB.out)) hb); clear HO146; clear HO149; clear HO153; clear HO156; clear HB; have HO146 := n0_; have HO149 := n1_; have HO153 := n2_; have HO156 := n3_; have HB := n4_; clear n0_ n1_ n2_ n3_ n4_; (try clear hb); (try clear hb2); (try clear hk); (try clear hi)) | ((with_reducible refine gate_dst (N := 17) rfl ?_); (try (refine gate_guard (by rfl) ?_; dsimp only)); refine V_mark 5 22 ?hg (N := 17) ?hd (.tmp 16) ?ho Try.underlying22 Try.underlying5 (xs := ([97, 32, 98] : List Int)) ?hx ?hi (by simp) ?_; (case hd => rfl); (case hg => rfl); (case ho => rfl); (case hx => first | rfl | (go_simp; done) | (go_simp; rfl)); (case hi => rfl); intro v159 w50 ho51 hb hg_ hnew_; clear hg_ hnew_; (first | rw [← Ny158.out] at ho51 | (simp only [Int.reduceToNat] at ho51; rw [← Ny158.out] at ho51)); have n0_ := Aside0.mk (Kd.V_below (by (with_reducible repeat (first | apply Kd.V_alloc | apply Kd.V_drewN | apply Kd.V_drew)); exact HO146.out) hb); have n1_ := Aside0.mk (Kd.V_below (by (with_reducible repeat (first | apply Kd.V_alloc | apply Kd.V_drewN | apply Kd.V_drew)); exact HO149.out) hb); have n2_ := Aside0.mk (Kd.V_below (by (with_reducible repeat (first | apply Kd.V_alloc | apply Kd.V_drewN | apply Kd.V_drew)); exact HO153.out) hb); have n3_ := Aside0.mk (Kd.V_below (by (with_reducible repeat (first | apply Kd.V_alloc | apply Kd.V_drewN | apply Kd.V_drew)); exact HO156.out) hb); have n4_ := Aside0.mk (Kd.V_lower (Kd.V_mono (ok' := fun k_ => True) ho51 (fun k_ hk_ => trivial)) (below_size (by repeat (first | (with_reducible first | exact HB.out | apply below_alloc | apply pw_below_drewN | apply below_drew1) | exact HB.out)))); have n5_ := Aside0.mk (below_step (by repeat (first | (with_reducible first | exact HB.out | apply below_alloc | apply pw_below_drewN | apply below_drew1) | exact HB.out)) hb); clear HO146; clear HO149; clear HO153; clear HO156; clear HB; have HO146 := n0_; have HO149 := n1_; have HO153 := n2_; have HO156 := n3_; have HO160 := n4_; have HB := n5_; clear n0_ n1_ n2_ n3_ n4_ n5_; clear hb ho51) | ((with_reducible refine gate_dst (N := 19) rfl ?_); (try (refine gate_guard (by rfl) ?_; dsimp only)); refine V_mark 5 22 ?hg (N := 19) ?hd (.tmp 18) ?ho Try.underlying22 Try.underlying5 (xs := ([97, 10, 98] : List Int)) ?hx ?hi (by simp) ?_; (case hd => rfl); (case hg => rfl); (case ho => rfl); (case hx => first | rfl | (go_simp; done) | (go_simp; rfl)); (case hi => rfl); intro v162 w52 ho53 hb hg_ hnew_; clear hg_ hnew_; (first | rw [← Ny161.out] at ho53 | (simp only [Int.reduceToNat] at ho53; rw [← Ny161.out] at ho53)); have n0_ := Aside0.mk (Kd.V_below (by (with_reducible repeat (first | apply Kd.V_alloc | apply Kd.V_drewN | apply Kd.V_drew)); exact HO146.out) hb); have n1_ := Aside0.mk (Kd.V_below (by (with_reducible repeat (first | apply Kd.V_alloc | apply Kd.V_drewN | apply Kd.V_drew)); exact HO149.out) hb); have n2_ := Aside0.mk (Kd.V_below (by (with_reducible repeat (first | apply Kd.V_alloc | apply Kd.V_drewN | apply Kd.V_drew)); exact HO153.out) hb); have n3_ := Aside0.mk (Kd.V_below (by (with_reducible repeat (first | apply Kd.V_alloc | apply Kd.V_drewN | apply Kd.V_drew)); exact HO156.out) hb); have n4_ := Aside0.mk (Kd.V_below (by (with_reducible repeat (first | apply Kd.V_alloc | apply Kd.V_drewN | apply Kd.V_drew)); exact HO160.out) hb); have n5_ := Aside0.mk (Kd.V_lower (Kd.V_mono (ok' := fun k_ => True) ho53 (fun k_ hk_ => trivial)) (below_size (by repeat (first | (with_reducible first | exact HB.out | apply below_alloc | apply pw_below_drewN | apply below_drew1) | exact HB.out)))); have n6_ := Aside0.mk (below_step (by repeat (first | (with_reducible first | exact HB.out | apply below_alloc | apply pw_below_drewN | apply below_drew1) | exact HB.out)) hb); clear HO146; clear HO149; clear HO153; clear HO156; clear HO160; clear HB; have HO146 := n0_; have HO149 := n1_; have HO153 := n2_; have HO156 := n3_; have HO160 := n4_; have HO163 := n5_; have HB := n6_; clear n0_ n1_ n2_ n3_ n4_ n5_ n6_; clear hb ho53; obtain ⟨Ao54, co54, eo54⟩ := Kd.V_slice HO160.out; subst eo54; obtain ⟨Ao55, co55, eo55⟩ := Kd.V_slice HO163.out; subst eo55) | (go_at_call 15; (with_reducible refine (keep_Alike.calls k _ _ y158 _ _ y161 false _ ?side1 ?side2 ?side3 ?side4 A5.out).mono ?_); (case side1 => repeat (first | exact (Kd.V_reads' HO160.out).2.2 | (with_reducible refine Kd.C_alloc ?_ _) | (with_reducible refine Kd.C_drewN ?_ _) | (with_reducible refine Kd.C_drew ?_))); (case side2 => exact (Kd.V_reads' HO160.out).2.1); (case side3 => repeat (first | exact (Kd.V_reads' HO163.out).2.2 | (with_reducible refine Kd.C_alloc ?_ _) | (with_reducible refine Kd.C_drewN ?_ _) | (with_reducible refine Kd.C_drew ?_))); (case side4 => exact (Kd.V_reads' HO163.out).2.1); rintro e w56 ⟨rfl, hb⟩; have n0_ := Aside0.mk (Kd.V_below (by (with_reducible repeat (first | apply Kd.V_alloc | apply Kd.V_drewN | apply Kd.V_drew)); exact HO146.out) hb); have n1_ := Aside0.mk (Kd.V_below (by (with_reducible repeat (first | apply Kd.V_alloc | apply Kd.V_drewN | apply Kd.V_drew)); exact HO149.out) hb); have n2_ := Aside0.mk (Kd.V_below (by (with_reducible repeat (first | apply Kd.V_alloc | apply Kd.V_drewN | apply Kd.V_drew)); exact HO153.out) hb); have n3_ := Aside0.mk (Kd.V_below (by (with_reducible repeat (first | apply Kd.V_alloc | apply Kd.V_drewN | apply Kd.V_drew)); exact HO156.out) hb); have n4_ := Aside0.mk (Kd.V_below (by (with_reducible repeat (first | apply Kd.V_alloc | apply Kd.V_drewN | apply Kd.V_drew)); exact HO160.out) hb); have n5_ := Aside0.mk (Kd.V_below (by (with_reducible repeat (first | apply Kd.V_alloc | apply Kd.V_drewN | apply Kd.V_drew)); exact HO163.out) hb); have n6_ := Aside0.mk (below_step (by repeat (first | (with_reducible first | exact HB.out | apply below_alloc | apply pw_below_drewN | apply below_drew1) | exact HB.out)) hb); clear HO146; clear HO149; clear HO153; clear HO156; clear HO160; clear HO163; clear HB; have HO146 := n0_; have HO149 := n1_; have HO153 := n2_; have HO156 := n3_; have HO160 := n4_; have HO163 := n5_; have HB := n6_; clear n0_ n1_ n2_ n3_ n4_ n5_ n6_; (try clear hb); (try clear hb2); (try clear hk); (try clear hi)))
        go_ret
        exact ⟨by first | rfl | (simp [errW_none, errW_some] <;> rfl) | (simp [*, errW_none, errW_some] <;> rfl), by repeat (first | (with_reducible first | exact HB.out | apply below_alloc | apply pw_below_drewN | apply below_drew1) | exact HB.out)⟩
    · rw [if_neg c4] at H
      have c4b0 : (t157 == 4) = false := beq_eq_false_iff_ne.mpr c4
      have c4b1 : (t157 != 4) = true := bne_iff_ne.mpr c4
      obtain rfl := Option.some.inj H
      go_enter Try.func9, Try.ntmps9
      go_wp2_with (first | ((with_reducible refine gate_dst (N := 2) rfl ?_); (try (refine gate_guard (by rfl) ?_; dsimp only)); refine V_mark 5 22 ?hg (N := 2) ?hd (.tmp 1) ?ho Try.underlying22 Try.underlying5 (xs := ([97, 32, 98] : List Int)) ?hx ?hi (by simp) ?_; (case hd => rfl); (case hg => rfl); (case ho => rfl); (case hx => first | rfl | (go_simp; done) | (go_simp; rfl)); (case hi => rfl); intro v145 w57 ho58 hb hg_ hnew_; clear hg_ hnew_; (first | rw [← Ny144.out] at ho58 | (simp only [Int.reduceToNat] at ho58; rw [← Ny144.out] at ho58)); have n0_ := Aside0.mk (Kd.V_lower (Kd.V_mono (ok' := fun k_ => True) ho58 (fun k_ hk_ => trivial)) (below_size (by repeat (first | (with_reducible first | exact HB.out | apply below_alloc | apply pw_below_drewN | apply below_drew1) | exact HB.out)))); have n1_ := Aside0.mk (below_step (by repeat (first | (with_reducible first | exact HB.out | apply below_alloc | apply pw_below_drewN | apply below_drew1) | exact HB.out)) hb); clear HB; have HO146 := n0_; have HB := n1_; clear n0_ n1_; clear hb ho58) | ((with_reducible refine gate_dst (N := 4) rfl ?_); (try (refine gate_guard (by rfl) ?_; dsimp only)); refine V_mark 5 22 ?hg (N := 4) ?hd (.tmp 3) ?ho Try.underlying22 Try.underlying5 (xs := ([97, 32, 32, 32, 98] : List Int)) ?hx ?hi (by simp) ?_; (case hd => rfl); (case hg => rfl); (case ho => rfl); (case hx => first | rfl | (go_simp; done) | (go_simp; rfl)); (case hi => rfl); intro v148 w59 ho60 hb hg_ hnew_; clear hg_ hnew_; (first | rw [← Ny147.out] at ho60 | (simp only [Int.reduceToNat] at ho60; rw [← Ny147.out] at ho60)); have n0_ := Aside0.mk (Kd.V_below (by (with_reducible repeat (first | apply Kd.V_alloc | apply Kd.V_drewN | apply Kd.V_drew)); exact HO146.out) hb); have n1_ := Aside0.mk (Kd.V_lower (Kd.V_mono (ok' := fun k_ => True) ho60 (fun k_ hk_ => trivial)) (below_size (by repeat (first | (with_reducible first | exact HB.out | apply below_alloc | apply pw_below_drewN | apply below_drew1) | exact HB.out)))); have n2_ := Aside0.mk (below_step (by repeat (first | (with_reducible first | exact HB.out | apply below_alloc | apply pw_below_drewN | apply below_drew1) | exact HB.out)) hb); clear HO146; clear HB; have HO146 := n0_; have HO149 := n1_; have HB := n2_; clear n0_ n1_ n2_; clear hb ho60; obtain ⟨Ao61, co61, eo61⟩ := Kd.V_slice HO146.out; subst eo61; obtain ⟨Ao62, co62, eo62⟩ := Kd.V_slice HO149.out; subst eo62) | ((with_reducible refine gate_callee (f := 13) rfl ?_); refine goesL_ (some 5) rfl rfl Try.func13 (by kernel_rfl) rfl #[.int .i64 1, .slice Ao61 y144.length co61, .slice Ao62 y147.length co62] rfl (by (try simp only [List.map_toArray, List.map_cons, List.map_nil]); first | done | rfl | (simp only [List.length_drop, List.length_take]; rfl)) ?_; (with_reducible refine (keep_Solid.calls k 1 _ _ y144 _ _ y147 t150 _ ?side1 ?side2 ?side3 ?side4 A1.out).mono ?_); (case side1 => repeat (first | exact (Kd.V_reads' HO146.out).2.2 | (with_reducible refine Kd.C_alloc ?_ _) | (with_reducible refine Kd.C_drewN ?_ _) | (with_reducible refine Kd.C_drew ?_))); (case side2 => exact (Kd.V_reads' HO146.out).2.1); (case side3 => repeat (first | exact (Kd.V_reads' HO149.out).2.2 | (with_reducible refine Kd.C_alloc ?_ _) | (with_reducible refine Kd.C_drewN ?_ _) | (with_reducible refine Kd.C_drew ?_))); (case side4 => exact (Kd.V_reads' HO149.out).2.1); rintro e w63 ⟨rfl, hb⟩; refine ⟨_, rfl, ?_⟩; have n0_ := Aside0.mk (Kd.V_below (by (with_reducible repeat (first | apply Kd.V_alloc | apply Kd.V_drewN | apply Kd.V_drew)); exact HO146.out) hb); have n1_ := Aside0.mk (Kd.V_below (by (with_reducible repeat (first | apply Kd.V_alloc | apply Kd.V_drewN | apply Kd.V_drew)); exact HO149.out) hb); have n2_ := Aside0.mk (below_step (by repeat (first | (with_reducible first | exact HB.out | apply below_alloc | apply pw_below_drewN | apply below_drew1) | exact HB.out)) hb); clear HO146; clear HO149; clear HB; have HO146 := n0_; have HO149 := n1_; have HB := n2_; clear n0_ n1_ n2_; (try clear hb); (try clear hb2); (try clear hk); (try clear hi)) | ((with_reducible refine gate_dst (N := 9) rfl ?_); (try (refine gate_guard (by rfl) ?_; dsimp only)); refine V_mark 5 22 ?hg (N := 9) ?hd (.tmp 8) ?ho Try.underlying22 Try.underlying5 (xs := ([97, 32, 98] : List Int)) ?hx ?hi (by simp) ?_; (case hd => rfl); (case hg => rfl); (case ho => rfl); (case hx => first | rfl | (go_simp; done) | (go_simp; rfl)); (case hi => rfl); intro v152 w64 ho65 hb hg_ hnew_; clear hg_ hnew_; (first | rw [← Ny151.out] at ho65 | (simp only [Int.reduceToNat] at ho65; rw [← Ny151.out] at ho65)); have n0_ := Aside0.mk (Kd.V_below (by (with_reducible repeat (first | apply Kd.V_alloc | apply Kd.V_drewN | apply Kd.V_drew)); exact HO146.out) hb); have n1_ := Aside0.mk (Kd.V_below (by (with_reducible repeat (first | apply Kd.V_alloc | apply Kd.V_drewN | apply Kd.V_drew)); exact HO149.out) hb); have n2_ := Aside0.mk (Kd.V_lower (Kd.V_mono (ok' := fun k_ => True) ho65 (fun k_ hk_ => trivial)) (below_size (by repeat (first | (with_reducible first | exact HB.out | apply below_alloc | apply pw_below_drewN | apply below_drew1) | exact HB.out)))); have n3_ := Aside0.mk (below_step (by repeat (first | (with_reducible first | exact HB.out | apply below_alloc | apply pw_below_drewN | apply below_drew1) | exact HB.out)) hb); clear HO146; clear HO149; clear HB; have HO146 := n0_; have HO149 := n1_; have HO153 := n2_; have HB := n3_; clear n0_ n1_ n2_ n3_; clear hb ho65) | ((with_reducible refine gate_dst (N := 11) rfl ?_); (try (refine gate_guard (by rfl) ?_; dsimp only)); refine V_mark 5 22 ?hg (N := 11) ?hd (.tmp 10) ?ho Try.underlying22 Try.underlying5 (xs := ([97, 32, 32, 32, 98] : List Int)) ?hx ?hi (by simp) ?_; (case hd => rfl); (case hg => rfl); (case ho => rfl); (case hx => first | rfl | (go_simp; done) | (go_simp; rfl)); (case hi => rfl); intro v155 w66 ho67 hb hg_ hnew_; clear hg_ hnew_; (first | rw [← Ny154.out] at ho67 | (simp only [Int.reduceToNat] at ho67; rw [← Ny154.out] at ho67)); have n0_ := Aside0.mk (Kd.V_below (by (with_reducible repeat (first | apply Kd.V_alloc | apply Kd.V_drewN | apply Kd.V_drew)); exact HO146.out) hb); have n1_ := Aside0.mk (Kd.V_below (by (with_reducible repeat (first | apply Kd.V_alloc | apply Kd.V_drewN | apply Kd.V_drew)); exact HO149.out) hb); have n2_ := Aside0.mk (Kd.V_below (by (with_reducible repeat (first | apply Kd.V_alloc | apply Kd.V_drewN | apply Kd.V_drew)); exact HO153.out) hb); have n3_ := Aside0.mk (Kd.V_lower (Kd.V_mono (ok' := fun k_ => True) ho67 (fun k_ hk_ => trivial)) (below_size (by repeat (first | (with_reducible first | exact HB.out | apply below_alloc | apply pw_below_drewN | apply below_drew1) | exact HB.out)))); have n4_ := Aside0.mk (below_step (by repeat (first | (with_reducible first | exact HB.out | apply below_alloc | apply pw_below_drewN | apply below_drew1) | exact HB.out)) hb); clear HO146; clear HO149; clear HO153; clear HB; have HO146 := n0_; have HO149 := n1_; have HO153 := n2_; have HO156 := n3_; have HB := n4_; clear n0_ n1_ n2_ n3_ n4_; clear hb ho67; obtain ⟨Ao68, co68, eo68⟩ := Kd.V_slice HO153.out; subst eo68; obtain ⟨Ao69, co69, eo69⟩ := Kd.V_slice HO156.out; subst eo69) | (go_at_call 13; (with_reducible refine (keep_Solid.calls k 2 _ _ y151 _ _ y154 t157 _ ?side1 ?side2 ?side3 ?side4 A3.out).mono ?_); (case side1 => repeat (first | exact (Kd.V_reads' HO153.out).2.2 | (with_reducible refine Kd.C_alloc ?_ _) | (with_reducible refine Kd.C_drewN ?_ _) | (with_reducible refine Kd.C_drew ?_))); (case side2 => exact (Kd.V_reads' HO153.out).2.1); (case side3 => repeat (first | exact (Kd.V_reads' HO156.out).2.2 | (with_reducible refine Kd.C_alloc ?_ _) | (with_reducible refine Kd.C_drewN ?_ _) | (with_reducible refine Kd.C_drew ?_))); (case side4 => exact (Kd.V_reads' HO156.out).2.1); rintro e w70 ⟨rfl, hb⟩; have n0_ := Aside0.mk (Kd.V_below (by (with_reducible repeat (first | apply Kd.V_alloc | apply Kd.V_drewN | apply Kd.V_drew)); exact HO146.out) hb); have n1_ := Aside0.mk (Kd.V_below (by (with_reducible repeat (first | apply Kd.V_alloc | apply Kd.V_drewN | apply Kd.V_drew)); exact HO149.out) hb); have n2_ := Aside0.mk (Kd.V_below (by (with_reducible repeat (first | apply Kd.V_alloc | apply Kd.V_drewN | apply Kd.V_drew)); exact HO153.out) hb); have n3_ := Aside0.mk (Kd.V_below (by (with_reducible repeat (first | apply Kd.V_alloc | apply Kd.V_drewN | apply Kd.V_drew)); exact HO156.out) hb); have n4_ := Aside0.mk (below_step (by repeat (first | (with_reducible first | exact HB.out | apply below_alloc | apply pw_below_drewN | apply below_drew1) | exact HB.out)) hb); clear HO146; clear HO149; clear HO153; clear HO156; clear HB; have HO146 := n0_; have HO149 := n1_; have HO153 := n2_; have HO156 := n3_; have HB := n4_; clear n0_ n1_ n2_ n3_ n4_; (try clear hb); (try clear hb2); (try clear hk); (try clear hi)))
      go_ret
      exact ⟨by first | rfl | (simp [errW_none, errW_some] <;> rfl) | (simp [*, errW_none, errW_some] <;> rfl), by repeat (first | (with_reducible first | exact HB.out | apply below_alloc | apply pw_below_drewN | apply below_drew1) | exact HB.out)⟩
  · rw [if_neg c2] at H
    have c2b0 : (t150 == 4) = false := beq_eq_false_iff_ne.mpr c2
    have c2b1 : (t150 != 4) = true := bne_iff_ne.mpr c2
    obtain rfl := Option.some.inj H
    go_enter Try.func9, Try.ntmps9
    go_wp2_with (first | ((with_reducible refine gate_dst (N := 2) rfl ?_); (try (refine gate_guard (by rfl) ?_; dsimp only)); refine V_mark 5 22 ?hg (N := 2) ?hd (.tmp 1) ?ho Try.underlying22 Try.underlying5 (xs := ([97, 32, 98] : List Int)) ?hx ?hi (by simp) ?_; (case hd => rfl); (case hg => rfl); (case ho => rfl); (case hx => first | rfl | (go_simp; done) | (go_simp; rfl)); (case hi => rfl); intro v145 w71 ho72 hb hg_ hnew_; clear hg_ hnew_; (first | rw [← Ny144.out] at ho72 | (simp only [Int.reduceToNat] at ho72; rw [← Ny144.out] at ho72)); have n0_ := Aside0.mk (Kd.V_lower (Kd.V_mono (ok' := fun k_ => True) ho72 (fun k_ hk_ => trivial)) (below_size (by repeat (first | (with_reducible first | exact HB.out | apply below_alloc | apply pw_below_drewN | apply below_drew1) | exact HB.out)))); have n1_ := Aside0.mk (below_step (by repeat (first | (with_reducible first | exact HB.out | apply below_alloc | apply pw_below_drewN | apply below_drew1) | exact HB.out)) hb); clear HB; have HO146 := n0_; have HB := n1_; clear n0_ n1_; clear hb ho72) | ((with_reducible refine gate_dst (N := 4) rfl ?_); (try (refine gate_guard (by rfl) ?_; dsimp only)); refine V_mark 5 22 ?hg (N := 4) ?hd (.tmp 3) ?ho Try.underlying22 Try.underlying5 (xs := ([97, 32, 32, 32, 98] : List Int)) ?hx ?hi (by simp) ?_; (case hd => rfl); (case hg => rfl); (case ho => rfl); (case hx => first | rfl | (go_simp; done) | (go_simp; rfl)); (case hi => rfl); intro v148 w73 ho74 hb hg_ hnew_; clear hg_ hnew_; (first | rw [← Ny147.out] at ho74 | (simp only [Int.reduceToNat] at ho74; rw [← Ny147.out] at ho74)); have n0_ := Aside0.mk (Kd.V_below (by (with_reducible repeat (first | apply Kd.V_alloc | apply Kd.V_drewN | apply Kd.V_drew)); exact HO146.out) hb); have n1_ := Aside0.mk (Kd.V_lower (Kd.V_mono (ok' := fun k_ => True) ho74 (fun k_ hk_ => trivial)) (below_size (by repeat (first | (with_reducible first | exact HB.out | apply below_alloc | apply pw_below_drewN | apply below_drew1) | exact HB.out)))); have n2_ := Aside0.mk (below_step (by repeat (first | (with_reducible first | exact HB.out | apply below_alloc | apply pw_below_drewN | apply below_drew1) | exact HB.out)) hb); clear HO146; clear HB; have HO146 := n0_; have HO149 := n1_; have HB := n2_; clear n0_ n1_ n2_; clear hb ho74; obtain ⟨Ao75, co75, eo75⟩ := Kd.V_slice HO146.out; subst eo75; obtain ⟨Ao76, co76, eo76⟩ := Kd.V_slice HO149.out; subst eo76) | ((with_reducible refine gate_callee (f := 13) rfl ?_); refine goesL_ (some 5) rfl rfl Try.func13 (by kernel_rfl) rfl #[.int .i64 1, .slice Ao75 y144.length co75, .slice Ao76 y147.length co76] rfl (by (try simp only [List.map_toArray, List.map_cons, List.map_nil]); first | done | rfl | (simp only [List.length_drop, List.length_take]; rfl)) ?_; (with_reducible refine (keep_Solid.calls k 1 _ _ y144 _ _ y147 t150 _ ?side1 ?side2 ?side3 ?side4 A1.out).mono ?_); (case side1 => repeat (first | exact (Kd.V_reads' HO146.out).2.2 | (with_reducible refine Kd.C_alloc ?_ _) | (with_reducible refine Kd.C_drewN ?_ _) | (with_reducible refine Kd.C_drew ?_))); (case side2 => exact (Kd.V_reads' HO146.out).2.1); (case side3 => repeat (first | exact (Kd.V_reads' HO149.out).2.2 | (with_reducible refine Kd.C_alloc ?_ _) | (with_reducible refine Kd.C_drewN ?_ _) | (with_reducible refine Kd.C_drew ?_))); (case side4 => exact (Kd.V_reads' HO149.out).2.1); rintro e w77 ⟨rfl, hb⟩; refine ⟨_, rfl, ?_⟩; have n0_ := Aside0.mk (Kd.V_below (by (with_reducible repeat (first | apply Kd.V_alloc | apply Kd.V_drewN | apply Kd.V_drew)); exact HO146.out) hb); have n1_ := Aside0.mk (Kd.V_below (by (with_reducible repeat (first | apply Kd.V_alloc | apply Kd.V_drewN | apply Kd.V_drew)); exact HO149.out) hb); have n2_ := Aside0.mk (below_step (by repeat (first | (with_reducible first | exact HB.out | apply below_alloc | apply pw_below_drewN | apply below_drew1) | exact HB.out)) hb); clear HO146; clear HO149; clear HB; have HO146 := n0_; have HO149 := n1_; have HB := n2_; clear n0_ n1_ n2_; (try clear hb); (try clear hb2); (try clear hk); (try clear hi)))
    go_ret
    exact ⟨by first | rfl | (simp [errW_none, errW_some] <;> rfl) | (simp [*, errW_none, errW_some] <;> rfl), by repeat (first | (with_reducible first | exact HB.out | apply below_alloc | apply pw_below_drewN | apply below_drew1) | exact HB.out)⟩

/-! ### platenlaw18_spans: function 11 -/
def platenlaw18_spans.l0 : Nat → List Int → List (S33) → Int → Int → Option ((List (S33)))
  | 0, _, _, _, _ => none
  | k + 1, x0, x3, x4, x5 => if x5 < (x0.length : Int) then (if 0 ≤ x5 then (if x3.length < 8796093022208 then (platenlaw18_spans.l0 k x0 (x3 ++ [(⟨wrap64 (x4 + (Int.tmod (wrap64 (rd x0 x5)) 5)), wrap64 ((Int.tmod (wrap64 (Int.tdiv (wrap64 (rd x0 x5)) 5)) 6) + 1)⟩ : S33)]) (wrap64 ((wrap64 (x4 + (Int.tmod (wrap64 (rd x0 x5)) 5))) + (wrap64 ((Int.tmod (wrap64 (Int.tdiv (wrap64 (rd x0 x5)) 5)) 6) + 1)))) (wrap64 (x5 + 1))) else (none)) else (none)) else (some x3)
def platenlaw18_spans.f (k : Nat) (l0 : List Int) : Option ((List (S33))) := platenlaw18_spans.l0 k l0 ([] : List (S33)) 0 0
theorem platenlaw18_spans.mono_l : ∀ k, (∀ y0 y1 y2 y3, LeO (platenlaw18_spans.l0 k y0 y1 y2 y3) (platenlaw18_spans.l0 (k + 1) y0 y1 y2 y3))
  | 0 => fun _ _ _ _ r h => by simp [platenlaw18_spans.l0] at h
  | k + 1 => by
    have ih0 := platenlaw18_spans.mono_l k
    · intro y0 y1 y2 y3
      unfold platenlaw18_spans.l0
      repeat' first
      | (with_reducible exact ih0 _ _ _ _)
      | (with_reducible exact LeO.refl _)
      | (with_reducible exact LeO.none _)
      | (with_reducible refine LeO.ite ?_ ?_)
      | (with_reducible refine LeO.bind ?_ (fun _ => ?_))
      | exact ih0 _ _ _ _
      | exact LeO.none _
      | refine LeO.ite ?_ ?_
      | refine LeO.bind ?_ (fun _ => ?_)
theorem platenlaw18_spans.mono : ∀ a0 k, LeO (platenlaw18_spans.f k a0) (platenlaw18_spans.f (k + 1) a0) := by
  intro a0 k
  have ih0 := platenlaw18_spans.mono_l k
  unfold platenlaw18_spans.f
  repeat' first
      | (with_reducible exact ih0 _ _ _ _)
      | (with_reducible exact LeO.refl _)
      | (with_reducible exact LeO.none _)
      | (with_reducible refine LeO.ite ?_ ?_)
      | (with_reducible refine LeO.bind ?_ (fun _ => ?_))
      | exact ih0 _ _ _ _
      | exact LeO.none _
      | refine LeO.ite ?_ ?_
      | refine LeO.bind ?_ (fun _ => ?_)
set_option maxHeartbeats 8000000 in
set_option maxRecDepth 100000 in
theorem platenlaw18_spans.calls (k : Nat) (A0 : Option Addr) (c0 : Nat) (l0 : List Int) (r : List (S33)) (w : World) (hr0 : Kd.C (Kd.int .u8) w A0 l0.length l0) (hc0 : l0.length ≤ c0) (h : platenlaw18_spans.f k l0 = some r) :
    Calls Try.prog 11 #[.slice A0 l0.length c0] w fun e w' => ∃ v0_ : Value, e = .returned (v0_) ∧ Kd.R k33 33 w' w.heap.size (fun _ => True) v0_ r ∧ Below w.heap.size w w' := by
  have hu33 := Try.underlying33
  have HR0 := Aside0.mk hr0
  have HC0 := Aside0.mk hc0
  clear hr0 hc0
  have HB := Aside0.mk (Below.refl w.heap.size w)
  have H : (platenlaw18_spans.l0 k l0 ([] : List (S33)) 0 0) = some r := h
  clear h
  have H' := Aside0.mk H
  clear H
  go_enter Try.func11, Try.ntmps11
  go_wp2
  go_loopg [3, 4, 5] k (fun kq v3 v4 v5 w' => ∃ (x3_1 : List (S33)) (x4_1 : Int) (x5_1 : Int), v4 = .int .i64 x4_1 ∧ v5 = .int .i64 x5_1 ∧ Aside0 (platenlaw18_spans.l0 kq l0 x3_1 x4_1 x5_1 = some r) ∧ Aside0 (kq ≤ k) ∧ Aside0 (Kd.R k33 33 w' w.heap.size (fun _ => True) v3 x3_1) ∧ Aside0 (Below w.heap.size w w'))
  case atStart => exact ⟨(([] : List (S33))), (0), (0), (by first | rfl | (simp; done) | (simp [*]; done)), (by first | rfl | (simp; done) | (simp [*]; done)), H', ⟨Nat.le_refl _⟩, ⟨by first | exact Kd.R_nil _ _ _ _ _ | exact Kd.N_nil _ _ _ _ _ | exact Kd.V_nil _ _ _ _ _ | exact Kd.Q_nil _ _ _ _ _ | exact Kd.S_nil _ _ _ _ _⟩, ⟨by repeat (first | (with_reducible first | exact HB.out | apply below_alloc | apply pw_below_drewN | apply below_drew1) | exact HB.out)⟩⟩
  case round =>
    clear H'
    try clear c1
    obtain ⟨x3_1, x4_1, x5_1, rfl, rfl, HA, HK1, HO_3, HB⟩ := hrel
    cases gk with
    | zero => exact absurd HA.out (by simp [platenlaw18_spans.l0])
    | succ k1 =>
      have H := HA.out
      clear HA
      simp only [platenlaw18_spans.l0] at H
      by_cases c2 : x5_1 < (l0.length : Int)
      · rw [if_pos c2] at H
        have c2b0 : decide (x5_1 < (l0.length : Int)) = true := decide_eq_true c2
        clear c2
        by_cases c3 : 0 ≤ x5_1
        · rw [if_pos c3] at H
          have c3b0 : decide (0 ≤ x5_1) = true := decide_eq_true c3
          clear c3
          by_cases c4 : x3_1.length < 8796093022208
          · rw [if_pos c4] at H
            have LMc4 := Aside0.mk c4
            clear c4
            obtain ⟨y174, hy174⟩ : ∃ y_ : List (S33), y_ = (x3_1 ++ [(⟨wrap64 (x4_1 + (Int.tmod (wrap64 (rd l0 x5_1)) 5)), wrap64 ((Int.tmod (wrap64 (Int.tdiv (wrap64 (rd l0 x5_1)) 5)) 6) + 1)⟩ : S33)]) := ⟨_, rfl⟩
            replace H : (platenlaw18_spans.l0 k1 l0 y174 (wrap64 ((wrap64 (x4_1 + (Int.tmod (wrap64 (rd l0 x5_1)) 5))) + (wrap64 ((Int.tmod (wrap64 (Int.tdiv (wrap64 (rd l0 x5_1)) 5)) 6) + 1)))) (wrap64 (x5_1 + 1))) = some r := by first | (rw [hy174]; with_reducible exact H) | (have H2_ := (Option.bind_some _ _).symm.trans H; rw [hy174]; with_reducible exact H2_) | (have H2_ := (Option.bind_some _ _).symm.trans H; with_reducible exact H2_) | with_reducible exact H | (rw [hy174]; exact H) | exact H
            have Ny174 := Aside0.mk hy174
            clear hy174
            have H' := Aside0.mk H
            clear H
            have p172 : 0 ≤ (x5_1 : Int) := of_decide_eq_true (by first | (with_reducible assumption) | assumption)
            have q172 : x5_1 < (l0.length : Int) := of_decide_eq_true (by first | (with_reducible assumption) | assumption)
            obtain ⟨ad172, e172, hx172_0⟩ := Kd.at_int HR0.out x5_1 p172 q172
            cases e172
            replace hx172_0 := (HB.out.cell (World.block_lt_of_cell? w _ hx172_0)).trans hx172_0
            replace p172 := eq_true p172
            replace q172 := eq_true q172
            have p173 : 0 ≤ (x5_1 : Int) := of_decide_eq_true (by first | (with_reducible assumption) | assumption)
            have q173 : x5_1 < (l0.length : Int) := of_decide_eq_true (by first | (with_reducible assumption) | assumption)
            obtain ⟨ad173, e173, hx173_0⟩ := Kd.at_int HR0.out x5_1 p173 q173
            obtain rfl : ad172 = ad173 := (by injection e173)
            replace hx173_0 := (HB.out.cell (World.block_lt_of_cell? w _ hx173_0)).trans hx173_0
            replace p173 := eq_true p173
            replace q173 := eq_true q173
            go_wp2_with (first | ((with_reducible refine gate_builtin (b := .append) (xs := #[.tmp 29, .tmp 33]) rfl ?_); at_builtin; refine Kd.R_append k33 (w0 := w) w.heap.size rfl (.tmp 29) (.tmp 33) 25 33 (.agg #[(.int .i64 0), (.int .i64 0)]) 16 rfl Try.underlying25 info33 rfl (by decide) (by omega) u3 x3_1 (⟨wrap64 (x4_1 + (Int.tmod (wrap64 (rd l0 x5_1)) 5)), wrap64 ((Int.tmod (wrap64 (Int.tdiv (wrap64 (rd l0 x5_1)) 5)) 6) + 1)⟩ : S33) [.int .i64 (wrap64 (x4_1 + (Int.tmod (wrap64 (rd l0 x5_1)) 5))), .int .i64 (wrap64 ((Int.tmod (wrap64 (Int.tdiv (wrap64 (rd l0 x5_1)) 5)) 6) + 1))] (fun _ => True) (fun _ => False) rfl rfl ?aP (fun _ hk => hk.elim) ?aF ?aO ?aB ?aS ?aL ?_; (case aP => exact k33_mkM _ _ _ (⟨wrap64 (x4_1 + (Int.tmod (wrap64 (rd l0 x5_1)) 5)), wrap64 ((Int.tmod (wrap64 (Int.tdiv (wrap64 (rd l0 x5_1)) 5)) 6) + 1)⟩ : S33)); (case aB => exact (by repeat (first | (with_reducible first | exact HB.out | apply below_alloc | apply pw_below_drewN | apply below_drew1) | exact HB.out))); (case aF => exact (fun _ _ => trivial)); (case aO => exact (by (with_reducible repeat (first | apply Kd.R_alloc | apply Kd.R_drewN | apply Kd.R_drew)); exact HO_3.out)); (case aS => exact (below_size (by repeat (first | (with_reducible first | exact HB.out | apply below_alloc | apply pw_below_drewN | apply below_drew1) | exact HB.out)))); (case aL => have := LMc4.out; omega); intro v175 w5 ho hb hg hat; rw [← Ny174.out] at ho; have n0_ := Aside0.mk (hb); have n1_ := Aside0.mk (ho); clear HB; clear HO_3; have HB := n0_; have HO176 := n1_; clear n0_ n1_; clear ho hb hg hat))
            go_roundg k1
            case measure => have := HK1.out; omega
            case rel => exact ⟨(y174), (wrap64 ((wrap64 (x4_1 + (Int.tmod (wrap64 (rd l0 x5_1)) 5))) + (wrap64 ((Int.tmod (wrap64 (Int.tdiv (wrap64 (rd l0 x5_1)) 5)) 6) + 1)))), (wrap64 (x5_1 + 1)), (by first | rfl | (simp; done) | (simp [*]; done)), (by first | rfl | (simp; done) | (simp [*]; done)), H', ⟨by have := HK1.out; omega⟩, ⟨by (with_reducible repeat (first | apply Kd.R_alloc | apply Kd.R_drewN | apply Kd.R_drew)); exact HO176.out⟩, ⟨by repeat (first | (with_reducible first | exact HB.out | apply below_alloc | apply pw_below_drewN | apply below_drew1) | exact HB.out)⟩⟩
          · rw [if_neg c4] at H
            exact absurd H (by simp)
        · rw [if_neg c3] at H
          exact absurd H (by simp)
      · rw [if_neg c2] at H
        have c2b0 : decide (x5_1 < (l0.length : Int)) = false := decide_eq_false c2
        clear c2
        obtain rfl := Option.some.inj H
        go_wp2
        go_ret
        exact ⟨_, by first | rfl | (simp [errW_none, errW_some] <;> rfl) | (simp [*, errW_none, errW_some] <;> rfl), by (with_reducible repeat (first | apply Kd.R_alloc | apply Kd.R_drewN | apply Kd.R_drew)); exact HO_3.out, by repeat (first | (with_reducible first | exact HB.out | apply below_alloc | apply pw_below_drewN | apply below_drew1) | exact HB.out)⟩

/-! ### platenref18_Place: function 12 -/
def platenref18_Place.l0 : Nat → Int → List (S33) → List (S33) → Int → Int → Option (Int)
  | 0, _, _, _, _, _ => none
  | k + 1, x0, x1, x2, x3, x9 => if x9 < (x1.length : Int) then (if 0 ≤ x9 then (if (wrap64 (((rd_T33 x1 x9).f0) + ((rd_T33 x1 x9).f1))) ≤ x0 then (platenref18_Place.l0 k x0 x1 x2 x3 (wrap64 (x9 + 1))) else (if x9 ≥ (x2.length : Int) then (some x3) else (if x0 > ((rd_T33 x1 x9).f0) then (if x9 < (x2.length : Int) then (some (wrap64 (((rd_T33 x2 x9).f0) + (wrap64 (x0 - ((rd_T33 x1 x9).f0)))))) else (none)) else (if x9 < (x2.length : Int) then (some ((rd_T33 x2 x9).f0)) else (none))))) else (none)) else (some x3)
def platenref18_Place.f (k : Nat) (a0 : Int) (l1 : List (S33)) (l2 : List (S33)) (a3 : Int) : Option (Int) := platenref18_Place.l0 k a0 l1 l2 a3 0
theorem platenref18_Place.mono_l : ∀ k, (∀ y0 y1 y2 y3 y4, LeO (platenref18_Place.l0 k y0 y1 y2 y3 y4) (platenref18_Place.l0 (k + 1) y0 y1 y2 y3 y4))
  | 0 => fun _ _ _ _ _ r h => by simp [platenref18_Place.l0] at h
  | k + 1 => by
    have ih0 := platenref18_Place.mono_l k
    · intro y0 y1 y2 y3 y4
      unfold platenref18_Place.l0
      repeat' first
      | (with_reducible exact ih0 _ _ _ _ _)
      | (with_reducible exact LeO.refl _)
      | (with_reducible exact LeO.none _)
      | (with_reducible refine LeO.ite ?_ ?_)
      | (with_reducible refine LeO.bind ?_ (fun _ => ?_))
      | exact ih0 _ _ _ _ _
      | exact LeO.none _
      | refine LeO.ite ?_ ?_
      | refine LeO.bind ?_ (fun _ => ?_)
theorem platenref18_Place.mono : ∀ a0 a1 a2 a3 k, LeO (platenref18_Place.f k a0 a1 a2 a3) (platenref18_Place.f (k + 1) a0 a1 a2 a3) := by
  intro a0 a1 a2 a3 k
  have ih0 := platenref18_Place.mono_l k
  unfold platenref18_Place.f
  repeat' first
      | (with_reducible exact ih0 _ _ _ _ _)
      | (with_reducible exact LeO.refl _)
      | (with_reducible exact LeO.none _)
      | (with_reducible refine LeO.ite ?_ ?_)
      | (with_reducible refine LeO.bind ?_ (fun _ => ?_))
      | exact ih0 _ _ _ _ _
      | exact LeO.none _
      | refine LeO.ite ?_ ?_
      | refine LeO.bind ?_ (fun _ => ?_)
set_option maxHeartbeats 8000000 in
set_option maxRecDepth 100000 in
theorem platenref18_Place.calls (k : Nat) (a0 : Int) (A1 : Option Addr) (c1 : Nat) (l1 : List (S33)) (A2 : Option Addr) (c2 : Nat) (l2 : List (S33)) (a3 : Int) (r : Int) (w : World) (hr1 : Kd.C k33 w A1 l1.length l1) (hc1 : l1.length ≤ c1) (hr2 : Kd.C k33 w A2 l2.length l2) (hc2 : l2.length ≤ c2) (h : platenref18_Place.f k a0 l1 l2 a3 = some r) :
    Calls Try.prog 12 #[.int .i64 a0, .slice A1 l1.length c1, .slice A2 l2.length c2, .int .i64 a3] w fun e w' => e = .returned (.int .i64 r) ∧ Drawn0 w w' := by
  have HR1 := Aside0.mk hr1
  have HC1 := Aside0.mk hc1
  clear hr1 hc1
  have HR2 := Aside0.mk hr2
  have HC2 := Aside0.mk hc2
  clear hr2 hc2
  have H : (platenref18_Place.l0 k a0 l1 l2 a3 0) = some r := h
  clear h
  have H' := Aside0.mk H
  clear H
  go_enter Try.func12, Try.ntmps12
  go_wp2
  repeat (go_quiet (fail); try go_wp2)
  go_loopg [9] k (fun kq v9 w' => ∃ (x9_1 : Int), v9 = .int .i64 x9_1 ∧ Aside0 (platenref18_Place.l0 kq a0 l1 l2 a3 x9_1 = some r) ∧ Aside0 (kq ≤ k) ∧ Drawn0 w w')
  case atStart => exact ⟨(0), (by first | rfl | (simp; done) | (simp [*]; done)), H', ⟨Nat.le_refl _⟩, by repeat (first | exact Drawn0.refl _ | apply Drawn0.step)⟩
  case round =>
    clear H'
    try clear c1
    try clear c2
    try clear p2
    obtain ⟨x9_1, rfl, HA, HK1, ⟨m1, rfl⟩⟩ := hrel
    cases gk with
    | zero => exact absurd HA.out (by simp [platenref18_Place.l0])
    | succ k1 =>
      have H := HA.out
      clear HA
      simp only [platenref18_Place.l0] at H
      by_cases c5 : x9_1 < (l1.length : Int)
      · rw [if_pos c5] at H
        have c5b0 : decide (x9_1 < (l1.length : Int)) = true := decide_eq_true c5
        clear c5
        by_cases c6 : 0 ≤ x9_1
        · rw [if_pos c6] at H
          have c6b0 : decide (0 ≤ x9_1) = true := decide_eq_true c6
          clear c6
          by_cases c7 : (wrap64 (((rd_T33 l1 x9_1).f0) + ((rd_T33 l1 x9_1).f1))) ≤ a0
          · rw [if_pos c7] at H
            have c7b0 : decide ((wrap64 (((rd_T33 l1 x9_1).f0) + ((rd_T33 l1 x9_1).f1))) ≤ a0) = true := decide_eq_true c7
            clear c7
            have H' := Aside0.mk H
            clear H
            have p177 : 0 ≤ (x9_1 : Int) := of_decide_eq_true (by first | (with_reducible assumption) | assumption)
            have q177 : x9_1 < (l1.length : Int) := of_decide_eq_true (by first | (with_reducible assumption) | assumption)
            obtain ⟨ad177, e177, hx177_0, hx177_1⟩ := at_T33 HR1.out x9_1 p177 q177
            cases e177
            replace p177 := eq_true p177
            replace q177 := eq_true q177
            have p178 : 0 ≤ (x9_1 : Int) := of_decide_eq_true (by first | (with_reducible assumption) | assumption)
            have q178 : x9_1 < (l1.length : Int) := of_decide_eq_true (by first | (with_reducible assumption) | assumption)
            obtain ⟨ad178, e178, hx178_0, hx178_1⟩ := at_T33 HR1.out x9_1 p178 q178
            obtain rfl : ad177 = ad178 := (by injection e178)
            replace p178 := eq_true p178
            replace q178 := eq_true q178
            go_wp2
            repeat (go_quiet (fail); try go_wp2)
            go_roundg k1
            case measure => have := HK1.out; omega
            case rel => exact ⟨(wrap64 (x9_1 + 1)), (by first | rfl | (simp; done) | (simp [*]; done)), H', ⟨by have := HK1.out; omega⟩, by repeat (first | exact Drawn0.refl _ | apply Drawn0.step)⟩
          · rw [if_neg c7] at H
            have c7b0 : decide ((wrap64 (((rd_T33 l1 x9_1).f0) + ((rd_T33 l1 x9_1).f1))) ≤ a0) = false := decide_eq_false c7
            clear c7
            by_cases c8 : x9_1 ≥ (l2.length : Int)
            · rw [if_pos c8] at H
              have c8b0 : decide ((l2.length : Int) ≤ x9_1) = true := decide_eq_true c8
              clear c8
              obtain rfl := Option.some.inj H
              have p177 : 0 ≤ (x9_1 : Int) := of_decide_eq_true (by first | (with_reducible assumption) | assumption)
              have q177 : x9_1 < (l1.length : Int) := of_decide_eq_true (by first | (with_reducible assumption) | assumption)
              obtain ⟨ad177, e177, hx177_0, hx177_1⟩ := at_T33 HR1.out x9_1 p177 q177
              cases e177
              replace p177 := eq_true p177
              replace q177 := eq_true q177
              have p178 : 0 ≤ (x9_1 : Int) := of_decide_eq_true (by first | (with_reducible assumption) | assumption)
              have q178 : x9_1 < (l1.length : Int) := of_decide_eq_true (by first | (with_reducible assumption) | assumption)
              obtain ⟨ad178, e178, hx178_0, hx178_1⟩ := at_T33 HR1.out x9_1 p178 q178
              obtain rfl : ad177 = ad178 := (by injection e178)
              replace p178 := eq_true p178
              replace q178 := eq_true q178
              go_wp2
              repeat (go_quiet (fail); try go_wp2)
              go_ret
              exact ⟨by first | rfl | (simp; done) | (simp [*]; done), by repeat (first | exact Drawn0.refl _ | apply Drawn0.step)⟩
            · rw [if_neg c8] at H
              have c8b0 : decide ((l2.length : Int) ≤ x9_1) = false := decide_eq_false c8
              clear c8
              by_cases c9 : a0 > ((rd_T33 l1 x9_1).f0)
              · rw [if_pos c9] at H
                have c9b0 : decide (((rd_T33 l1 x9_1).f0) < a0) = true := decide_eq_true c9
                clear c9
                by_cases c10 : x9_1 < (l2.length : Int)
                · rw [if_pos c10] at H
                  have c10b0 : decide (x9_1 < (l2.length : Int)) = true := decide_eq_true c10
                  clear c10
                  obtain rfl := Option.some.inj H
                  have p177 : 0 ≤ (x9_1 : Int) := of_decide_eq_true (by first | (with_reducible assumption) | assumption)
                  have q177 : x9_1 < (l1.length : Int) := of_decide_eq_true (by first | (with_reducible assumption) | assumption)
                  obtain ⟨ad177, e177, hx177_0, hx177_1⟩ := at_T33 HR1.out x9_1 p177 q177
                  cases e177
                  replace p177 := eq_true p177
                  replace q177 := eq_true q177
                  have p178 : 0 ≤ (x9_1 : Int) := of_decide_eq_true (by first | (with_reducible assumption) | assumption)
                  have q178 : x9_1 < (l1.length : Int) := of_decide_eq_true (by first | (with_reducible assumption) | assumption)
                  obtain ⟨ad178, e178, hx178_0, hx178_1⟩ := at_T33 HR1.out x9_1 p178 q178
                  obtain rfl : ad177 = ad178 := (by injection e178)
                  replace p178 := eq_true p178
                  replace q178 := eq_true q178
                  have p179 : 0 ≤ (x9_1 : Int) := of_decide_eq_true (by first | (with_reducible assumption) | assumption)
                  have q179 : x9_1 < (l1.length : Int) := of_decide_eq_true (by first | (with_reducible assumption) | assumption)
                  obtain ⟨ad179, e179, hx179_0, hx179_1⟩ := at_T33 HR1.out x9_1 p179 q179
                  obtain rfl : ad177 = ad179 := (by injection e179)
                  replace p179 := eq_true p179
                  replace q179 := eq_true q179
                  have p180 : 0 ≤ (x9_1 : Int) := of_decide_eq_true (by first | (with_reducible assumption) | assumption)
                  have q180 : x9_1 < (l2.length : Int) := of_decide_eq_true (by first | (with_reducible assumption) | assumption)
                  obtain ⟨ad180, e180, hx180_0, hx180_1⟩ := at_T33 HR2.out x9_1 p180 q180
                  cases e180
                  replace p180 := eq_true p180
                  replace q180 := eq_true q180
                  have p181 : 0 ≤ (x9_1 : Int) := of_decide_eq_true (by first | (with_reducible assumption) | assumption)
                  have q181 : x9_1 < (l1.length : Int) := of_decide_eq_true (by first | (with_reducible assumption) | assumption)
                  obtain ⟨ad181, e181, hx181_0, hx181_1⟩ := at_T33 HR1.out x9_1 p181 q181
                  obtain rfl : ad177 = ad181 := (by injection e181)
                  replace p181 := eq_true p181
                  replace q181 := eq_true q181
                  go_wp2
                  repeat (go_quiet (fail); try go_wp2)
                  go_ret
                  exact ⟨by first | rfl | (simp; done) | (simp [*]; done), by repeat (first | exact Drawn0.refl _ | apply Drawn0.step)⟩
                · rw [if_neg c10] at H
                  exact absurd H (by simp)
              · rw [if_neg c9] at H
                have c9b0 : decide (((rd_T33 l1 x9_1).f0) < a0) = false := decide_eq_false c9
                clear c9
                by_cases c11 : x9_1 < (l2.length : Int)
                · rw [if_pos c11] at H
                  have c11b0 : decide (x9_1 < (l2.length : Int)) = true := decide_eq_true c11
                  clear c11
                  obtain rfl := Option.some.inj H
                  have p177 : 0 ≤ (x9_1 : Int) := of_decide_eq_true (by first | (with_reducible assumption) | assumption)
                  have q177 : x9_1 < (l1.length : Int) := of_decide_eq_true (by first | (with_reducible assumption) | assumption)
                  obtain ⟨ad177, e177, hx177_0, hx177_1⟩ := at_T33 HR1.out x9_1 p177 q177
                  cases e177
                  replace p177 := eq_true p177
                  replace q177 := eq_true q177
                  have p178 : 0 ≤ (x9_1 : Int) := of_decide_eq_true (by first | (with_reducible assumption) | assumption)
                  have q178 : x9_1 < (l1.length : Int) := of_decide_eq_true (by first | (with_reducible assumption) | assumption)
                  obtain ⟨ad178, e178, hx178_0, hx178_1⟩ := at_T33 HR1.out x9_1 p178 q178
                  obtain rfl : ad177 = ad178 := (by injection e178)
                  replace p178 := eq_true p178
                  replace q178 := eq_true q178
                  have p179 : 0 ≤ (x9_1 : Int) := of_decide_eq_true (by first | (with_reducible assumption) | assumption)
                  have q179 : x9_1 < (l1.length : Int) := of_decide_eq_true (by first | (with_reducible assumption) | assumption)
                  obtain ⟨ad179, e179, hx179_0, hx179_1⟩ := at_T33 HR1.out x9_1 p179 q179
                  obtain rfl : ad177 = ad179 := (by injection e179)
                  replace p179 := eq_true p179
                  replace q179 := eq_true q179
                  have p182 : 0 ≤ (x9_1 : Int) := of_decide_eq_true (by first | (with_reducible assumption) | assumption)
                  have q182 : x9_1 < (l2.length : Int) := of_decide_eq_true (by first | (with_reducible assumption) | assumption)
                  obtain ⟨ad182, e182, hx182_0, hx182_1⟩ := at_T33 HR2.out x9_1 p182 q182
                  cases e182
                  replace p182 := eq_true p182
                  replace q182 := eq_true q182
                  go_wp2
                  repeat (go_quiet (fail); try go_wp2)
                  go_ret
                  exact ⟨by first | rfl | (simp; done) | (simp [*]; done), by repeat (first | exact Drawn0.refl _ | apply Drawn0.step)⟩
                · rw [if_neg c11] at H
                  exact absurd H (by simp)
        · rw [if_neg c6] at H
          exact absurd H (by simp)
      · rw [if_neg c5] at H
        have c5b0 : decide (x9_1 < (l1.length : Int)) = false := decide_eq_false c5
        clear c5
        obtain rfl := Option.some.inj H
        go_wp2
        repeat (go_quiet (fail); try go_wp2)
        go_ret
        exact ⟨by first | rfl | (simp; done) | (simp [*]; done), by repeat (first | exact Drawn0.refl _ | apply Drawn0.step)⟩

end Go.Proofs.Ytemmalkgjfdlcaa.Pa
