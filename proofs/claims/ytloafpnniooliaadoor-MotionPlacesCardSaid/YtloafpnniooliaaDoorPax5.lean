-- Laid by a program of this claim's own (wip/tools/mkprint.py, ext.py): walks of the functions that the statements reach.
import Derived.Test.YtloafpnniooliaaDoorPax0
import Derived.Test.YtloafpnniooliaaDoorPax2
import Derived.Test.YtloafpnniooliaaDoorPax3
import Derived.Test.YtloafpnniooliaaDoorPax4
namespace Go.Proofs.YtloafpnniooliaaDoor.Pa
open Go.RowKit Go.Proofs.YtloafpnniooliaaDoor.Ext Go.Proofs.YtloafpnniooliaaDoorW.PrintWords Go.Proofs.YtloafpnniooliaaDoorW.PrintLast Go.Proofs.YtloafpnniooliaaDoorW.PrintMore
attribute [local go_sem] max2_int min2_int max_two min_two max_three min_three max_four min_four   -- for this text's walks alone
set_option linter.unusedVariables false
set_option linter.unusedSimpArgs false

/-! ### bytes_LastIndexByte: function 76 -/
def bytes_LastIndexByte.f (k : Nat) (l0 : List Int) (a1 : Int) : Option (Int) := (bytealg_LastIndexByte.f k l0 a1).bind fun t163 => (some t163)
theorem bytes_LastIndexByte.mono : ∀ a0 a1 k, LeO (bytes_LastIndexByte.f k a0 a1) (bytes_LastIndexByte.f (k + 1) a0 a1) := by
  intro a0 a1 k
  unfold bytes_LastIndexByte.f
  repeat' first
      | (with_reducible exact bytealg_LastIndexByte.mono _ _ _)
      | (with_reducible exact LeO.refl _)
      | (with_reducible exact LeO.none _)
      | (with_reducible refine LeO.ite ?_ ?_)
      | (with_reducible refine LeO.bind ?_ (fun _ => ?_))
      | exact bytealg_LastIndexByte.mono _ _ _
      | exact LeO.none _
      | refine LeO.ite ?_ ?_
      | refine LeO.bind ?_ (fun _ => ?_)
set_option maxHeartbeats 8000000 in
set_option maxRecDepth 100000 in
theorem bytes_LastIndexByte.calls (k : Nat) (A0 : Option Addr) (c0 : Nat) (l0 : List Int) (a1 : Int) (r : Int) (w : World) (hr0 : Kd.C (Kd.int .u8) w A0 l0.length l0) (hc0 : l0.length ≤ c0) (h : bytes_LastIndexByte.f k l0 a1 = some r) :
    Calls Tryd.prog 76 #[.slice A0 l0.length c0, .int .u8 a1] w fun e w' => e = .returned (.int .i64 r) ∧ Drawn0 w w' := by
  have HR0 := Aside0.mk hr0
  have HC0 := Aside0.mk hc0
  clear hr0 hc0
  have H : ((bytealg_LastIndexByte.f k l0 a1).bind fun t163 => (some t163)) = some r := h
  clear h
  replace H := Option.bind_eq_some_iff.mp H
  obtain ⟨t163, A30, H⟩ := H
  replace H : (some t163) = some r := H
  have A3 := Aside0.mk A30
  clear A30
  obtain rfl := Option.some.inj H
  go_enter Tryd.func76, Tryd.ntmps76
  go_wp2_with (first | ((with_reducible refine gate_callee (f := 85) rfl ?_); refine goesL_ (some 7) rfl rfl Tryd.func85 (by kernel_rfl) rfl #[.slice A0 l0.length c0, .int .u8 a1] rfl (by (try simp only [List.map_toArray, List.map_cons, List.map_nil]); first | done | rfl | (simp only [List.length_drop, List.length_take]; rfl)) ?_; (with_reducible refine (bytealg_LastIndexByte.calls k _ _ l0 a1 t163 _ ?side1 ?side2 A3.out).mono ?_); (case side1 => repeat (first | exact HR0.out | (with_reducible refine Kd.C_alloc ?_ _) | (with_reducible refine Kd.C_drewN ?_ _) | (with_reducible refine Kd.C_drew ?_))); (case side2 => exact HC0.out); rintro e w' ⟨rfl, ⟨nd, rfl⟩⟩; refine ⟨_, rfl, ?_⟩))
  go_ret
  exact ⟨by first | rfl | (simp; done) | (simp [*]; done), by repeat (first | exact Drawn0.refl _ | apply Drawn0.step)⟩

/-! ### glyph_Wide: function 77 -/
def glyph_Wide.l0 : Nat → List Int → Int → Int → Int → Option (Int)
  | 0, _, _, _, _ => none
  | k + 1, x0, x1, x2, x7 => if x7 < (x0.length : Int) then (if 0 ≤ x7 then ((glyph_Step.f x1 (rd x0 x7) x2).bind fun t165 => ((glyph_Next.f k x0 x7).bind fun t166 => (glyph_Wide.l0 k x0 t165 x2 (wrap64 (x7 + t166))))) else (none)) else (some x1)
def glyph_Wide.f (k : Nat) (l0 : List Int) (a1 : Int) (a2 : Int) : Option (Int) := glyph_Wide.l0 k l0 a1 a2 0
theorem glyph_Wide.mono_l : ∀ k, (∀ y0 y1 y2 y3, LeO (glyph_Wide.l0 k y0 y1 y2 y3) (glyph_Wide.l0 (k + 1) y0 y1 y2 y3))
  | 0 => fun _ _ _ _ r h => by simp [glyph_Wide.l0] at h
  | k + 1 => by
    have ih0 := glyph_Wide.mono_l k
    · intro y0 y1 y2 y3
      unfold glyph_Wide.l0
      repeat' first
      | (with_reducible exact ih0 _ _ _ _)
      | (with_reducible exact glyph_Next.mono _ _ _)
      | (with_reducible exact LeO.refl _)
      | (with_reducible exact LeO.none _)
      | (with_reducible refine LeO.ite ?_ ?_)
      | (with_reducible refine LeO.bind ?_ (fun _ => ?_))
      | exact ih0 _ _ _ _
      | exact glyph_Next.mono _ _ _
      | exact LeO.none _
      | refine LeO.ite ?_ ?_
      | refine LeO.bind ?_ (fun _ => ?_)
theorem glyph_Wide.mono : ∀ a0 a1 a2 k, LeO (glyph_Wide.f k a0 a1 a2) (glyph_Wide.f (k + 1) a0 a1 a2) := by
  intro a0 a1 a2 k
  have ih0 := glyph_Wide.mono_l k
  unfold glyph_Wide.f
  repeat' first
      | (with_reducible exact ih0 _ _ _ _)
      | (with_reducible exact glyph_Next.mono _ _ _)
      | (with_reducible exact LeO.refl _)
      | (with_reducible exact LeO.none _)
      | (with_reducible refine LeO.ite ?_ ?_)
      | (with_reducible refine LeO.bind ?_ (fun _ => ?_))
      | exact ih0 _ _ _ _
      | exact glyph_Next.mono _ _ _
      | exact LeO.none _
      | refine LeO.ite ?_ ?_
      | refine LeO.bind ?_ (fun _ => ?_)
set_option maxHeartbeats 8000000 in
set_option maxRecDepth 100000 in
theorem glyph_Wide.calls (k : Nat) (A0 : Option Addr) (c0 : Nat) (l0 : List Int) (a1 : Int) (a2 : Int) (r : Int) (w : World) (hT : Tabs w) (hr0 : Kd.C (Kd.int .u8) w A0 l0.length l0) (hc0 : l0.length ≤ c0) (h : glyph_Wide.f k l0 a1 a2 = some r) :
    Calls Tryd.prog 77 #[.slice A0 l0.length c0, .int .i64 a1, .int .i64 a2] w fun e w' => e = .returned (.int .i64 r) ∧ Below w.heap.size w w' := by
  have HR0 := Aside0.mk hr0
  have HC0 := Aside0.mk hc0
  clear hr0 hc0
  have HB := Aside0.mk (Below.refl w.heap.size w)
  have HT := Aside0.mk hT
  clear hT
  have H : (glyph_Wide.l0 k l0 a1 a2 0) = some r := h
  clear h
  have H' := Aside0.mk H
  clear H
  go_enter Tryd.func77, Tryd.ntmps77
  go_wp2
  go_loopg [1, 7] k (fun kq v1 v7 w' => ∃ (x1_1 : Int) (x7_1 : Int), v1 = .int .i64 x1_1 ∧ v7 = .int .i64 x7_1 ∧ Aside0 (glyph_Wide.l0 kq l0 x1_1 a2 x7_1 = some r) ∧ Aside0 (kq ≤ k) ∧ Aside0 (Below w.heap.size w w'))
  case atStart => exact ⟨(a1), (0), (by first | rfl | (simp; done) | (simp [*]; done)), (by first | rfl | (simp; done) | (simp [*]; done)), H', ⟨Nat.le_refl _⟩, ⟨by repeat (first | (with_reducible first | exact HB.out | apply below_alloc | apply pw_below_drewN | apply below_drew1) | exact HB.out)⟩⟩
  case round =>
    clear H'
    try clear p2
    obtain ⟨x1_1, x7_1, rfl, rfl, HA, HK1, HB⟩ := hrel
    cases gk with
    | zero => exact absurd HA.out (by simp [glyph_Wide.l0])
    | succ k1 =>
      have H := HA.out
      clear HA
      simp only [glyph_Wide.l0] at H
      by_cases c4 : x7_1 < (l0.length : Int)
      · rw [if_pos c4] at H
        have c4b0 : decide (x7_1 < (l0.length : Int)) = true := decide_eq_true c4
        clear c4
        by_cases c5 : 0 ≤ x7_1
        · rw [if_pos c5] at H
          have c5b0 : decide (0 ≤ x7_1) = true := decide_eq_true c5
          clear c5
          replace H := Option.bind_eq_some_iff.mp H
          obtain ⟨t165, A60, H⟩ := H
          replace H : ((glyph_Next.f k1 l0 x7_1).bind fun t166 => (glyph_Wide.l0 k1 l0 t165 a2 (wrap64 (x7_1 + t166)))) = some r := H
          have A6 := Aside0.mk A60
          clear A60
          replace H := Option.bind_eq_some_iff.mp H
          obtain ⟨t166, A70, H⟩ := H
          replace H : (glyph_Wide.l0 k1 l0 t165 a2 (wrap64 (x7_1 + t166))) = some r := H
          have A7 := Aside0.mk A70
          clear A70
          have H' := Aside0.mk H
          clear H
          have p164 : 0 ≤ (x7_1 : Int) := of_decide_eq_true (by first | (with_reducible assumption) | assumption)
          have q164 : x7_1 < (l0.length : Int) := of_decide_eq_true (by first | (with_reducible assumption) | assumption)
          obtain ⟨ad164, e164, hx164_0⟩ := Kd.at_int HR0.out x7_1 p164 q164
          cases e164
          replace hx164_0 := (HB.out.cell (World.block_lt_of_cell? w _ hx164_0)).trans hx164_0
          replace p164 := eq_true p164
          replace q164 := eq_true q164
          go_wp2_with (first | ((with_reducible refine gate_callee (f := 75) rfl ?_); refine goesL_ (some 23) rfl rfl Tryd.func75 (by kernel_rfl) rfl #[.int .i64 x1_1, .int .u8 (rd l0 x7_1), .int .i64 a2] rfl (by (try simp only [List.map_toArray, List.map_cons, List.map_nil]); first | done | rfl | (simp only [List.length_drop, List.length_take]; rfl)) ?_; (with_reducible refine (glyph_Step.calls x1_1 (rd l0 x7_1) a2 t165 _ A6.out).mono ?_); rintro e w' ⟨rfl, ⟨nd, rfl⟩⟩; refine ⟨_, rfl, ?_⟩) | ((with_reducible refine gate_callee (f := 31) rfl ?_); refine goesL_ (some 15) rfl rfl Tryd.func31 (by kernel_rfl) rfl #[.slice (some ad164) l0.length c0, .int .i64 x7_1] rfl (by (try simp only [List.map_toArray, List.map_cons, List.map_nil]); first | done | rfl | (simp only [List.length_drop, List.length_take]; rfl)) ?_; (with_reducible refine (glyph_Next.calls k1 _ _ l0 x7_1 t166 _ ?side3 ?side1 ?side2 A7.out).mono ?_); (case side1 => repeat (first | exact (Kd.C_below HR0.out (by repeat (first | (with_reducible first | exact HB.out | apply below_alloc | apply pw_below_drewN | apply below_drew1) | exact HB.out))) | (with_reducible refine Kd.C_alloc ?_ _) | (with_reducible refine Kd.C_drewN ?_ _) | (with_reducible refine Kd.C_drew ?_))); (case side2 => exact HC0.out); (case side3 => exact Tabs.below HT.out (by repeat (first | (with_reducible first | exact HB.out | apply below_alloc | apply pw_below_drewN | apply below_drew1) | exact HB.out))); rintro e w8 ⟨rfl, hb⟩; refine ⟨_, rfl, ?_⟩; have n0_ := Aside0.mk (below_step (by repeat (first | (with_reducible first | exact HB.out | apply below_alloc | apply pw_below_drewN | apply below_drew1) | exact HB.out)) hb); clear HB; have HB := n0_; clear n0_; (try clear hb); (try clear hb2); (try clear hk); (try clear hi)))
          go_roundg k1
          case measure => have := HK1.out; omega
          case rel => exact ⟨(t165), (wrap64 (x7_1 + t166)), (by first | rfl | (simp; done) | (simp [*]; done)), (by first | rfl | (simp; done) | (simp [*]; done)), H', ⟨by have := HK1.out; omega⟩, ⟨by repeat (first | (with_reducible first | exact HB.out | apply below_alloc | apply pw_below_drewN | apply below_drew1) | exact HB.out)⟩⟩
        · rw [if_neg c5] at H
          exact absurd H (by simp)
      · rw [if_neg c4] at H
        have c4b0 : decide (x7_1 < (l0.length : Int)) = false := decide_eq_false c4
        clear c4
        obtain rfl := Option.some.inj H
        go_wp2
        go_ret
        exact ⟨by first | rfl | (simp [errW_none, errW_some] <;> rfl) | (simp [*, errW_none, errW_some] <;> rfl), by repeat (first | (with_reducible first | exact HB.out | apply below_alloc | apply pw_below_drewN | apply below_drew1) | exact HB.out)⟩

/-! ### lines_Column: function 59 -/
def lines_Column.f (k : Nat) (l0 : List Int) (a1 : Int) (a2 : Int) : Option (Int) := if 0 ≤ (mn (mx a1 0) (l0.length : Int)) then (if (mn (mx a1 0) (l0.length : Int)) ≤ (l0.length : Int) then ((bytes_LastIndexByte.f k (l0.take ((mn (mx a1 0) (l0.length : Int)) : Int).toNat) 10).bind fun t168 => (if 0 ≤ (wrap64 (t168 + 1)) then (if (wrap64 (t168 + 1)) ≤ (mn (mx a1 0) (l0.length : Int)) then ((glyph_Wide.f k ((l0.take ((mn (mx a1 0) (l0.length : Int)) : Int).toNat).drop ((wrap64 (t168 + 1)) : Int).toNat) 0 (mx a2 1)).bind fun t170 => (some t170)) else (none)) else (none))) else (none)) else (none)
theorem lines_Column.mono : ∀ a0 a1 a2 k, LeO (lines_Column.f k a0 a1 a2) (lines_Column.f (k + 1) a0 a1 a2) := by
  intro a0 a1 a2 k
  unfold lines_Column.f
  repeat' first
      | (with_reducible exact bytes_LastIndexByte.mono _ _ _)
      | (with_reducible exact glyph_Wide.mono _ _ _ _)
      | (with_reducible exact LeO.refl _)
      | (with_reducible exact LeO.none _)
      | (with_reducible refine LeO.ite ?_ ?_)
      | (with_reducible refine LeO.bind ?_ (fun _ => ?_))
      | exact bytes_LastIndexByte.mono _ _ _
      | exact glyph_Wide.mono _ _ _ _
      | exact LeO.none _
      | refine LeO.ite ?_ ?_
      | refine LeO.bind ?_ (fun _ => ?_)
set_option maxHeartbeats 8000000 in
set_option maxRecDepth 100000 in
theorem lines_Column.calls (k : Nat) (A0 : Option Addr) (c0 : Nat) (l0 : List Int) (a1 : Int) (a2 : Int) (r : Int) (w : World) (hT : Tabs w) (hr0 : Kd.C (Kd.int .u8) w A0 l0.length l0) (hc0 : l0.length ≤ c0) (h : lines_Column.f k l0 a1 a2 = some r) :
  Calls Tryd.prog 59 #[.slice A0 l0.length c0, .int .i64 a1, .int .i64 a2] w fun e w' => e = .returned (.int .i64 r) ∧ Below w.heap.size w w' := by
 have HR0 := Aside0.mk hr0
 have HC0 := Aside0.mk hc0
 clear hr0 hc0
 have HB := Aside0.mk (Below.refl w.heap.size w)
 have HT := Aside0.mk hT
 clear hT
 have H : (if 0 ≤ (mn (mx a1 0) (l0.length : Int)) then (if (mn (mx a1 0) (l0.length : Int)) ≤ (l0.length : Int) then ((bytes_LastIndexByte.f k (l0.take ((mn (mx a1 0) (l0.length : Int)) : Int).toNat) 10).bind fun t168 => (if 0 ≤ (wrap64 (t168 + 1)) then (if (wrap64 (t168 + 1)) ≤ (mn (mx a1 0) (l0.length : Int)) then ((glyph_Wide.f k ((l0.take ((mn (mx a1 0) (l0.length : Int)) : Int).toNat).drop ((wrap64 (t168 + 1)) : Int).toNat) 0 (mx a2 1)).bind fun t170 => (some t170)) else (none)) else (none))) else (none)) else (none)) = some r := h
 clear h
 obtain ⟨ji4, hji4⟩ : ∃ j_ : Int, (mx a1 0) = j_ := ⟨_, rfl⟩
 replace H : (if 0 ≤ (mn (ji4) (l0.length : Int)) then (if (mn (ji4) (l0.length : Int)) ≤ (l0.length : Int) then ((bytes_LastIndexByte.f k (l0.take ((mn (ji4) (l0.length : Int)) : Int).toNat) 10).bind fun t168 => (if 0 ≤ (wrap64 (t168 + 1)) then (if (wrap64 (t168 + 1)) ≤ (mn (ji4) (l0.length : Int)) then ((glyph_Wide.f k ((l0.take ((mn (ji4) (l0.length : Int)) : Int).toNat).drop ((wrap64 (t168 + 1)) : Int).toNat) 0 (mx a2 1)).bind fun t170 => (some t170)) else (none)) else (none))) else (none)) else (none)) = some r := by first | (rw [hji4] at H; exact H) | (simp only [hji4] at H ⊢; exact H)
 (try (have hji4l : 0 ≤ ji4 := by (rw [← hji4]; unfold mx; (repeat' split) <;> omega)))
 (try (have hji4m : 0 ≤ ji4 := by omega))
 have hji4_ : (if a1 < 0 then 0 else a1) = ji4 := hji4
 obtain ⟨ji5, hji5⟩ : ∃ j_ : Int, (mn (ji4) (l0.length : Int)) = j_ := ⟨_, rfl⟩
 replace H : (if 0 ≤ (ji5) then (if (ji5) ≤ (l0.length : Int) then ((bytes_LastIndexByte.f k (l0.take ((ji5) : Int).toNat) 10).bind fun t168 => (if 0 ≤ (wrap64 (t168 + 1)) then (if (wrap64 (t168 + 1)) ≤ (ji5) then ((glyph_Wide.f k ((l0.take ((ji5) : Int).toNat).drop ((wrap64 (t168 + 1)) : Int).toNat) 0 (mx a2 1)).bind fun t170 => (some t170)) else (none)) else (none))) else (none)) else (none)) = some r := by first | (rw [hji5] at H; exact H) | (simp only [hji5] at H ⊢; exact H)
 have hji5_ : (if (l0.length : Int) < (ji4) then (l0.length : Int) else (ji4)) = ji5 := hji5
 by_cases c6 : 0 ≤ (ji5)
 ·rw [if_pos c6] at H
  have c6b0 := eq_true c6
  have c6b1 : decide (0 ≤ (ji5)) = true := decide_eq_true c6
  clear c6
  by_cases c7 : (ji5) ≤ (l0.length : Int)
  ·rw [if_pos c7] at H
   have c7b0 := eq_true c7
   have c7b1 : decide ((ji5) ≤ (l0.length : Int)) = true := decide_eq_true c7
   clear c7
   replace H := Option.bind_eq_some_iff.mp H
   obtain ⟨t168, A80, H⟩ := H
   replace H : (if 0 ≤ (wrap64 (t168 + 1)) then (if (wrap64 (t168 + 1)) ≤ (ji5) then ((glyph_Wide.f k ((l0.take ((ji5) : Int).toNat).drop ((wrap64 (t168 + 1)) : Int).toNat) 0 (mx a2 1)).bind fun t170 => (some t170)) else (none)) else (none)) = some r := H
   have A8 := Aside0.mk A80
   clear A80
   obtain ⟨ji9, hji9⟩ : ∃ j_ : Int, (wrap64 (t168 + 1)) = j_ := ⟨_, rfl⟩
   replace H : (if 0 ≤ (ji9) then (if (ji9) ≤ (ji5) then ((glyph_Wide.f k ((l0.take ((ji5) : Int).toNat).drop ((ji9) : Int).toNat) 0 (mx a2 1)).bind fun t170 => (some t170)) else (none)) else (none)) = some r := by first | (rw [hji9] at H; exact H) | (simp only [hji9] at H ⊢; exact H)
   (try rw [hji9] at A8)
   have hji9w : (IntKind.i64.wrap (t168 + 1)) = ji9 := (i64_w _).trans hji9
   by_cases c10 : 0 ≤ (ji9)
   ·rw [if_pos c10] at H
    have c10b0 := eq_true c10
    have c10b1 : decide (0 ≤ (ji9)) = true := decide_eq_true c10
    clear c10
    by_cases c11 : (ji9) ≤ (ji5)
    ·rw [if_pos c11] at H
     have c11b0 := eq_true c11
     have c11b1 : decide ((ji9) ≤ (ji5)) = true := decide_eq_true c11
     clear c11
     have c12b0 := eq_true (of_decide_eq_true (by first | (with_reducible assumption) | assumption) : (ji5) ≤ (l0.length : Int))
     obtain ⟨ji13, hji13⟩ : ∃ j_ : Int, (mx a2 1) = j_ := ⟨_, rfl⟩
     replace H : ((glyph_Wide.f k ((l0.take ((ji5) : Int).toNat).drop ((ji9) : Int).toNat) 0 (ji13)).bind fun t170 => (some t170)) = some r := by first | (rw [hji13] at H; exact H) | (simp only [hji13] at H ⊢; exact H)
     (try rw [hji13] at A8)
     (try (have hji13l : 1 ≤ ji13 := by (rw [← hji13]; unfold mx; (repeat' split) <;> omega)))
     (try (have hji13m : 0 ≤ ji13 := by omega))
     have hji13_ : (if a2 < 1 then 1 else a2) = ji13 := hji13
     replace H := Option.bind_eq_some_iff.mp H
     obtain ⟨t170, A140, H⟩ := H
     replace H : (some t170) = some r := H
     have A14 := Aside0.mk A140
     clear A140
     obtain rfl := Option.some.inj H
     obtain ⟨i015, hi015, _, hsz15, _⟩ := info_parts info5
     obtain ⟨hcut15, hA15, hC15⟩ := print_take_of (P := Tryd.prog) (Value.int .u8) 0 22 5 .i64 Tryd.underlying22 hi015 hsz15 A0 c0 l0 (ji5) (of_decide_eq_true (by first | (with_reducible assumption) | assumption)) (of_decide_eq_true (by first | (with_reducible assumption) | assumption)) HC0.out
     have HR167 := Aside0.mk (Kd.C_of_reads (h1 := fun _ => rfl) (hA15 _ (Kd.reads_of_C HR0.out)))
     have HC167 := Aside0.mk hC15
     clear hA15 hC15 hi015 hsz15
     go_enter Tryd.func59, Tryd.ntmps59
     go_wp2_with (first | ((with_reducible refine gate_callee (f := 76) rfl ?_); refine goesL_ (some 16) rfl rfl Tryd.func76 (by kernel_rfl) rfl #[.slice A0 (l0.take ((ji5) : Int).toNat).length c0, .int .u8 10] rfl (by (try simp only [List.map_toArray, List.map_cons, List.map_nil]); first | done | (rw [show (l0.take ((ji5) : Int).toNat).length = (ji5).toNat from (by rw [List.length_take]; have h_ : ((ji5) : Int) ≤ (l0.length : Int) := of_decide_eq_true (by first | (with_reducible assumption) | assumption); omega)] <;> rfl) | (simp only [hji5]; rfl) | rfl | (simp only [List.length_drop, List.length_take]; rfl)) ?_; (with_reducible refine (bytes_LastIndexByte.calls k _ _ (l0.take ((ji5) : Int).toNat) 10 t168 _ ?side1 ?side2 A8.out).mono ?_); (case side1 => repeat (first | exact HR167.out | (with_reducible refine Kd.C_alloc ?_ _) | (with_reducible refine Kd.C_drewN ?_ _) | (with_reducible refine Kd.C_drew ?_))); (case side2 => exact HC167.out); rintro e w' ⟨rfl, ⟨nd, rfl⟩⟩; refine ⟨_, rfl, ?_⟩; obtain ⟨i016, hi016, _, hsz16, _⟩ := info_parts info5; obtain ⟨A16, hcut16, hA16, hC16⟩ := print_mid_of (P := Tryd.prog) (Value.int .u8) 0 22 5 .i64 .i64 Tryd.underlying22 hi016 hsz16 A0 c0 l0 (ji9) (ji5) (of_decide_eq_true (by first | (with_reducible assumption) | assumption)) (by first | omega | exact of_decide_eq_true (by first | (with_reducible assumption) | assumption)) (of_decide_eq_true (by first | (with_reducible assumption) | assumption)) HC0.out; have HR169 := Aside0.mk (Kd.C_of_reads (h1 := fun _ => rfl) (hA16 _ (Kd.reads_of_C HR0.out))); have HC169 := Aside0.mk hC16; clear hA16 hC16 hi016 hsz16) | ((with_reducible refine gate_callee (f := 77) rfl ?_); refine goesL_ (some 24) rfl rfl Tryd.func77 (by kernel_rfl) rfl #[.slice A16 ((l0.take ((ji5) : Int).toNat).drop ((ji9) : Int).toNat).length (c0 - (ji9).toNat), .int .i64 0, .int .i64 ji13] rfl (by (try simp only [List.map_toArray, List.map_cons, List.map_nil]); first | done | (rw [show ((l0.take ((ji5) : Int).toNat).drop ((ji9) : Int).toNat).length = ((ji5).toNat - (ji9).toNat) from (by rw [List.length_drop, List.length_take]; have h_ : ((ji5) : Int) ≤ (l0.length : Int) := of_decide_eq_true (by first | (with_reducible assumption) | assumption); omega)] <;> rfl) | (simp only [hji13, hji5, hji9]; rfl) | rfl | (simp only [List.length_drop, List.length_take]; rfl)) ?_; (with_reducible refine (glyph_Wide.calls k _ _ ((l0.take ((ji5) : Int).toNat).drop ((ji9) : Int).toNat) 0 ji13 t170 _ ?side3 ?side1 ?side2 A14.out).mono ?_); (case side1 => repeat (first | exact HR169.out | (with_reducible refine Kd.C_alloc ?_ _) | (with_reducible refine Kd.C_drewN ?_ _) | (with_reducible refine Kd.C_drew ?_))); (case side2 => exact HC169.out); (case side3 => exact Tabs.below HT.out (by repeat (first | exact HB.out | apply bA | apply bN | apply bD))); rintro e w17 ⟨rfl, hb⟩; refine ⟨_, rfl, ?_⟩; have n0_ := Aside0.mk (below_step (by repeat (first | exact HB.out | apply bA | apply bN | apply bD)) hb); clear HB; have HB := n0_; clear n0_; (try clear hb); (try clear hb2); (try clear hk); (try clear hi)))
     go_ret
     exact ⟨by first | rfl | (simp [errW_none, errW_some] <;> rfl) | (simp only [← hji4, ← hji5, ← hji9, ← hji13]; first | rfl | (simp [errW_none, errW_some] <;> rfl)) | (simp [*, errW_none, errW_some] <;> rfl), by repeat (first | exact HB.out | apply bA | apply bN | apply bD)⟩
    ·rw [if_neg c11] at H
     exact absurd H (by simp)
   ·rw [if_neg c10] at H
    exact absurd H (by simp)
  ·rw [if_neg c7] at H
   exact absurd H (by simp)
 ·rw [if_neg c6] at H
  exact absurd H (by simp)

/-! ### motion_down: function 36 -/
def motion_down.j0 : Nat → List Int → Int → Int → Int → Int → Int → Int → Option (Int × Bool)
  | 0, _, _, _, _, _, _, _ => none
  | k + 1, x0, x1, x3, x10, x172000, x172001, x172002 => (lines_Of.f x0 x1).bind fun t172 => ((lines_Span.f k x0 (wrap64 (t172 + x10))).bind fun bt173 => (if bt173.2.2 = true then (if x172000 = 36 then (some (wrap64 (bt173.1 + bt173.2.1), true)) else (if 0 ≤ bt173.1 then (if bt173.1 ≤ (wrap64 (bt173.1 + bt173.2.1)) then (if (wrap64 (bt173.1 + bt173.2.1)) ≤ (x0.length : Int) then ((lines_Column.f k x0 x1 x3).bind fun t178 => ((glyph_At.f k ((x0.take ((wrap64 (bt173.1 + bt173.2.1)) : Int).toNat).drop (bt173.1 : Int).toNat) t178 (mx x3 1)).bind fun t179 => (some (wrap64 (bt173.1 + t179), true)))) else (none)) else (none)) else (none))) else (some (0, false))))
def motion_down.f (k : Nat) (l0 : List Int) (a1 : Int) (a2_0 : Int) (a2_1 : Int) (a2_2 : Int) (a3 : Int) : Option (Int × Bool) := if a2_0 = 107 then (motion_down.j0 k l0 a1 a3 (wrap64 (-(mx a2_2 1))) a2_0 a2_1 a2_2) else (if a2_0 = 36 then (motion_down.j0 k l0 a1 a3 (wrap64 ((mx a2_2 1) - 1)) a2_0 a2_1 a2_2) else (motion_down.j0 k l0 a1 a3 (mx a2_2 1) a2_0 a2_1 a2_2))
theorem motion_down.mono_l : ∀ k, (∀ y0 y1 y2 y3 y4 y5 y6, LeO (motion_down.j0 k y0 y1 y2 y3 y4 y5 y6) (motion_down.j0 (k + 1) y0 y1 y2 y3 y4 y5 y6))
  | 0 => fun _ _ _ _ _ _ _ r h => by simp [motion_down.j0] at h
  | k + 1 => by
    have ih0 := motion_down.mono_l k
    · intro y0 y1 y2 y3 y4 y5 y6
      unfold motion_down.j0
      repeat' first
      | (with_reducible exact ih0 _ _ _ _ _ _ _)
      | (with_reducible exact glyph_At.mono _ _ _ _)
      | (with_reducible exact lines_Column.mono _ _ _ _)
      | (with_reducible exact lines_Span.mono _ _ _)
      | (with_reducible exact LeO.refl _)
      | (with_reducible exact LeO.none _)
      | (with_reducible refine LeO.ite ?_ ?_)
      | (with_reducible refine LeO.bind ?_ (fun _ => ?_))
      | exact ih0 _ _ _ _ _ _ _
      | exact glyph_At.mono _ _ _ _
      | exact lines_Column.mono _ _ _ _
      | exact lines_Span.mono _ _ _
      | exact LeO.none _
      | refine LeO.ite ?_ ?_
      | refine LeO.bind ?_ (fun _ => ?_)
theorem motion_down.mono : ∀ a0 a1 a2 a3 a4 a5 k, LeO (motion_down.f k a0 a1 a2 a3 a4 a5) (motion_down.f (k + 1) a0 a1 a2 a3 a4 a5) := by
  intro a0 a1 a2 a3 a4 a5 k
  have ih0 := motion_down.mono_l k
  unfold motion_down.f
  repeat' first
      | (with_reducible exact ih0 _ _ _ _ _ _ _)
      | (with_reducible exact glyph_At.mono _ _ _ _)
      | (with_reducible exact lines_Column.mono _ _ _ _)
      | (with_reducible exact lines_Span.mono _ _ _)
      | (with_reducible exact LeO.refl _)
      | (with_reducible exact LeO.none _)
      | (with_reducible refine LeO.ite ?_ ?_)
      | (with_reducible refine LeO.bind ?_ (fun _ => ?_))
      | exact ih0 _ _ _ _ _ _ _
      | exact glyph_At.mono _ _ _ _
      | exact lines_Column.mono _ _ _ _
      | exact lines_Span.mono _ _ _
      | exact LeO.none _
      | refine LeO.ite ?_ ?_
      | refine LeO.bind ?_ (fun _ => ?_)
def motion_down.T12 : Bool × List (List Nat × List Nat) := (true, [([], []), ([0], [0]), ([], []), ([], []), ([3], [3]), ([], []), ([5], [5]), ([], []), ([7], [7]), ([6, 8], [6, 8]), ([2, 4, 9], [2, 4, 9]), ([], []), ([], []), ([], []), ([11, 12, 13], [11, 12, 13]), ([], []), ([15], [15]), ([10, 14, 16, 14], [10, 14, 16]), ([1, 17], [1, 17]), ([18, 17, 0, 1, 2, 3, 4, 5, 6, 7, 8, 9, 10, 11, 12, 13, 14, 15, 16, 17, 18], [18]), ([19, 0, 1, 2, 3, 4, 5, 6, 7, 8, 9, 10, 11, 12, 13, 14, 15, 16, 17, 18, 19], [])])
def motion_down.B12 : List Nat := [0, 1, 0, 0, 8, 0, 32, 0, 128, 480, 1020, 0, 0, 0, 14336, 0, 32768, 131068, 262143, 524287, 1048575]
theorem motion_down.tab12 : rtab .any (opsOf Tryd.f36 12) = motion_down.T12 := by kernel_rfl
theorem motion_down.bits12 : waitsOk motion_down.T12.2 motion_down.B12 = true := by kernel_rfl
set_option maxHeartbeats 8000000 in
set_option maxRecDepth 100000 in
theorem motion_down.calls (k : Nat) (A0 : Option Addr) (c0 : Nat) (l0 : List Int) (a1 : Int) (a2_0 : Int) (a2_1 : Int) (a2_2 : Int) (a3 : Int) (r1 : Int) (r2 : Bool) (w : World) (hT : Tabs w) (hr0 : Kd.C (Kd.int .u8) w A0 l0.length l0) (hc0 : l0.length ≤ c0) (h : motion_down.f k l0 a1 a2_0 a2_1 a2_2 a3 = some (r1, r2)) :
  Calls Tryd.prog 36 #[.slice A0 l0.length c0, .int .i64 a1, .agg #[.int .u8 a2_0, .int .u8 a2_1, .int .i64 a2_2], .int .i64 a3] w fun e w' => e = .returned (.tuple #[.int .i64 r1, .bool r2]) ∧ Below w.heap.size w w' := by
 have hu30 := Tryd.underlying30
 have hu39 := Tryd.underlying39
 have HR0 := Aside0.mk hr0
 have HC0 := Aside0.mk hc0
 clear hr0 hc0
 have HB := Aside0.mk (Below.refl w.heap.size w)
 have HT := Aside0.mk hT
 clear hT
 have H : (if a2_0 = 107 then (motion_down.j0 k l0 a1 a3 (wrap64 (-(mx a2_2 1))) a2_0 a2_1 a2_2) else (if a2_0 = 36 then (motion_down.j0 k l0 a1 a3 (wrap64 ((mx a2_2 1) - 1)) a2_0 a2_1 a2_2) else (motion_down.j0 k l0 a1 a3 (mx a2_2 1) a2_0 a2_1 a2_2))) = some (r1, r2) := h
 clear h
 obtain ⟨ji5, hji5⟩ : ∃ j_ : Int, (mx a2_2 1) = j_ := ⟨_, rfl⟩
 replace H : (if a2_0 = 107 then (motion_down.j0 k l0 a1 a3 (wrap64 (-(ji5))) a2_0 a2_1 a2_2) else (if a2_0 = 36 then (motion_down.j0 k l0 a1 a3 (wrap64 ((ji5) - 1)) a2_0 a2_1 a2_2) else (motion_down.j0 k l0 a1 a3 ji5 a2_0 a2_1 a2_2))) = some (r1, r2) := by first | (rw [hji5] at H; exact H) | (simp only [hji5] at H ⊢; exact H)
 (try (have hji5l : 1 ≤ ji5 := by (rw [← hji5]; unfold mx; (repeat' split) <;> omega)))
 (try (have hji5m : 0 ≤ ji5 := by omega))
 have hji5_ : (if a2_2 < 1 then 1 else a2_2) = ji5 := hji5
 have HC6 := Aside0.mk H
 clear H
 go_enter Tryd.func36, Tryd.ntmps36
 go_upto_block 0 with (first | ((with_reducible refine gate_dst (N := 6) rfl ?_); refine box_event ?hg (N := 6) ?hd (cs := #[.int .u8 a2_0, .int .u8 a2_1, .int .i64 a2_2]) (t := 30) ?hr ?_; (case hd => rfl); (case hg => rfl); (case hr => first | (go_simp; done) | (go_simp; rfl)); intro gb171 hg w7 hbox hb; have n0_ := Aside0.mk (below_step (by repeat (first | exact HB.out | apply bA | apply bN | apply bD)) hb); have n1_ := Aside0.mk (hbox); have n2_ := Aside0.mk ((by rw [hg]; exact (below_size (by repeat (first | exact HB.out | apply bA | apply bN | apply bD))) : w.heap.size ≤ gb171)); have n3_ := Aside0.mk ((by rw [hg]; exact (below_size (by repeat (first | exact HB.out | apply bA | apply bN | apply bD))) : w.heap.size ≤ gb171)); clear HB; have HB := n0_; have BK171 := n1_; have GW171 := n2_; have GE171 := n3_; clear n0_ n1_ n2_ n3_; clear hb hbox hg; have hcz8_0 : w7.cell? ⟨gb171, 0, none⟩ = some (.int .u8 a2_0) := (blk_cell BK171.out 0).trans rfl; have hcz8_1 : w7.cell? ⟨gb171, 1, none⟩ = some (.int .u8 a2_1) := (blk_cell BK171.out 1).trans rfl; have hcz8_2 : w7.cell? ⟨gb171, 2, none⟩ = some (.int .i64 a2_2) := (blk_cell BK171.out 2).trans rfl; have hfz8_0 := blk_frozen BK171.out 0; have hfz8_1 := blk_frozen BK171.out 1; have hfz8_2 := blk_frozen BK171.out 2))
 (try simp only [Act.put, zT, z0, zS])
 go_cut [10] (fun v10 wc => ∃ (kq : Nat) (x10_5 : Int), v10 = .int .i64 x10_5 ∧ Aside0 (motion_down.j0 kq l0 a1 a3 x10_5 a2_0 a2_1 a2_2 = some (r1, r2)) ∧ Aside0 (kq ≤ k) ∧ Aside0 (wc.heap[gb171]? = some (.cells #[.int .u8 a2_0, .int .u8 a2_1, .int .i64 a2_2] 30 (0, 0))) ∧ Aside0 (Below w.heap.size w wc))
 case first =>
  have H := HC6.out
  clear HC6
  by_cases c9 : a2_0 = 107
  ·rw [if_pos c9] at H
   have c9b0 : (a2_0 == 107) = true := beq_iff_eq.mpr c9
   have c9b1 : (a2_0 != 107) = false := bne_eq_false_iff_eq.mpr c9
   clear c9
   (first | rw [c9b0] | (simp only [i64_w, i32_w]; rw [c9b0]) | skip)
   have H' := Aside0.mk H
   clear H
   go_wp2
   go_meet
   case rel => exact ⟨_, (wrap64 (-(ji5))), (by first | rfl | (simp; done) | (simp only [← hji5] <;> (first | rfl | simp)) | (simp [*]; done)), H', ⟨by first | omega | exact Nat.le_refl _⟩, ⟨by (with_reducible repeat (first | refine kN ?_ _ | refine kD ?_ | refine kA ?_ _)); exact BK171.out⟩, ⟨by repeat (first | exact HB.out | apply bA | apply bN | apply bD | refine bS ?_ GE171.out)⟩⟩
  ·rw [if_neg c9] at H
   have c9b0 : (a2_0 == 107) = false := beq_eq_false_iff_ne.mpr c9
   have c9b1 : (a2_0 != 107) = true := bne_iff_ne.mpr c9
   (first | rw [c9b0] | (simp only [i64_w, i32_w]; rw [c9b0]) | skip)
   by_cases c10 : a2_0 = 36
   ·rw [if_pos c10] at H
    have c10b0 : (a2_0 == 36) = true := beq_iff_eq.mpr c10
    have c10b1 : (a2_0 != 36) = false := bne_eq_false_iff_eq.mpr c10
    clear c10
    have H' := Aside0.mk H
    clear H
    go_wp2
    go_meet
    case rel => exact ⟨_, (wrap64 ((ji5) - 1)), (by first | rfl | (simp; done) | (simp only [← hji5] <;> (first | rfl | simp)) | (simp [*]; done)), H', ⟨by first | omega | exact Nat.le_refl _⟩, ⟨by (with_reducible repeat (first | refine kN ?_ _ | refine kD ?_ | refine kA ?_ _)); exact BK171.out⟩, ⟨by repeat (first | exact HB.out | apply bA | apply bN | apply bD | refine bS ?_ GE171.out)⟩⟩
   ·rw [if_neg c10] at H
    have c10b0 : (a2_0 == 36) = false := beq_eq_false_iff_ne.mpr c10
    have c10b1 : (a2_0 != 36) = true := bne_iff_ne.mpr c10
    have H' := Aside0.mk H
    clear H
    go_wp2
    go_meet
    case rel => exact ⟨_, (ji5), (by first | rfl | (simp; done) | (simp only [← hji5] <;> (first | rfl | simp)) | (simp [*]; done)), H', ⟨by first | omega | exact Nat.le_refl _⟩, ⟨by (with_reducible repeat (first | refine kN ?_ _ | refine kD ?_ | refine kA ?_ _)); exact BK171.out⟩, ⟨by repeat (first | exact HB.out | apply bA | apply bN | apply bD | refine bS ?_ GE171.out)⟩⟩
 case rest =>
  clear HC6
  try clear c1
  try clear p2
  try clear c3
  try clear p6
  try clear c9
  try clear c9b0
  try clear c9b1
  try clear c10
  try clear c10b0
  try clear c10b1
  try clear hcz8_0
  try clear hcz8_1
  try clear hcz8_2
  try clear hfz8_0
  try clear hfz8_1
  try clear hfz8_2
  obtain ⟨kq, x10_5, rfl, HA, HJ5, BK171, HB⟩ := hcut
  cases kq with
  | zero => exact absurd HA.out (by simp [motion_down.j0])
  | succ kj5 =>
   have H := HA.out
   clear HA
   simp only [motion_down.j0] at H
   replace H := Option.bind_eq_some_iff.mp H
   obtain ⟨t172, A110, H⟩ := H
   replace H : ((lines_Span.f kj5 l0 (wrap64 (t172 + x10_5))).bind fun bt173 => (if bt173.2.2 = true then (if a2_0 = 36 then (some (wrap64 (bt173.1 + bt173.2.1), true)) else (if 0 ≤ bt173.1 then (if bt173.1 ≤ (wrap64 (bt173.1 + bt173.2.1)) then (if (wrap64 (bt173.1 + bt173.2.1)) ≤ (l0.length : Int) then ((lines_Column.f kj5 l0 a1 a3).bind fun t178 => ((glyph_At.f kj5 ((l0.take ((wrap64 (bt173.1 + bt173.2.1)) : Int).toNat).drop (bt173.1 : Int).toNat) t178 (mx a3 1)).bind fun t179 => (some (wrap64 (bt173.1 + t179), true)))) else (none)) else (none)) else (none))) else (some (0, false)))) = some (r1, r2) := H
   have A11 := Aside0.mk A110
   clear A110
   replace H := Option.bind_eq_some_iff.mp H
   obtain ⟨⟨t173, t174, t175⟩, A120, H⟩ := H
   replace H : (if t175 = true then (if a2_0 = 36 then (some (wrap64 (t173 + t174), true)) else (if 0 ≤ t173 then (if t173 ≤ (wrap64 (t173 + t174)) then (if (wrap64 (t173 + t174)) ≤ (l0.length : Int) then ((lines_Column.f kj5 l0 a1 a3).bind fun t178 => ((glyph_At.f kj5 ((l0.take ((wrap64 (t173 + t174)) : Int).toNat).drop (t173 : Int).toNat) t178 (mx a3 1)).bind fun t179 => (some (wrap64 (t173 + t179), true)))) else (none)) else (none)) else (none))) else (some (0, false))) = some (r1, r2) := H
   have A12 := Aside0.mk A120
   clear A120
   by_cases c13 : t175 = true
   ·subst c13
    have H1 : (if a2_0 = 36 then (some (wrap64 (t173 + t174), true)) else (if 0 ≤ t173 then (if t173 ≤ (wrap64 (t173 + t174)) then (if (wrap64 (t173 + t174)) ≤ (l0.length : Int) then ((lines_Column.f kj5 l0 a1 a3).bind fun t178 => ((glyph_At.f kj5 ((l0.take ((wrap64 (t173 + t174)) : Int).toNat).drop (t173 : Int).toNat) t178 (mx a3 1)).bind fun t179 => (some (wrap64 (t173 + t179), true)))) else (none)) else (none)) else (none))) = some (r1, r2) := by rw [if_pos rfl] at H; exact H
    clear H
    have H := H1
    clear H1
    by_cases c14 : a2_0 = 36
    ·rw [if_pos c14] at H
     have c14b0 : (a2_0 == 36) = true := beq_iff_eq.mpr c14
     have c14b1 : (a2_0 != 36) = false := bne_eq_false_iff_eq.mpr c14
     clear c14
     simp only [Option.some.injEq, Prod.mk.injEq] at H
     obtain ⟨rfl, rfl⟩ := H
     go_wp2_with (first | ((with_reducible refine gate_callee (f := 57) rfl ?_); refine goesL_ (some 30) rfl rfl Tryd.func57 (by kernel_rfl) rfl #[.slice A0 l0.length c0, .int .i64 a1] rfl (by (try simp only [List.map_toArray, List.map_cons, List.map_nil]); first | done | rfl | (simp only [List.length_drop, List.length_take]; rfl)) ?_; (with_reducible refine (lines_Of.calls _ _ l0 a1 t172 _ ?side1 ?side2 A11.out).mono ?_); (case side1 => repeat (first | exact (Kd.C_below HR0.out HB.out) | (with_reducible refine Kd.C_alloc ?_ _) | (with_reducible refine Kd.C_drewN ?_ _) | (with_reducible refine Kd.C_drew ?_))); (case side2 => exact HC0.out); rintro e w15 ⟨rfl, hb⟩; refine ⟨_, rfl, ?_⟩; have n0_ := Aside0.mk (blk_below (g := gb171) (o := .cells #[.int .u8 a2_0, .int .u8 a2_1, .int .i64 a2_2] 30 (0, 0)) (by (with_reducible repeat (first | refine kN ?_ _ | refine kD ?_ | refine kA ?_ _)); exact BK171.out) hb); have n1_ := Aside0.mk (below_step (by repeat (first | exact HB.out | apply bA | apply bN | apply bD | refine bS ?_ GE171.out)) hb); clear BK171; clear HB; have BK171 := n0_; have HB := n1_; clear n0_ n1_; (try clear hb); (try clear hb2); (try clear hk); (try clear hi)) | ((with_reducible refine gate_callee (f := 33) rfl ?_); refine goesL_ (some 33) rfl rfl Tryd.func33 (by kernel_rfl) rfl #[.slice A0 l0.length c0, .int .i64 (wrap64 (t172 + x10_5))] rfl (by (try simp only [List.map_toArray, List.map_cons, List.map_nil]); first | done | rfl | (simp only [List.length_drop, List.length_take]; rfl)) ?_; (with_reducible refine (lines_Span.calls kj5 _ _ l0 (wrap64 (t172 + x10_5)) t173 t174 true _ ?side1 ?side2 A12.out).mono ?_); (case side1 => repeat (first | exact (Kd.C_below HR0.out HB.out) | (with_reducible refine Kd.C_alloc ?_ _) | (with_reducible refine Kd.C_drewN ?_ _) | (with_reducible refine Kd.C_drew ?_))); (case side2 => exact HC0.out); rintro e w16 ⟨rfl, hb⟩; refine ⟨_, rfl, ?_⟩; have n0_ := Aside0.mk (blk_below (g := gb171) (o := .cells #[.int .u8 a2_0, .int .u8 a2_1, .int .i64 a2_2] 30 (0, 0)) (by (with_reducible repeat (first | refine kN ?_ _ | refine kD ?_ | refine kA ?_ _)); exact BK171.out) hb); have n1_ := Aside0.mk (below_step (by repeat (first | exact HB.out | apply bA | apply bN | apply bD | refine bS ?_ GE171.out)) hb); clear BK171; clear HB; have BK171 := n0_; have HB := n1_; clear n0_ n1_; (try clear hb); (try clear hb2); (try clear hk); (try clear hi)) | ((with_reducible refine gate_dst (N := 11) rfl ?_); refine box_event ?hg (N := 11) ?hd (cs := #[.int .i64 0, .int .i64 0]) (t := 39) ?hr ?_; (case hd => rfl); (case hg => rfl); (case hr => first | (go_simp; done) | (go_simp; rfl)); intro gb176 hg w17 hbox hb; have n0_ := Aside0.mk (blk_below (g := gb171) (o := .cells #[.int .u8 a2_0, .int .u8 a2_1, .int .i64 a2_2] 30 (0, 0)) (by (with_reducible repeat (first | refine kN ?_ _ | refine kD ?_ | refine kA ?_ _)); exact BK171.out) hb); have n1_ := Aside0.mk (below_step (by repeat (first | exact HB.out | apply bA | apply bN | apply bD | refine bS ?_ GE171.out)) hb); have n2_ := Aside0.mk (hbox); have n3_ := Aside0.mk ((by rw [hg]; exact (below_size (by repeat (first | exact HB.out | apply bA | apply bN | apply bD | refine bS ?_ GE171.out))) : w.heap.size ≤ gb176)); have n4_ := Aside0.mk ((by rw [hg]; exact (below_size (by repeat (first | exact HB.out | apply bA | apply bN | apply bD | refine bS ?_ GE171.out))) : w.heap.size ≤ gb176)); have n5_ := Aside0.mk ((by rw [hg]; exact Nat.ne_of_lt (blk_lt (g := gb171) (o := .cells #[.int .u8 a2_0, .int .u8 a2_1, .int .i64 a2_2] 30 (0, 0)) (by (with_reducible repeat (first | refine kN ?_ _ | refine kD ?_ | refine kA ?_ _)); exact BK171.out)) : gb171 ≠ gb176)); have n6_ := Aside0.mk ((by rw [hg]; exact Nat.ne_of_gt (blk_lt (g := gb171) (o := .cells #[.int .u8 a2_0, .int .u8 a2_1, .int .i64 a2_2] 30 (0, 0)) (by (with_reducible repeat (first | refine kN ?_ _ | refine kD ?_ | refine kA ?_ _)); exact BK171.out)) : gb176 ≠ gb171)); clear BK171; clear HB; have BK171 := n0_; have HB := n1_; have BK176 := n2_; have GW176 := n3_; have GE176 := n4_; have NB171_176 := n5_; have NB176_171 := n6_; clear n0_ n1_ n2_ n3_ n4_ n5_ n6_; clear hb hbox hg; have hnb18 := NB176_171.out; have hnc18 := NB171_176.out; have hcz19_0 : w17.cell? ⟨gb176, 0, none⟩ = some (.int .i64 0) := (blk_cell BK176.out 0).trans rfl; have hcz19_1 : w17.cell? ⟨gb176, 1, none⟩ = some (.int .i64 0) := (blk_cell BK176.out 1).trans rfl; have hfz19_0 := blk_frozen BK176.out 0; have hfz19_1 := blk_frozen BK176.out 1; have hcz20_0 : w17.cell? ⟨gb171, 0, none⟩ = some (.int .u8 a2_0) := (blk_cell BK171.out 0).trans rfl; have hcz20_1 : w17.cell? ⟨gb171, 1, none⟩ = some (.int .u8 a2_1) := (blk_cell BK171.out 1).trans rfl; have hcz20_2 : w17.cell? ⟨gb171, 2, none⟩ = some (.int .i64 a2_2) := (blk_cell BK171.out 2).trans rfl; have hfz20_0 := blk_frozen BK171.out 0; have hfz20_1 := blk_frozen BK171.out 1; have hfz20_2 := blk_frozen BK171.out 2))
     go_ret2
     exact ⟨by first | rfl | (simp [errW_none, errW_some] <;> rfl) | (simp only [← hji5]; first | rfl | (simp [errW_none, errW_some] <;> rfl)) | (simp [*, errW_none, errW_some] <;> rfl), by repeat (first | (with_reducible first | exact HB.out | apply below_alloc | apply pw_below_drewN | apply below_drew1 | refine below_set ?_ GE171.out | refine below_set ?_ GE176.out) | exact HB.out)⟩
    ·rw [if_neg c14] at H
     have c14b0 : (a2_0 == 36) = false := beq_eq_false_iff_ne.mpr c14
     have c14b1 : (a2_0 != 36) = true := bne_iff_ne.mpr c14
     by_cases c21 : 0 ≤ t173
     ·rw [if_pos c21] at H
      have c21b0 := eq_true c21
      have c21b1 : decide (0 ≤ t173) = true := decide_eq_true c21
      clear c21
      by_cases c22 : t173 ≤ (wrap64 (t173 + t174))
      ·rw [if_pos c22] at H
       have c22b0 := eq_true c22
       have c22b1 : decide (t173 ≤ (wrap64 (t173 + t174))) = true := decide_eq_true c22
       by_cases c23 : (wrap64 (t173 + t174)) ≤ (l0.length : Int)
       ·rw [if_pos c23] at H
        have c23b0 := eq_true c23
        have c23b1 : decide ((wrap64 (t173 + t174)) ≤ (l0.length : Int)) = true := decide_eq_true c23
        replace H := Option.bind_eq_some_iff.mp H
        obtain ⟨t178, A240, H⟩ := H
        replace H : ((glyph_At.f kj5 ((l0.take ((wrap64 (t173 + t174)) : Int).toNat).drop (t173 : Int).toNat) t178 (mx a3 1)).bind fun t179 => (some (wrap64 (t173 + t179), true))) = some (r1, r2) := H
        have A24 := Aside0.mk A240
        clear A240
        obtain ⟨ji25, hji25⟩ : ∃ j_ : Int, (mx a3 1) = j_ := ⟨_, rfl⟩
        replace H : ((glyph_At.f kj5 ((l0.take ((wrap64 (t173 + t174)) : Int).toNat).drop (t173 : Int).toNat) t178 (ji25)).bind fun t179 => (some (wrap64 (t173 + t179), true))) = some (r1, r2) := by first | (rw [hji25] at H; exact H) | (simp only [hji25] at H ⊢; exact H)
        (try rw [hji25] at A11)
        (try rw [hji25] at A12)
        (try rw [hji25] at A24)
        have hji25_ : (if a3 < 1 then 1 else a3) = ji25 := hji25
        replace H := Option.bind_eq_some_iff.mp H
        obtain ⟨t179, A260, H⟩ := H
        replace H : (some (wrap64 (t173 + t179), true)) = some (r1, r2) := H
        have A26 := Aside0.mk A260
        clear A260
        simp only [Option.some.injEq, Prod.mk.injEq] at H
        obtain ⟨rfl, rfl⟩ := H
        try go_wp2_with (first | ((with_reducible refine gate_callee (f := 57) rfl ?_); refine goesL_ (some 30) rfl rfl Tryd.func57 (by kernel_rfl) rfl #[.slice A0 l0.length c0, .int .i64 a1] rfl (by (try simp only [List.map_toArray, List.map_cons, List.map_nil]); first | done | rfl | (simp only [List.length_drop, List.length_take]; rfl)) ?_; (with_reducible refine (lines_Of.calls _ _ l0 a1 t172 _ ?side1 ?side2 A11.out).mono ?_); (case side1 => repeat (first | exact (Kd.C_below HR0.out HB.out) | (with_reducible refine Kd.C_alloc ?_ _) | (with_reducible refine Kd.C_drewN ?_ _) | (with_reducible refine Kd.C_drew ?_))); (case side2 => exact HC0.out); rintro e w27 ⟨rfl, hb⟩; refine ⟨_, rfl, ?_⟩; have n0_ := Aside0.mk (blk_below (g := gb171) (o := .cells #[.int .u8 a2_0, .int .u8 a2_1, .int .i64 a2_2] 30 (0, 0)) (by (with_reducible repeat (first | refine kN ?_ _ | refine kD ?_ | refine kA ?_ _)); exact BK171.out) hb); have n1_ := Aside0.mk (below_step (by repeat (first | exact HB.out | apply bA | apply bN | apply bD | refine bS ?_ GE171.out)) hb); clear BK171; clear HB; have BK171 := n0_; have HB := n1_; clear n0_ n1_; (try clear hb); (try clear hb2); (try clear hk); (try clear hi)) | ((with_reducible refine gate_callee (f := 33) rfl ?_); refine goesL_ (some 33) rfl rfl Tryd.func33 (by kernel_rfl) rfl #[.slice A0 l0.length c0, .int .i64 (wrap64 (t172 + x10_5))] rfl (by (try simp only [List.map_toArray, List.map_cons, List.map_nil]); first | done | rfl | (simp only [List.length_drop, List.length_take]; rfl)) ?_; (with_reducible refine (lines_Span.calls kj5 _ _ l0 (wrap64 (t172 + x10_5)) t173 t174 true _ ?side1 ?side2 A12.out).mono ?_); (case side1 => repeat (first | exact (Kd.C_below HR0.out HB.out) | (with_reducible refine Kd.C_alloc ?_ _) | (with_reducible refine Kd.C_drewN ?_ _) | (with_reducible refine Kd.C_drew ?_))); (case side2 => exact HC0.out); rintro e w28 ⟨rfl, hb⟩; refine ⟨_, rfl, ?_⟩; have n0_ := Aside0.mk (blk_below (g := gb171) (o := .cells #[.int .u8 a2_0, .int .u8 a2_1, .int .i64 a2_2] 30 (0, 0)) (by (with_reducible repeat (first | refine kN ?_ _ | refine kD ?_ | refine kA ?_ _)); exact BK171.out) hb); have n1_ := Aside0.mk (below_step (by repeat (first | exact HB.out | apply bA | apply bN | apply bD | refine bS ?_ GE171.out)) hb); clear BK171; clear HB; have BK171 := n0_; have HB := n1_; clear n0_ n1_; (try clear hb); (try clear hb2); (try clear hk); (try clear hi)) | ((with_reducible refine gate_dst (N := 11) rfl ?_); refine box_event ?hg (N := 11) ?hd (cs := #[.int .i64 0, .int .i64 0]) (t := 39) ?hr ?_; (case hd => rfl); (case hg => rfl); (case hr => first | (go_simp; done) | (go_simp; rfl)); intro gb176 hg w29 hbox hb; have n0_ := Aside0.mk (blk_below (g := gb171) (o := .cells #[.int .u8 a2_0, .int .u8 a2_1, .int .i64 a2_2] 30 (0, 0)) (by (with_reducible repeat (first | refine kN ?_ _ | refine kD ?_ | refine kA ?_ _)); exact BK171.out) hb); have n1_ := Aside0.mk (below_step (by repeat (first | exact HB.out | apply bA | apply bN | apply bD | refine bS ?_ GE171.out)) hb); have n2_ := Aside0.mk (hbox); have n3_ := Aside0.mk ((by rw [hg]; exact (below_size (by repeat (first | exact HB.out | apply bA | apply bN | apply bD | refine bS ?_ GE171.out))) : w.heap.size ≤ gb176)); have n4_ := Aside0.mk ((by rw [hg]; exact (below_size (by repeat (first | exact HB.out | apply bA | apply bN | apply bD | refine bS ?_ GE171.out))) : w.heap.size ≤ gb176)); have n5_ := Aside0.mk ((by rw [hg]; exact Nat.ne_of_lt (blk_lt (g := gb171) (o := .cells #[.int .u8 a2_0, .int .u8 a2_1, .int .i64 a2_2] 30 (0, 0)) (by (with_reducible repeat (first | refine kN ?_ _ | refine kD ?_ | refine kA ?_ _)); exact BK171.out)) : gb171 ≠ gb176)); have n6_ := Aside0.mk ((by rw [hg]; exact Nat.ne_of_gt (blk_lt (g := gb171) (o := .cells #[.int .u8 a2_0, .int .u8 a2_1, .int .i64 a2_2] 30 (0, 0)) (by (with_reducible repeat (first | refine kN ?_ _ | refine kD ?_ | refine kA ?_ _)); exact BK171.out)) : gb176 ≠ gb171)); clear BK171; clear HB; have BK171 := n0_; have HB := n1_; have BK176 := n2_; have GW176 := n3_; have GE176 := n4_; have NB171_176 := n5_; have NB176_171 := n6_; clear n0_ n1_ n2_ n3_ n4_ n5_ n6_; clear hb hbox hg; have hnb30 := NB176_171.out; have hnc30 := NB171_176.out; have hcz31_0 : w29.cell? ⟨gb176, 0, none⟩ = some (.int .i64 0) := (blk_cell BK176.out 0).trans rfl; have hcz31_1 : w29.cell? ⟨gb176, 1, none⟩ = some (.int .i64 0) := (blk_cell BK176.out 1).trans rfl; have hfz31_0 := blk_frozen BK176.out 0; have hfz31_1 := blk_frozen BK176.out 1; have hcz32_0 : w29.cell? ⟨gb171, 0, none⟩ = some (.int .u8 a2_0) := (blk_cell BK171.out 0).trans rfl; have hcz32_1 : w29.cell? ⟨gb171, 1, none⟩ = some (.int .u8 a2_1) := (blk_cell BK171.out 1).trans rfl; have hcz32_2 : w29.cell? ⟨gb171, 2, none⟩ = some (.int .i64 a2_2) := (blk_cell BK171.out 2).trans rfl; have hfz32_0 := blk_frozen BK171.out 0; have hfz32_1 := blk_frozen BK171.out 1; have hfz32_2 := blk_frozen BK171.out 2))
        have n0_ : Aside0 (((w29.setCell ⟨gb176, 0, none⟩ (.int .i64 t173)).setCell ⟨gb176, 1, none⟩ (.int .i64 t174)).heap[gb171]? = some (.cells #[.int .u8 a2_0, .int .u8 a2_1, .int .i64 a2_2] 30 (0, 0))) := ⟨by (with_reducible repeat (first | refine kN ?_ _ | refine kD ?_ | refine kA ?_ _)); refine blk_far ?_ NB171_176.out _; (with_reducible repeat (first | refine kN ?_ _ | refine kD ?_ | refine kA ?_ _)); refine blk_far ?_ NB171_176.out _; (with_reducible repeat (first | refine kN ?_ _ | refine kD ?_ | refine kA ?_ _)); exact BK171.out⟩
        have n1_ : Aside0 (((w29.setCell ⟨gb176, 0, none⟩ (.int .i64 t173)).setCell ⟨gb176, 1, none⟩ (.int .i64 t174)).heap[gb176]? = some (.cells #[.int .i64 t173, .int .i64 t174] 39 (0, 0))) := ⟨by (with_reducible repeat (first | refine kN ?_ _ | refine kD ?_ | refine kA ?_ _)); refine blk_put (cs := #[.int .i64 t173, .int .i64 0]) ?_ 1 _ rfl; (with_reducible repeat (first | refine kN ?_ _ | refine kD ?_ | refine kA ?_ _)); refine blk_put (cs := #[.int .i64 0, .int .i64 0]) ?_ 0 _ rfl; (with_reducible repeat (first | refine kN ?_ _ | refine kD ?_ | refine kA ?_ _)); exact BK176.out⟩
        have n2_ : Aside0 (Below w.heap.size w ((w29.setCell ⟨gb176, 0, none⟩ (.int .i64 t173)).setCell ⟨gb176, 1, none⟩ (.int .i64 t174))) := ⟨by repeat (first | (with_reducible first | exact HB.out | apply below_alloc | apply pw_below_drewN | apply below_drew1 | refine below_set ?_ GE171.out | refine below_set ?_ GE176.out) | exact HB.out)⟩
        (try clear BK171)
        (try clear BK176)
        (try clear HB)
        generalize ((w29.setCell ⟨gb176, 0, none⟩ (.int .i64 t173)).setCell ⟨gb176, 1, none⟩ (.int .i64 t174)) = w33 at n0_ n1_ n2_ ⊢
        have BK171 := n0_
        have BK176 := n1_
        have HB := n2_
        clear n0_ n1_ n2_
        have n0_ := Aside0.mk (blk_drew BK171.out)
        have n1_ := Aside0.mk (blk_drew BK176.out)
        have n2_ := Aside0.mk (below_drew1 HB.out)
        clear BK171
        clear BK176
        clear HB
        have BK171 := n0_
        have BK176 := n1_
        have HB := n2_
        clear n0_ n1_ n2_
        obtain ⟨i035, hi035, _, hsz35, _⟩ := info_parts info5
        obtain ⟨A35, hcut35, hA35, hC35⟩ := print_mid_of (P := Tryd.prog) (Value.int .u8) 0 22 5 .i64 .i64 Tryd.underlying22 hi035 hsz35 A0 c0 l0 t173 (wrap64 (t173 + t174)) (of_decide_eq_true (by first | (with_reducible assumption) | assumption)) (by first | omega | exact of_decide_eq_true (by first | (with_reducible assumption) | assumption)) (of_decide_eq_true (by first | (with_reducible assumption) | assumption)) HC0.out
        have HR177 := Aside0.mk (Kd.C_of_reads (h1 := fun _ => rfl) (hA35 _ (Kd.reads_of_C HR0.out)))
        have HC177 := Aside0.mk hC35
        clear hA35 hC35 hi035 hsz35
        refine start_ (n := 21) (S := fun w' => w'.cell? ⟨gb176, 0, none⟩ = some (.int .i64 t173) ∧ w'.cell? ⟨gb176, 1, none⟩ = some (.int .i64 t174)) (ds := []) #[nn,nn,nn,nn,nn,nn,nn,nn,nn,nn,nn,nn,nn,nn,nn,nn,nn,nn,nn,nn,nn] (by kernel_rfl) rfl rfl ⟨(blk_cell BK176.out 0).trans rfl, (blk_cell BK176.out 1).trans rfl⟩ (fun hHeld => ?_); refine with_tabW motion_down.tab12 motion_down.bits12 (fun HT_ HW_ => ?_)
        generalize w33.drew = w34 at BK171 BK176 HB HR177 hHeld ⊢
        refine pure_ (i := 0) (N := some 46) (v := ?_) (a' := ?_) #[yy,nn,nn,nn,nn,nn,nn,nn,nn,nn,nn,nn,nn,nn,nn,nn,nn,nn,nn,nn,nn] rfl rfl (any_of HT_.out (by kernel_rfl)) (fun _ _ _ h => h) (Or.inl ⟨by rfl, ?_⟩) ?_ ?_
        rotate_left
        ·intro w'
         go_simp
         with_reducible rfl
        rotate_left
        ·simp only [Act.put, zT, z0, zS, i64_w, i32_w]
         rfl
        refine pure_ (i := 2) (N := some 48) (v := ?_) (a' := ?_) #[yy,nn,yy,nn,nn,nn,nn,nn,nn,nn,nn,nn,nn,nn,nn,nn,nn,nn,nn,nn,nn] rfl rfl (any_of HT_.out (by kernel_rfl)) (fun _ _ _ h => h) (Or.inl ⟨by rfl, ?_⟩) ?_ ?_
        rotate_left
        ·intro w'
         go_simp
         with_reducible rfl
        rotate_left
        ·simp only [Act.put, zT, z0, zS, i64_w, i32_w]
         rfl
        refine pure_ (i := 3) (N := some 49) (v := ?_) (a' := ?_) #[yy,nn,yy,yy,nn,nn,nn,nn,nn,nn,nn,nn,nn,nn,nn,nn,nn,nn,nn,nn,nn] rfl rfl (any_of HT_.out (by kernel_rfl)) (fun _ _ _ h => h) (Or.inl ⟨by rfl, ?_⟩) ?_ ?_
        rotate_left
        ·intro w'
         go_simp
         with_reducible rfl
        rotate_left
        ·simp only [Act.put, zT, z0, zS, i64_w, i32_w]
         rfl
        refine pure_ (i := 5) (N := some 51) (v := ?_) (a' := ?_) #[yy,nn,yy,yy,nn,yy,nn,nn,nn,nn,nn,nn,nn,nn,nn,nn,nn,nn,nn,nn,nn] rfl rfl (any_of HT_.out (by kernel_rfl)) (fun _ _ _ h => h) (Or.inl ⟨by rfl, ?_⟩) ?_ ?_
        rotate_left
        ·intro w'
         go_simp
         with_reducible rfl
        rotate_left
        ·simp only [Act.put, zT, z0, zS, i64_w, i32_w]
         rfl
        refine pure_ (i := 7) (N := some 53) (v := ?_) (a' := ?_) #[yy,nn,yy,yy,nn,yy,nn,yy,nn,nn,nn,nn,nn,nn,nn,nn,nn,nn,nn,nn,nn] rfl rfl (any_of HT_.out (by kernel_rfl)) (fun _ _ _ h => h) (Or.inl ⟨by rfl, ?_⟩) ?_ ?_
        rotate_left
        ·intro w'
         go_simp
         with_reducible rfl
        rotate_left
        ·simp only [Act.put, zT, z0, zS, i64_w, i32_w]
         rfl
        refine pure_ (i := 11) (N := some 57) (v := ?_) (a' := ?_) #[yy,nn,yy,yy,nn,yy,nn,yy,nn,nn,nn,yy,nn,nn,nn,nn,nn,nn,nn,nn,nn] rfl rfl (any_of HT_.out (by kernel_rfl)) (fun _ _ _ h => h) (Or.inl ⟨by rfl, ?_⟩) ?_ ?_
        rotate_left
        ·intro w'
         go_simp
         with_reducible rfl
        rotate_left
        ·simp only [Act.put, zT, z0, zS, i64_w, i32_w]
         rfl
        refine pure_ (i := 12) (N := some 58) (v := ?_) (a' := ?_) #[yy,nn,yy,yy,nn,yy,nn,yy,nn,nn,nn,yy,yy,nn,nn,nn,nn,nn,nn,nn,nn] rfl rfl (any_of HT_.out (by kernel_rfl)) (fun _ _ _ h => h) (Or.inl ⟨by rfl, ?_⟩) ?_ ?_
        rotate_left
        ·intro w'
         go_simp
         with_reducible rfl
        rotate_left
        ·simp only [Act.put, zT, z0, zS, i64_w, i32_w]
         rfl
        refine pure_ (i := 13) (N := some 59) (v := ?_) (a' := ?_) #[yy,nn,yy,yy,nn,yy,nn,yy,nn,nn,nn,yy,yy,yy,nn,nn,nn,nn,nn,nn,nn] rfl rfl (any_of HT_.out (by kernel_rfl)) (fun _ _ _ h => h) (Or.inl ⟨by rfl, ?_⟩) ?_ ?_
        rotate_left
        ·intro w'
         go_simp
         with_reducible rfl
        rotate_left
        ·simp only [Act.put, zT, z0, zS, i64_w, i32_w]
         rfl
        refine pure_ (i := 15) (N := some 61) (v := ?_) (a' := ?_) #[yy,nn,yy,yy,nn,yy,nn,yy,nn,nn,nn,yy,yy,yy,nn,yy,nn,nn,nn,nn,nn] rfl rfl (any_of HT_.out (by kernel_rfl)) (fun _ _ _ h => h) (Or.inl ⟨by rfl, ?_⟩) ?_ ?_
        rotate_left
        ·intro w'
         go_simp
         with_reducible rfl
        rotate_left
        ·simp only [Act.put, zT, z0, zS, i64_w, i32_w]
         rfl
        refine pure_ (i := 16) (N := some 62) (v := ?_) (a' := ?_) #[yy,nn,yy,yy,nn,yy,nn,yy,nn,nn,nn,yy,yy,yy,nn,yy,yy,nn,nn,nn,nn] rfl rfl (any_of HT_.out (by kernel_rfl)) (fun _ _ _ h => h) (Or.inl ⟨by rfl, ?_⟩) ?_ ?_
        rotate_left
        ·intro w'
         go_simp
         with_reducible rfl
        rotate_left
        ·simp only [Act.put, zT, z0, zS, i64_w, i32_w]
         rfl
        refine take_ (i := 1) (N := some 47) (v := ?_) (a' := ?_) #[yy,yy,yy,yy,nn,yy,nn,yy,nn,nn,nn,yy,yy,yy,nn,yy,yy,nn,nn,nn,nn] rfl rfl (take_ofW HT_.out HW_.out (by kernel_rfl)) (fun _ _ _ h => h) (Or.inl ⟨by rfl, ?_⟩) hHeld ?_ ?_
        rotate_left
        ·rintro w' ⟨s0, s1⟩
         go_simp
         with_reducible rfl
        rotate_left
        ·simp only [Act.put, zT, z0, zS, i64_w, i32_w]
         rfl
        refine take_ (i := 4) (N := some 50) (v := ?_) (a' := ?_) #[yy,yy,yy,yy,yy,yy,nn,yy,nn,nn,nn,yy,yy,yy,nn,yy,yy,nn,nn,nn,nn] rfl rfl (take_ofW HT_.out HW_.out (by kernel_rfl)) (fun _ _ _ h => h) (Or.inl ⟨by rfl, ?_⟩) hHeld ?_ ?_
        rotate_left
        ·rintro w' ⟨s0, s1⟩
         go_simp
         with_reducible rfl
        rotate_left
        ·simp only [Act.put, zT, z0, zS, i64_w, i32_w]
         rfl
        refine take_ (i := 6) (N := some 52) (v := ?_) (a' := ?_) #[yy,yy,yy,yy,yy,yy,yy,yy,nn,nn,nn,yy,yy,yy,nn,yy,yy,nn,nn,nn,nn] rfl rfl (take_ofW HT_.out HW_.out (by kernel_rfl)) (fun _ _ _ h => h) (Or.inl ⟨by rfl, ?_⟩) hHeld ?_ ?_
        rotate_left
        ·rintro w' ⟨s0, s1⟩
         go_simp
         with_reducible rfl
        rotate_left
        ·simp only [Act.put, zT, z0, zS, i64_w, i32_w]
         rfl
        refine take_ (i := 8) (N := some 54) (v := ?_) (a' := ?_) #[yy,yy,yy,yy,yy,yy,yy,yy,yy,nn,nn,yy,yy,yy,nn,yy,yy,nn,nn,nn,nn] rfl rfl (take_ofW HT_.out HW_.out (by kernel_rfl)) (fun _ _ _ h => h) (Or.inl ⟨by rfl, ?_⟩) hHeld ?_ ?_
        rotate_left
        ·rintro w' ⟨s0, s1⟩
         go_simp
         with_reducible rfl
        rotate_left
        ·simp only [Act.put, zT, z0, zS, i64_w, i32_w]
         rfl
        refine pure_ (i := 9) (N := some 55) (v := ?_) (a' := ?_) #[yy,yy,yy,yy,yy,yy,yy,yy,yy,yy,nn,yy,yy,yy,nn,yy,yy,nn,nn,nn,nn] rfl rfl (any_of HT_.out (by kernel_rfl)) (fun _ _ _ h => h) (Or.inl ⟨by rfl, ?_⟩) ?_ ?_
        rotate_left
        ·intro w'
         go_simp
         with_reducible rfl
        rotate_left
        ·simp only [Act.put, zT, z0, zS, i64_w, i32_w]
         rfl
        refine pure_ (i := 10) (N := some 56) (v := ?_) (a' := ?_) #[yy,yy,yy,yy,yy,yy,yy,yy,yy,yy,yy,yy,yy,yy,nn,yy,yy,nn,nn,nn,nn] rfl rfl (any_of HT_.out (by kernel_rfl)) (fun _ _ _ h => h) (Or.inl ⟨by rfl, ?_⟩) ?_ ?_
        rotate_left
        ·intro w'
         go_simp
         with_reducible rfl
        rotate_left
        ·simp only [Act.put, zT, z0, zS, i64_w, i32_w]
         rfl
        refine one_ (i := 14) (N := some 60) #[yy,yy,yy,yy,yy,yy,yy,yy,yy,yy,yy,yy,yy,yy,yy,yy,yy,nn,nn,nn,nn] rfl rfl (one_of HT_.out (by kernel_rfl)) (by decide) (fun K hK => ?_)
        refine goes_ Tryd.func59 (by kernel_rfl) rfl #[.slice A0 l0.length c0, .int .i64 a1, .int .i64 a3] (by rfl) rfl rfl (by (try simp only [List.map_toArray, List.map_cons, List.map_nil]); first | done | rfl | (simp only [List.length_drop, List.length_take]; rfl)) ?_
        with_reducible refine (lines_Column.calls kj5 _ _ l0 a1 a3 t178 _ ?side3 ?side1 ?side2 A24.out).mono ?_
        (case side1 => repeat (first | exact (Kd.C_below HR0.out HB.out) | (with_reducible refine Kd.C_alloc ?_ _) | (with_reducible refine Kd.C_drewN ?_ _) | (with_reducible refine Kd.C_drew ?_)))
        (case side2 => exact HC0.out)
        (case side3 => exact Tabs.below HT.out (by repeat (first | (with_reducible first | exact HB.out | apply below_alloc | apply pw_below_drewN | apply below_drew1 | refine below_set ?_ GE171.out | refine below_set ?_ GE176.out) | exact HB.out)))
        rintro e w36 ⟨rfl, hb⟩
        refine ⟨_, rfl, ?_⟩
        have n0_ := Aside0.mk (blk_below (g := gb171) (o := .cells #[.int .u8 a2_0, .int .u8 a2_1, .int .i64 a2_2] 30 (0, 0)) (by (with_reducible repeat (first | refine kN ?_ _ | refine kD ?_ | refine kA ?_ _)); exact BK171.out) hb)
        have n1_ := Aside0.mk (blk_below (g := gb176) (o := .cells #[.int .i64 t173, .int .i64 t174] 39 (0, 0)) (by (with_reducible repeat (first | refine kN ?_ _ | refine kD ?_ | refine kA ?_ _)); exact BK176.out) hb)
        have n2_ := Aside0.mk (below_step (by repeat (first | (with_reducible first | exact HB.out | apply below_alloc | apply pw_below_drewN | apply below_drew1 | refine below_set ?_ GE171.out | refine below_set ?_ GE176.out) | exact HB.out)) hb)
        clear BK171
        clear BK176
        clear HB
        have BK171 := n0_
        have BK176 := n1_
        have HB := n2_
        clear n0_ n1_ n2_
        (try clear hb)
        (try clear hb2)
        (try clear hk)
        (try clear hi)
        refine hK.out _ _ ⟨(blk_cell BK176.out 0).trans rfl, (blk_cell BK176.out 1).trans rfl⟩ (fun hHeld => ?_)
        clear hK K
        refine norm_ (a' := ?_) ?_ ?_
        rotate_left
        ·show Act.put _ (some 60) _ = _
         simp only [Act.put, zT, z0, zS, i64_w, i32_w]
         rfl
        refine one_ (i := 17) (N := some 63) #[yy,yy,yy,yy,yy,yy,yy,yy,yy,yy,yy,yy,yy,yy,yy,yy,yy,yy,nn,nn,nn] rfl rfl (one_of HT_.out (by kernel_rfl)) (by decide) (fun K hK => ?_)
        refine goes_ Tryd.func58 (by kernel_rfl) rfl #[.slice A35 ((l0.take ((wrap64 (t173 + t174)) : Int).toNat).drop (t173 : Int).toNat).length (c0 - t173.toNat), .int .i64 t178, .int .i64 ji25] (by rfl) rfl rfl (by (try simp only [List.map_toArray, List.map_cons, List.map_nil]); first | done | (rw [show ((l0.take ((wrap64 (t173 + t174)) : Int).toNat).drop (t173 : Int).toNat).length = ((wrap64 (t173 + t174)).toNat - t173.toNat) from (by rw [List.length_drop, List.length_take]; have h_ : ((wrap64 (t173 + t174)) : Int) ≤ (l0.length : Int) := of_decide_eq_true (by first | (with_reducible assumption) | assumption); omega)] <;> rfl) | (simp only [hji25]; rfl) | rfl | (simp only [List.length_drop, List.length_take]; rfl)) ?_
        with_reducible refine (glyph_At.calls kj5 _ _ ((l0.take ((wrap64 (t173 + t174)) : Int).toNat).drop (t173 : Int).toNat) t178 ji25 t179 _ ?side3 ?side1 ?side2 A26.out).mono ?_
        (case side1 => repeat (first | exact (Kd.C_below HR177.out HB.out) | (with_reducible refine Kd.C_alloc ?_ _) | (with_reducible refine Kd.C_drewN ?_ _) | (with_reducible refine Kd.C_drew ?_)))
        (case side2 => exact HC177.out)
        (case side3 => exact Tabs.below HT.out (by repeat (first | (with_reducible first | exact HB.out | apply below_alloc | apply pw_below_drewN | apply below_drew1 | refine below_set ?_ GE171.out | refine below_set ?_ GE176.out) | exact HB.out)))
        rintro e w37 ⟨rfl, hb⟩
        refine ⟨_, rfl, ?_⟩
        have n0_ := Aside0.mk (blk_below (g := gb171) (o := .cells #[.int .u8 a2_0, .int .u8 a2_1, .int .i64 a2_2] 30 (0, 0)) (by (with_reducible repeat (first | refine kN ?_ _ | refine kD ?_ | refine kA ?_ _)); exact BK171.out) hb)
        have n1_ := Aside0.mk (blk_below (g := gb176) (o := .cells #[.int .i64 t173, .int .i64 t174] 39 (0, 0)) (by (with_reducible repeat (first | refine kN ?_ _ | refine kD ?_ | refine kA ?_ _)); exact BK176.out) hb)
        have n2_ := Aside0.mk (below_step (by repeat (first | (with_reducible first | exact HB.out | apply below_alloc | apply pw_below_drewN | apply below_drew1 | refine below_set ?_ GE171.out | refine below_set ?_ GE176.out) | exact HB.out)) hb)
        clear BK171
        clear BK176
        clear HB
        have BK171 := n0_
        have BK176 := n1_
        have HB := n2_
        clear n0_ n1_ n2_
        (try clear hb)
        (try clear hb2)
        (try clear hk)
        (try clear hi)
        refine hK.out _ _ ⟨(blk_cell BK176.out 0).trans rfl, (blk_cell BK176.out 1).trans rfl⟩ (fun hHeld => ?_)
        clear hK K
        refine norm_ (a' := ?_) ?_ ?_
        rotate_left
        ·show Act.put _ (some 63) _ = _
         simp only [Act.put, zT, z0, zS, i64_w, i32_w]
         rfl
        refine pure_ (i := 18) (N := some 64) (v := ?_) (a' := ?_) #[yy,yy,yy,yy,yy,yy,yy,yy,yy,yy,yy,yy,yy,yy,yy,yy,yy,yy,yy,nn,nn] rfl rfl (any_of HT_.out (by kernel_rfl)) (fun _ _ _ h => h) (Or.inl ⟨by rfl, ?_⟩) ?_ ?_
        rotate_left
        ·intro w'
         go_simp
         with_reducible rfl
        rotate_left
        ·simp only [Act.put, zT, z0, zS, i64_w, i32_w]
         rfl
        refine pure_ (i := 19) (N := some 8) (v := ?_) (a' := ?_) #[yy,yy,yy,yy,yy,yy,yy,yy,yy,yy,yy,yy,yy,yy,yy,yy,yy,yy,yy,yy,nn] rfl rfl (any_of HT_.out (by kernel_rfl)) (fun _ _ _ h => h) (Or.inl ⟨by rfl, ?_⟩) ?_ ?_
        rotate_left
        ·intro w'
         go_simp
         with_reducible rfl
        rotate_left
        ·simp only [Act.put, zT, z0, zS, i64_w, i32_w]
         rfl
        refine pure_ (i := 20) (N := some 9) (v := ?_) (a' := ?_) #[yy,yy,yy,yy,yy,yy,yy,yy,yy,yy,yy,yy,yy,yy,yy,yy,yy,yy,yy,yy,yy] rfl rfl (any_of HT_.out (by kernel_rfl)) (fun _ _ _ h => h) (Or.inl ⟨by rfl, ?_⟩) ?_ ?_
        rotate_left
        ·intro w'
         go_simp
         with_reducible rfl
        rotate_left
        ·simp only [Act.put, zT, z0, zS, i64_w, i32_w]
         rfl
        refine done_ (done_of HT_.out (by kernel_rfl)) ?_
        try go_wp2
        go_ret2
        exact ⟨by first | rfl | (simp [errW_none, errW_some] <;> rfl) | (simp only [← hji5, ← hji25]; first | rfl | (simp [errW_none, errW_some] <;> rfl)) | (simp [*, errW_none, errW_some] <;> rfl), by repeat (first | (with_reducible first | exact HB.out | apply below_alloc | apply pw_below_drewN | apply below_drew1 | refine below_set ?_ GE171.out | refine below_set ?_ GE176.out) | exact HB.out)⟩
       ·rw [if_neg c23] at H
        exact absurd H (by simp)
      ·rw [if_neg c22] at H
       exact absurd H (by simp)
     ·rw [if_neg c21] at H
      exact absurd H (by simp)
   ·replace c13 := Bool.eq_false_iff.mpr c13
    subst c13
    have H1 : (some (0, false)) = some (r1, r2) := by rw [if_neg (show ¬ (false = true) by decide)] at H; exact H
    clear H
    have H := H1
    clear H1
    simp only [Option.some.injEq, Prod.mk.injEq] at H
    obtain ⟨rfl, rfl⟩ := H
    go_wp2_with (first | ((with_reducible refine gate_callee (f := 57) rfl ?_); refine goesL_ (some 30) rfl rfl Tryd.func57 (by kernel_rfl) rfl #[.slice A0 l0.length c0, .int .i64 a1] rfl (by (try simp only [List.map_toArray, List.map_cons, List.map_nil]); first | done | rfl | (simp only [List.length_drop, List.length_take]; rfl)) ?_; (with_reducible refine (lines_Of.calls _ _ l0 a1 t172 _ ?side1 ?side2 A11.out).mono ?_); (case side1 => repeat (first | exact (Kd.C_below HR0.out HB.out) | (with_reducible refine Kd.C_alloc ?_ _) | (with_reducible refine Kd.C_drewN ?_ _) | (with_reducible refine Kd.C_drew ?_))); (case side2 => exact HC0.out); rintro e w38 ⟨rfl, hb⟩; refine ⟨_, rfl, ?_⟩; have n0_ := Aside0.mk (blk_below (g := gb171) (o := .cells #[.int .u8 a2_0, .int .u8 a2_1, .int .i64 a2_2] 30 (0, 0)) (by (with_reducible repeat (first | refine kN ?_ _ | refine kD ?_ | refine kA ?_ _)); exact BK171.out) hb); have n1_ := Aside0.mk (below_step (by repeat (first | exact HB.out | apply bA | apply bN | apply bD | refine bS ?_ GE171.out)) hb); clear BK171; clear HB; have BK171 := n0_; have HB := n1_; clear n0_ n1_; (try clear hb); (try clear hb2); (try clear hk); (try clear hi)) | ((with_reducible refine gate_callee (f := 33) rfl ?_); refine goesL_ (some 33) rfl rfl Tryd.func33 (by kernel_rfl) rfl #[.slice A0 l0.length c0, .int .i64 (wrap64 (t172 + x10_5))] rfl (by (try simp only [List.map_toArray, List.map_cons, List.map_nil]); first | done | rfl | (simp only [List.length_drop, List.length_take]; rfl)) ?_; (with_reducible refine (lines_Span.calls kj5 _ _ l0 (wrap64 (t172 + x10_5)) t173 t174 false _ ?side1 ?side2 A12.out).mono ?_); (case side1 => repeat (first | exact (Kd.C_below HR0.out HB.out) | (with_reducible refine Kd.C_alloc ?_ _) | (with_reducible refine Kd.C_drewN ?_ _) | (with_reducible refine Kd.C_drew ?_))); (case side2 => exact HC0.out); rintro e w39 ⟨rfl, hb⟩; refine ⟨_, rfl, ?_⟩; have n0_ := Aside0.mk (blk_below (g := gb171) (o := .cells #[.int .u8 a2_0, .int .u8 a2_1, .int .i64 a2_2] 30 (0, 0)) (by (with_reducible repeat (first | refine kN ?_ _ | refine kD ?_ | refine kA ?_ _)); exact BK171.out) hb); have n1_ := Aside0.mk (below_step (by repeat (first | exact HB.out | apply bA | apply bN | apply bD | refine bS ?_ GE171.out)) hb); clear BK171; clear HB; have BK171 := n0_; have HB := n1_; clear n0_ n1_; (try clear hb); (try clear hb2); (try clear hk); (try clear hi)) | ((with_reducible refine gate_dst (N := 11) rfl ?_); refine box_event ?hg (N := 11) ?hd (cs := #[.int .i64 0, .int .i64 0]) (t := 39) ?hr ?_; (case hd => rfl); (case hg => rfl); (case hr => first | (go_simp; done) | (go_simp; rfl)); intro gb176 hg w40 hbox hb; have n0_ := Aside0.mk (blk_below (g := gb171) (o := .cells #[.int .u8 a2_0, .int .u8 a2_1, .int .i64 a2_2] 30 (0, 0)) (by (with_reducible repeat (first | refine kN ?_ _ | refine kD ?_ | refine kA ?_ _)); exact BK171.out) hb); have n1_ := Aside0.mk (below_step (by repeat (first | exact HB.out | apply bA | apply bN | apply bD | refine bS ?_ GE171.out)) hb); have n2_ := Aside0.mk (hbox); have n3_ := Aside0.mk ((by rw [hg]; exact (below_size (by repeat (first | exact HB.out | apply bA | apply bN | apply bD | refine bS ?_ GE171.out))) : w.heap.size ≤ gb176)); have n4_ := Aside0.mk ((by rw [hg]; exact (below_size (by repeat (first | exact HB.out | apply bA | apply bN | apply bD | refine bS ?_ GE171.out))) : w.heap.size ≤ gb176)); have n5_ := Aside0.mk ((by rw [hg]; exact Nat.ne_of_lt (blk_lt (g := gb171) (o := .cells #[.int .u8 a2_0, .int .u8 a2_1, .int .i64 a2_2] 30 (0, 0)) (by (with_reducible repeat (first | refine kN ?_ _ | refine kD ?_ | refine kA ?_ _)); exact BK171.out)) : gb171 ≠ gb176)); have n6_ := Aside0.mk ((by rw [hg]; exact Nat.ne_of_gt (blk_lt (g := gb171) (o := .cells #[.int .u8 a2_0, .int .u8 a2_1, .int .i64 a2_2] 30 (0, 0)) (by (with_reducible repeat (first | refine kN ?_ _ | refine kD ?_ | refine kA ?_ _)); exact BK171.out)) : gb176 ≠ gb171)); clear BK171; clear HB; have BK171 := n0_; have HB := n1_; have BK176 := n2_; have GW176 := n3_; have GE176 := n4_; have NB171_176 := n5_; have NB176_171 := n6_; clear n0_ n1_ n2_ n3_ n4_ n5_ n6_; clear hb hbox hg; have hnb41 := NB176_171.out; have hnc41 := NB171_176.out; have hcz42_0 : w40.cell? ⟨gb176, 0, none⟩ = some (.int .i64 0) := (blk_cell BK176.out 0).trans rfl; have hcz42_1 : w40.cell? ⟨gb176, 1, none⟩ = some (.int .i64 0) := (blk_cell BK176.out 1).trans rfl; have hfz42_0 := blk_frozen BK176.out 0; have hfz42_1 := blk_frozen BK176.out 1))
    go_ret2
    exact ⟨by first | rfl | (simp [errW_none, errW_some] <;> rfl) | (simp only [← hji5]; first | rfl | (simp [errW_none, errW_some] <;> rfl)) | (simp [*, errW_none, errW_some] <;> rfl), by repeat (first | (with_reducible first | exact HB.out | apply below_alloc | apply pw_below_drewN | apply below_drew1 | refine below_set ?_ GE171.out | refine below_set ?_ GE176.out) | exact HB.out)⟩

end Go.Proofs.YtloafpnniooliaaDoor.Pa
