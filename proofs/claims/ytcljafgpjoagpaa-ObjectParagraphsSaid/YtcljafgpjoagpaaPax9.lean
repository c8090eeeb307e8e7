-- Laid by a program of this claim's own (wip/tools/mkprint.py, ext.py): walks of the functions that the statements reach.
import Derived.Test.YtcljafgpjoagpaaPax0
namespace Go.Proofs.Ytcljafgpjoagpaa.Pa
open Go.RowKit Go.Proofs.Ytcljafgpjoagpaa.Ext Go.Proofs.YtcljafgpjoagpaaW.PrintWords Go.Proofs.YtcljafgpjoagpaaW.PrintLast Go.Proofs.YtcljafgpjoagpaaW.PrintMore
attribute [local go_sem] max2_int min2_int max_two min_two max_three min_three max_four min_four   -- for this text's walks alone
set_option linter.unusedVariables false
set_option linter.unusedSimpArgs false

/-! ### platenlaw20_place: function 14 -/
def platenlaw20_place.f (l0 : List Int) (a1 : Int) : Option (Int) := if (wrap64 ((l0.length : Int) + 1)) = 0 then (none) else (some (Int.tmod (wrap64 (a1)) (wrap64 ((l0.length : Int) + 1))))
set_option maxHeartbeats 8000000 in
set_option maxRecDepth 100000 in
theorem platenlaw20_place.calls (A0 : Option Addr) (c0 : Nat) (l0 : List Int) (a1 : Int) (r : Int) (w : World) (hr0 : Kd.C (Kd.int .u8) w A0 l0.length l0) (hc0 : l0.length ≤ c0) (h : platenlaw20_place.f l0 a1 = some r) :
    Calls Try.prog 14 #[.slice A0 l0.length c0, .int .u8 a1] w fun e w' => e = .returned (.int .i64 r) ∧ Drawn0 w w' := by
  have HR0 := Aside0.mk hr0
  have HC0 := Aside0.mk hc0
  clear hr0 hc0
  have H : (if (wrap64 ((l0.length : Int) + 1)) = 0 then (none) else (some (Int.tmod (wrap64 (a1)) (wrap64 ((l0.length : Int) + 1))))) = some r := h
  clear h
  by_cases c3 : (wrap64 ((l0.length : Int) + 1)) = 0
  · rw [if_pos c3] at H
    exact absurd H (by simp)
  · rw [if_neg c3] at H
    have c3b0 : ((wrap64 ((l0.length : Int) + 1)) == 0) = false := beq_eq_false_iff_ne.mpr c3
    have c3b1 : ((wrap64 ((l0.length : Int) + 1)) != 0) = true := bne_iff_ne.mpr c3
    obtain rfl := Option.some.inj H
    go_enter Try.func14, Try.ntmps14
    go_wp2
    go_ret
    exact ⟨by first | rfl | (simp; done) | (simp [*]; done), by repeat (first | exact Drawn0.refl _ | apply Drawn0.step)⟩

/-! ### platenref01_Blank: function 34 -/
def platenref01_Blank.f (a0 : Int) : Option (Bool) := if a0 = 32 then (some true) else (some (a0 == 9))
set_option maxHeartbeats 8000000 in
set_option maxRecDepth 100000 in
theorem platenref01_Blank.calls (a0 : Int) (r : Bool) (w : World) (h : platenref01_Blank.f a0 = some r) :
    Calls Try.prog 34 #[.int .u8 a0] w fun e w' => e = .returned (.bool r) ∧ Drawn0 w w' := by
  have H : (if a0 = 32 then (some true) else (some (a0 == 9))) = some r := h
  clear h
  by_cases c2 : a0 = 32
  · rw [if_pos c2] at H
    have c2b0 : (a0 == 32) = true := beq_iff_eq.mpr c2
    have c2b1 : (a0 != 32) = false := bne_eq_false_iff_eq.mpr c2
    clear c2
    obtain rfl := Option.some.inj H
    go_enter Try.func34, Try.ntmps34
    go_wp2
    go_ret
    exact ⟨by first | rfl | (simp; done) | (simp [*]; done), by repeat (first | exact Drawn0.refl _ | apply Drawn0.step)⟩
  · rw [if_neg c2] at H
    have c2b0 : (a0 == 32) = false := beq_eq_false_iff_ne.mpr c2
    have c2b1 : (a0 != 32) = true := bne_iff_ne.mpr c2
    obtain rfl := Option.some.inj H
    go_enter Try.func34, Try.ntmps34
    go_wp2
    go_ret
    exact ⟨by first | rfl | (simp; done) | (simp [*]; done), by repeat (first | exact Drawn0.refl _ | apply Drawn0.step)⟩

/-! ### platenref03_Indent: function 33 -/
def platenref03_Indent.l0 : Nat → List Int → Int → Option (Int)
  | 0, _, _ => none
  | k + 1, x0, x3 => if x3 < (x0.length : Int) then (if 0 ≤ x3 then ((platenref01_Blank.f (rd x0 x3)).bind fun t267 => (if t267 = true then (platenref03_Indent.l0 k x0 (wrap64 (x3 + 1))) else (some x3))) else (none)) else (some x3)
def platenref03_Indent.f (k : Nat) (l0 : List Int) : Option (Int) := platenref03_Indent.l0 k l0 0
theorem platenref03_Indent.mono_l : ∀ k, (∀ y0 y1, LeO (platenref03_Indent.l0 k y0 y1) (platenref03_Indent.l0 (k + 1) y0 y1))
  | 0 => fun _ _ r h => by simp [platenref03_Indent.l0] at h
  | k + 1 => by
    have ih0 := platenref03_Indent.mono_l k
    · intro y0 y1
      unfold platenref03_Indent.l0
      repeat' first
      | (with_reducible exact ih0 _ _)
      | (with_reducible exact LeO.refl _)
      | (with_reducible exact LeO.none _)
      | (with_reducible refine LeO.ite ?_ ?_)
      | (with_reducible refine LeO.bind ?_ (fun _ => ?_))
      | exact ih0 _ _
      | exact LeO.none _
      | refine LeO.ite ?_ ?_
      | refine LeO.bind ?_ (fun _ => ?_)
theorem platenref03_Indent.mono : ∀ a0 k, LeO (platenref03_Indent.f k a0) (platenref03_Indent.f (k + 1) a0) := by
  intro a0 k
  have ih0 := platenref03_Indent.mono_l k
  unfold platenref03_Indent.f
  repeat' first
      | (with_reducible exact ih0 _ _)
      | (with_reducible exact LeO.refl _)
      | (with_reducible exact LeO.none _)
      | (with_reducible refine LeO.ite ?_ ?_)
      | (with_reducible refine LeO.bind ?_ (fun _ => ?_))
      | exact ih0 _ _
      | exact LeO.none _
      | refine LeO.ite ?_ ?_
      | refine LeO.bind ?_ (fun _ => ?_)
set_option maxHeartbeats 8000000 in
set_option maxRecDepth 100000 in
theorem platenref03_Indent.calls (k : Nat) (A0 : Option Addr) (c0 : Nat) (l0 : List Int) (r : Int) (w : World) (hr0 : Kd.C (Kd.int .u8) w A0 l0.length l0) (hc0 : l0.length ≤ c0) (h : platenref03_Indent.f k l0 = some r) :
    Calls Try.prog 33 #[.slice A0 l0.length c0] w fun e w' => e = .returned (.int .i64 r) ∧ Drawn0 w w' := by
  have HR0 := Aside0.mk hr0
  have HC0 := Aside0.mk hc0
  clear hr0 hc0
  have H : (platenref03_Indent.l0 k l0 0) = some r := h
  clear h
  have H' := Aside0.mk H
  clear H
  go_enter Try.func33, Try.ntmps33
  go_wp2
  go_loopg [3] k (fun kq v3 w' => ∃ (x3_1 : Int), v3 = .int .i64 x3_1 ∧ Aside0 (platenref03_Indent.l0 kq l0 x3_1 = some r) ∧ Aside0 (kq ≤ k) ∧ Drawn0 w w')
  case atStart => exact ⟨(0), (by first | rfl | (simp; done) | (simp [*]; done)), H', ⟨Nat.le_refl _⟩, by repeat (first | exact Drawn0.refl _ | apply Drawn0.step)⟩
  case round =>
    clear H'
    obtain ⟨x3_1, rfl, HA, HK1, ⟨m1, rfl⟩⟩ := hrel
    cases gk with
    | zero => exact absurd HA.out (by simp [platenref03_Indent.l0])
    | succ k1 =>
      have H := HA.out
      clear HA
      simp only [platenref03_Indent.l0] at H
      by_cases c2 : x3_1 < (l0.length : Int)
      · rw [if_pos c2] at H
        have c2b0 : decide (x3_1 < (l0.length : Int)) = true := decide_eq_true c2
        clear c2
        by_cases c3 : 0 ≤ x3_1
        · rw [if_pos c3] at H
          have c3b0 : decide (0 ≤ x3_1) = true := decide_eq_true c3
          clear c3
          replace H := Option.bind_eq_some_iff.mp H
          obtain ⟨t267, A40, H⟩ := H
          replace H : (if t267 = true then (platenref03_Indent.l0 k1 l0 (wrap64 (x3_1 + 1))) else (some x3_1)) = some r := H
          have A4 := Aside0.mk A40
          clear A40
          by_cases c5 : t267 = true
          · subst c5
            have H1 : (platenref03_Indent.l0 k1 l0 (wrap64 (x3_1 + 1))) = some r := by rw [if_pos rfl] at H; exact H
            clear H
            have H := H1
            clear H1
            have H' := Aside0.mk H
            clear H
            have p266 : 0 ≤ (x3_1 : Int) := of_decide_eq_true (by first | (with_reducible assumption) | assumption)
            have q266 : x3_1 < (l0.length : Int) := of_decide_eq_true (by first | (with_reducible assumption) | assumption)
            obtain ⟨ad266, e266, hx266_0⟩ := Kd.at_int HR0.out x3_1 p266 q266
            cases e266
            replace p266 := eq_true p266
            replace q266 := eq_true q266
            go_wp2_with (first | (go_at_call 34; (with_reducible refine (platenref01_Blank.calls (rd l0 x3_1) true _ A4.out).mono ?_); rintro e w' ⟨rfl, ⟨nd, rfl⟩⟩))
            go_roundg k1
            case measure => have := HK1.out; omega
            case rel => exact ⟨(wrap64 (x3_1 + 1)), (by first | rfl | (simp; done) | (simp [*]; done)), H', ⟨by have := HK1.out; omega⟩, by repeat (first | exact Drawn0.refl _ | apply Drawn0.step)⟩
          · replace c5 := Bool.eq_false_iff.mpr c5
            subst c5
            have H1 : (some x3_1) = some r := by rw [if_neg (show ¬ (false = true) by decide)] at H; exact H
            clear H
            have H := H1
            clear H1
            obtain rfl := Option.some.inj H
            have p266 : 0 ≤ (x3_1 : Int) := of_decide_eq_true (by first | (with_reducible assumption) | assumption)
            have q266 : x3_1 < (l0.length : Int) := of_decide_eq_true (by first | (with_reducible assumption) | assumption)
            obtain ⟨ad266, e266, hx266_0⟩ := Kd.at_int HR0.out x3_1 p266 q266
            cases e266
            replace p266 := eq_true p266
            replace q266 := eq_true q266
            go_wp2_with (first | (go_at_call 34; (with_reducible refine (platenref01_Blank.calls (rd l0 x3_1) false _ A4.out).mono ?_); rintro e w' ⟨rfl, ⟨nd, rfl⟩⟩))
            go_ret
            exact ⟨by first | rfl | (simp; done) | (simp [*]; done), by repeat (first | exact Drawn0.refl _ | apply Drawn0.step)⟩
        · rw [if_neg c3] at H
          exact absurd H (by simp)
      · rw [if_neg c2] at H
        have c2b0 : decide (x3_1 < (l0.length : Int)) = false := decide_eq_false c2
        clear c2
        obtain rfl := Option.some.inj H
        go_wp2
        go_ret
        exact ⟨by first | rfl | (simp; done) | (simp [*]; done), by repeat (first | exact Drawn0.refl _ | apply Drawn0.step)⟩

/-! ### platenref03_Bare: function 19 -/
def platenref03_Bare.f (k : Nat) (l0 : List Int) : Option (Bool) := (platenref03_Indent.f k l0).bind fun t268 => (some (t268 == (l0.length : Int)))
theorem platenref03_Bare.mono : ∀ a0 k, LeO (platenref03_Bare.f k a0) (platenref03_Bare.f (k + 1) a0) := by
  intro a0 k
  unfold platenref03_Bare.f
  repeat' first
      | (with_reducible exact platenref03_Indent.mono _ _)
      | (with_reducible exact LeO.refl _)
      | (with_reducible exact LeO.none _)
      | (with_reducible refine LeO.ite ?_ ?_)
      | (with_reducible refine LeO.bind ?_ (fun _ => ?_))
      | exact platenref03_Indent.mono _ _
      | exact LeO.none _
      | refine LeO.ite ?_ ?_
      | refine LeO.bind ?_ (fun _ => ?_)
set_option maxHeartbeats 8000000 in
set_option maxRecDepth 100000 in
theorem platenref03_Bare.calls (k : Nat) (A0 : Option Addr) (c0 : Nat) (l0 : List Int) (r : Bool) (w : World) (hr0 : Kd.C (Kd.int .u8) w A0 l0.length l0) (hc0 : l0.length ≤ c0) (h : platenref03_Bare.f k l0 = some r) :
    Calls Try.prog 19 #[.slice A0 l0.length c0] w fun e w' => e = .returned (.bool r) ∧ Drawn0 w w' := by
  have HR0 := Aside0.mk hr0
  have HC0 := Aside0.mk hc0
  clear hr0 hc0
  have H : ((platenref03_Indent.f k l0).bind fun t268 => (some (t268 == (l0.length : Int)))) = some r := h
  clear h
  replace H := Option.bind_eq_some_iff.mp H
  obtain ⟨t268, A20, H⟩ := H
  replace H : (some (t268 == (l0.length : Int))) = some r := H
  have A2 := Aside0.mk A20
  clear A20
  obtain rfl := Option.some.inj H
  go_enter Try.func19, Try.ntmps19
  go_wp2_with (first | ((with_reducible refine gate_callee (f := 33) rfl ?_); refine goesL_ (some 4) rfl rfl Try.func33 (by kernel_rfl) rfl #[.slice A0 l0.length c0] rfl (by (try simp only [List.map_toArray, List.map_cons, List.map_nil]); first | done | rfl | (simp only [List.length_drop, List.length_take]; rfl)) ?_; (with_reducible refine (platenref03_Indent.calls k _ _ l0 t268 _ ?side1 ?side2 A2.out).mono ?_); (case side1 => repeat (first | exact HR0.out | (with_reducible refine Kd.C_alloc ?_ _) | (with_reducible refine Kd.C_drewN ?_ _) | (with_reducible refine Kd.C_drew ?_))); (case side2 => exact HC0.out); rintro e w' ⟨rfl, ⟨nd, rfl⟩⟩; refine ⟨_, rfl, ?_⟩))
  go_ret
  exact ⟨by first | rfl | (simp; done) | (simp [*]; done), by repeat (first | exact Drawn0.refl _ | apply Drawn0.step)⟩

/-! ### platenref03_Text: function 20 -/
def platenref03_Text.f (l0 : List Int) (a1_0 : Int) (a1_1 : Int) : Option (List Int) := if 0 ≤ a1_0 then (if a1_0 ≤ (wrap64 (a1_0 + a1_1)) then (if (wrap64 (a1_0 + a1_1)) ≤ (l0.length : Int) then (some ((l0.take ((wrap64 (a1_0 + a1_1)) : Int).toNat).drop (a1_0 : Int).toNat)) else (none)) else (none)) else (none)
set_option maxHeartbeats 8000000 in
set_option maxRecDepth 100000 in
theorem platenref03_Text.calls (P0_ : Nat → Prop) (A0 : Option Addr) (c0 : Nat) (l0 : List Int) (a1_0 : Int) (a1_1 : Int) (r : List Int) (w : World) (hs0 : Kd.V (Kd.int .u8) 5 w w.heap.size (fun k_ => P0_ k_) (.slice A0 l0.length c0) l0) (h : platenref03_Text.f l0 a1_0 a1_1 = some r) :
    Calls Try.prog 20 #[.slice A0 l0.length c0, .agg #[.int .i64 a1_0, .int .i64 a1_1]] w fun e w' => ∃ v0_ : Value, e = .returned (v0_) ∧ Kd.V (Kd.int .u8) 5 w' w.heap.size (fun k_ => (P0_ k_ ∨ w.heap.size ≤ k_)) v0_ r ∧ Below w.heap.size w w' := by
  have hu25 := Try.underlying25
  have HO0 := Aside0.mk (show Kd.V (Kd.int .u8) 5 w w.heap.size (fun k_ => (P0_ k_ ∨ w.heap.size ≤ k_)) (.slice A0 l0.length c0) l0 from Kd.V_mono hs0 (fun k_ hk => .inl hk))
  have HB := Aside0.mk (Below.refl w.heap.size w)
  have H : (if 0 ≤ a1_0 then (if a1_0 ≤ (wrap64 (a1_0 + a1_1)) then (if (wrap64 (a1_0 + a1_1)) ≤ (l0.length : Int) then (some ((l0.take ((wrap64 (a1_0 + a1_1)) : Int).toNat).drop (a1_0 : Int).toNat)) else (none)) else (none)) else (none)) = some r := h
  clear h
  by_cases c3 : 0 ≤ a1_0
  · rw [if_pos c3] at H
    have c3b0 := eq_true c3
    have c3b1 : decide (0 ≤ a1_0) = true := decide_eq_true c3
    clear c3
    by_cases c4 : a1_0 ≤ (wrap64 (a1_0 + a1_1))
    · rw [if_pos c4] at H
      have c4b0 := eq_true c4
      have c4b1 : decide (a1_0 ≤ (wrap64 (a1_0 + a1_1))) = true := decide_eq_true c4
      by_cases c5 : (wrap64 (a1_0 + a1_1)) ≤ (l0.length : Int)
      · rw [if_pos c5] at H
        have c5b0 := eq_true c5
        have c5b1 : decide ((wrap64 (a1_0 + a1_1)) ≤ (l0.length : Int)) = true := decide_eq_true c5
        obtain ⟨y270, hy270⟩ : ∃ y_ : List Int, y_ = ((l0.take ((wrap64 (a1_0 + a1_1)) : Int).toNat).drop (a1_0 : Int).toNat) := ⟨_, rfl⟩
        replace H : (some y270) = some r := by first | (rw [hy270]; with_reducible exact H) | (have H2_ := (Option.bind_some _ _).symm.trans H; rw [hy270]; with_reducible exact H2_) | (have H2_ := (Option.bind_some _ _).symm.trans H; with_reducible exact H2_) | with_reducible exact H | (rw [hy270]; exact H) | exact H
        have Ny270 := Aside0.mk hy270
        clear hy270
        obtain rfl := Option.some.inj H
        go_enter Try.func20, Try.ntmps20
        go_wp2_with (first | ((with_reducible refine gate_dst (N := 3) rfl ?_); refine box_event ?hg (N := 3) ?hd (cs := #[.int .i64 a1_0, .int .i64 a1_1]) (t := 25) ?hr ?_; (case hd => rfl); (case hg => rfl); (case hr => first | (go_simp; done) | (go_simp; rfl)); intro gb269 hg w6 hbox hb; have n0_ := Aside0.mk (Kd.V_below (Kd.V_elderB (by (with_reducible repeat (first | apply Kd.V_alloc | apply Kd.V_drewN | apply Kd.V_drew)); exact HO0.out) gb269 (Nat.le_of_eq hg.symm)) hb); have n1_ := Aside0.mk (below_step (by repeat (first | (with_reducible first | exact HB.out | apply below_alloc | apply pw_below_drewN | apply below_drew1) | exact HB.out)) hb); have n2_ := Aside0.mk (hbox); have n3_ := Aside0.mk ((by rw [hg]; exact (below_size (by repeat (first | (with_reducible first | exact HB.out | apply below_alloc | apply pw_below_drewN | apply below_drew1) | exact HB.out))) : w.heap.size ≤ gb269)); have n4_ := Aside0.mk ((by rw [hg]; exact (below_size (by repeat (first | (with_reducible first | exact HB.out | apply below_alloc | apply pw_below_drewN | apply below_drew1) | exact HB.out))) : w.heap.size ≤ gb269)); clear HO0; clear HB; have HO0 := n0_; have HB := n1_; have BK269 := n2_; have GW269 := n3_; have GE269 := n4_; clear n0_ n1_ n2_ n3_ n4_; clear hb hbox hg; have hcz7_0 : w6.cell? ⟨gb269, 0, none⟩ = some (.int .i64 a1_0) := (blk_cell BK269.out 0).trans rfl; have hcz7_1 : w6.cell? ⟨gb269, 1, none⟩ = some (.int .i64 a1_1) := (blk_cell BK269.out 1).trans rfl; have hfz7_0 := blk_frozen BK269.out 0; have hfz7_1 := blk_frozen BK269.out 1; have q8 : ((wrap64 (a1_0 + a1_1)) : Int) ≤ ((l0.length : Int) : Int) := of_decide_eq_true (by first | (with_reducible assumption) | assumption); obtain ⟨i08, hi08, _, hsz8, _⟩ := info_parts info5; have hroom8 : l0.length ≤ c0 := (Kd.V_reads' HO0.out).2.1; have hC8 : Kd.F (Kd.int .u8) _ _ A0 l0.length l0 := (Kd.V_at (base := w.heap.size) HO0.out).2.2; have ql8 : (a1_0 : Int) ≤ ((wrap64 (a1_0 + a1_1)) : Int) := of_decide_eq_true (by first | (with_reducible assumption) | assumption); have q08 : (0 : Int) ≤ (a1_0 : Int) := of_decide_eq_true (by first | (with_reducible assumption) | assumption); have hcut8 := cut_mid (P := Try.prog) 22 5 .i64 .i64 Try.underlying22 hi08 1 hsz8 A0 l0.length c0 a1_0 (wrap64 (a1_0 + a1_1)) q08 ql8 q8 hroom8; have hr8 := Kd.F_mid (lo := (a1_0 : Int).toNat) (hi := ((wrap64 (a1_0 + a1_1)) : Int).toNat) (c := c0) hC8 (by omega) (by omega) hroom8; obtain ⟨A8, hA8⟩ : ∃ A1, A1 = (if c0 = (a1_0 : Int).toNat then A0 else (A0 : Option Addr).map (·.add ((a1_0 : Int).toNat * 1))) := ⟨_, rfl⟩; obtain ⟨c8, hc8⟩ : ∃ c1, c1 = c0 - (a1_0 : Int).toNat := ⟨_, rfl⟩; have hy8 : y270.length = ((wrap64 (a1_0 + a1_1)) : Int).toNat - (a1_0 : Int).toNat := (by rw [Ny270.out, List.length_drop, List.length_take] <;> omega); rw [show ((l0).take ((wrap64 (a1_0 + a1_1)) : Int).toNat).drop (a1_0 : Int).toNat = y270 from Ny270.out.symm] at hr8; replace hr8 : Kd.F (Kd.int .u8) _ _ A8 y270.length y270 := (by rw [hA8]; exact hr8); rw [← hy8, ← hA8, ← hc8] at hcut8; have HO274 := Aside0.mk (show Kd.V (Kd.int .u8) 5 _ w.heap.size _ (.slice A8 y270.length c8) y270 from Kd.V_mk (by rw [hy8, hc8]; exact Nat.sub_le_sub_right (Nat.le_trans (by omega) hroom8) _) hr8); have HC274 := Aside0.mk (show y270.length ≤ c8 from by rw [hy8, hc8]; exact Nat.sub_le_sub_right (Nat.le_trans (by omega) hroom8) _); clear hr8 hC8 hroom8 hi08 hsz8 hc8; have KY8 := Aside0.mk hy8; have KA8 := Aside0.mk hA8; clear hy8 hA8; replace q8 := eq_true q8))
        go_ret
        exact ⟨_, by first | rfl | (simp [errW_none, errW_some] <;> rfl) | (simp [*, errW_none, errW_some] <;> rfl), by (with_reducible repeat (first | apply Kd.V_alloc | apply Kd.V_drewN | apply Kd.V_drew)); exact Kd.V_mono HO274.out (fun _ hk => hk.1), by repeat (first | (with_reducible first | exact HB.out | apply below_alloc | apply pw_below_drewN | apply below_drew1 | refine below_set ?_ GE269.out) | exact HB.out)⟩
      · rw [if_neg c5] at H
        exact absurd H (by simp)
    · rw [if_neg c4] at H
      exact absurd H (by simp)
  · rw [if_neg c3] at H
    exact absurd H (by simp)

/-! ### platenref05_Class: function 16 -/
def platenref05_Class.f (a0 : Int) : Option (Int) := (platenref01_Blank.f a0).bind fun t275 => (if t275 = true then (some 0) else (if a0 = 10 then (some 1) else (if a0 ≥ 128 then (some 2) else (if a0 = 95 then (some 2) else (if a0 ≥ 48 then (if a0 ≤ 57 then (some 2) else (if a0 ≥ 65 then (if a0 ≤ 90 then (some 2) else (if a0 ≥ 97 then (if a0 ≤ 122 then (some 2) else (some 3)) else (some 3))) else (if a0 ≥ 97 then (if a0 ≤ 122 then (some 2) else (some 3)) else (some 3)))) else (if a0 ≥ 65 then (if a0 ≤ 90 then (some 2) else (if a0 ≥ 97 then (if a0 ≤ 122 then (some 2) else (some 3)) else (some 3))) else (if a0 ≥ 97 then (if a0 ≤ 122 then (some 2) else (some 3)) else (some 3))))))))
set_option maxHeartbeats 8000000 in
set_option maxRecDepth 100000 in
theorem platenref05_Class.calls (a0 : Int) (r : Int) (w : World) (h : platenref05_Class.f a0 = some r) :
    Calls Try.prog 16 #[.int .u8 a0] w fun e w' => e = .returned (.int .u8 r) ∧ Drawn0 w w' := by
  have H : ((platenref01_Blank.f a0).bind fun t275 => (if t275 = true then (some 0) else (if a0 = 10 then (some 1) else (if a0 ≥ 128 then (some 2) else (if a0 = 95 then (some 2) else (if a0 ≥ 48 then (if a0 ≤ 57 then (some 2) else (if a0 ≥ 65 then (if a0 ≤ 90 then (some 2) else (if a0 ≥ 97 then (if a0 ≤ 122 then (some 2) else (some 3)) else (some 3))) else (if a0 ≥ 97 then (if a0 ≤ 122 then (some 2) else (some 3)) else (some 3)))) else (if a0 ≥ 65 then (if a0 ≤ 90 then (some 2) else (if a0 ≥ 97 then (if a0 ≤ 122 then (some 2) else (some 3)) else (some 3))) else (if a0 ≥ 97 then (if a0 ≤ 122 then (some 2) else (some 3)) else (some 3))))))))) = some r := h
  clear h
  replace H := Option.bind_eq_some_iff.mp H
  obtain ⟨t275, A20, H⟩ := H
  replace H : (if t275 = true then (some 0) else (if a0 = 10 then (some 1) else (if a0 ≥ 128 then (some 2) else (if a0 = 95 then (some 2) else (if a0 ≥ 48 then (if a0 ≤ 57 then (some 2) else (if a0 ≥ 65 then (if a0 ≤ 90 then (some 2) else (if a0 ≥ 97 then (if a0 ≤ 122 then (some 2) else (some 3)) else (some 3))) else (if a0 ≥ 97 then (if a0 ≤ 122 then (some 2) else (some 3)) else (some 3)))) else (if a0 ≥ 65 then (if a0 ≤ 90 then (some 2) else (if a0 ≥ 97 then (if a0 ≤ 122 then (some 2) else (some 3)) else (some 3))) else (if a0 ≥ 97 then (if a0 ≤ 122 then (some 2) else (some 3)) else (some 3)))))))) = some r := H
  have A2 := Aside0.mk A20
  clear A20
  by_cases c3 : t275 = true
  · subst c3
    have H1 : (some 0) = some r := by rw [if_pos rfl] at H; exact H
    clear H
    have H := H1
    clear H1
    obtain rfl := Option.some.inj H
    go_enter Try.func16, Try.ntmps16
    go_wp2_with (first | ((with_reducible refine gate_callee (f := 34) rfl ?_); refine goesL_ (some 4) rfl rfl Try.func34 (by kernel_rfl) rfl #[.int .u8 a0] rfl (by (try simp only [List.map_toArray, List.map_cons, List.map_nil]); first | done | rfl | (simp only [List.length_drop, List.length_take]; rfl)) ?_; (with_reducible refine (platenref01_Blank.calls a0 true _ A2.out).mono ?_); rintro e w' ⟨rfl, ⟨nd, rfl⟩⟩; refine ⟨_, rfl, ?_⟩))
    go_ret
    exact ⟨by first | rfl | (simp; done) | (simp [*]; done), by repeat (first | exact Drawn0.refl _ | apply Drawn0.step)⟩
  · replace c3 := Bool.eq_false_iff.mpr c3
    subst c3
    have H1 : (if a0 = 10 then (some 1) else (if a0 ≥ 128 then (some 2) else (if a0 = 95 then (some 2) else (if a0 ≥ 48 then (if a0 ≤ 57 then (some 2) else (if a0 ≥ 65 then (if a0 ≤ 90 then (some 2) else (if a0 ≥ 97 then (if a0 ≤ 122 then (some 2) else (some 3)) else (some 3))) else (if a0 ≥ 97 then (if a0 ≤ 122 then (some 2) else (some 3)) else (some 3)))) else (if a0 ≥ 65 then (if a0 ≤ 90 then (some 2) else (if a0 ≥ 97 then (if a0 ≤ 122 then (some 2) else (some 3)) else (some 3))) else (if a0 ≥ 97 then (if a0 ≤ 122 then (some 2) else (some 3)) else (some 3))))))) = some r := by rw [if_neg (show ¬ (false = true) by decide)] at H; exact H
    clear H
    have H := H1
    clear H1
    by_cases c4 : a0 = 10
    · rw [if_pos c4] at H
      have c4b0 : (a0 == 10) = true := beq_iff_eq.mpr c4
      have c4b1 : (a0 != 10) = false := bne_eq_false_iff_eq.mpr c4
      clear c4
      obtain rfl := Option.some.inj H
      go_enter Try.func16, Try.ntmps16
      go_wp2_with (first | ((with_reducible refine gate_callee (f := 34) rfl ?_); refine goesL_ (some 4) rfl rfl Try.func34 (by kernel_rfl) rfl #[.int .u8 a0] rfl (by (try simp only [List.map_toArray, List.map_cons, List.map_nil]); first | done | rfl | (simp only [List.length_drop, List.length_take]; rfl)) ?_; (with_reducible refine (platenref01_Blank.calls a0 false _ A2.out).mono ?_); rintro e w' ⟨rfl, ⟨nd, rfl⟩⟩; refine ⟨_, rfl, ?_⟩))
      go_ret
      exact ⟨by first | rfl | (simp; done) | (simp [*]; done), by repeat (first | exact Drawn0.refl _ | apply Drawn0.step)⟩
    · rw [if_neg c4] at H
      have c4b0 : (a0 == 10) = false := beq_eq_false_iff_ne.mpr c4
      have c4b1 : (a0 != 10) = true := bne_iff_ne.mpr c4
      by_cases c5 : a0 ≥ 128
      · rw [if_pos c5] at H
        have c5b0 : decide (128 ≤ a0) = true := decide_eq_true c5
        clear c5
        obtain rfl := Option.some.inj H
        go_enter Try.func16, Try.ntmps16
        go_wp2_with (first | ((with_reducible refine gate_callee (f := 34) rfl ?_); refine goesL_ (some 4) rfl rfl Try.func34 (by kernel_rfl) rfl #[.int .u8 a0] rfl (by (try simp only [List.map_toArray, List.map_cons, List.map_nil]); first | done | rfl | (simp only [List.length_drop, List.length_take]; rfl)) ?_; (with_reducible refine (platenref01_Blank.calls a0 false _ A2.out).mono ?_); rintro e w' ⟨rfl, ⟨nd, rfl⟩⟩; refine ⟨_, rfl, ?_⟩))
        go_ret
        exact ⟨by first | rfl | (simp; done) | (simp [*]; done), by repeat (first | exact Drawn0.refl _ | apply Drawn0.step)⟩
      · rw [if_neg c5] at H
        have c5b0 : decide (128 ≤ a0) = false := decide_eq_false c5
        clear c5
        by_cases c6 : a0 = 95
        · rw [if_pos c6] at H
          have c6b0 : (a0 == 95) = true := beq_iff_eq.mpr c6
          have c6b1 : (a0 != 95) = false := bne_eq_false_iff_eq.mpr c6
          clear c6
          obtain rfl := Option.some.inj H
          go_enter Try.func16, Try.ntmps16
          go_wp2_with (first | ((with_reducible refine gate_callee (f := 34) rfl ?_); refine goesL_ (some 4) rfl rfl Try.func34 (by kernel_rfl) rfl #[.int .u8 a0] rfl (by (try simp only [List.map_toArray, List.map_cons, List.map_nil]); first | done | rfl | (simp only [List.length_drop, List.length_take]; rfl)) ?_; (with_reducible refine (platenref01_Blank.calls a0 false _ A2.out).mono ?_); rintro e w' ⟨rfl, ⟨nd, rfl⟩⟩; refine ⟨_, rfl, ?_⟩))
          go_ret
          exact ⟨by first | rfl | (simp; done) | (simp [*]; done), by repeat (first | exact Drawn0.refl _ | apply Drawn0.step)⟩
        · rw [if_neg c6] at H
          have c6b0 : (a0 == 95) = false := beq_eq_false_iff_ne.mpr c6
          have c6b1 : (a0 != 95) = true := bne_iff_ne.mpr c6
          by_cases c7 : a0 ≥ 48
          · rw [if_pos c7] at H
            have c7b0 : decide (48 ≤ a0) = true := decide_eq_true c7
            clear c7
            by_cases c8 : a0 ≤ 57
            · rw [if_pos c8] at H
              have c8b0 : decide (a0 ≤ 57) = true := decide_eq_true c8
              clear c8
              obtain rfl := Option.some.inj H
              go_enter Try.func16, Try.ntmps16
              go_wp2_with (first | ((with_reducible refine gate_callee (f := 34) rfl ?_); refine goesL_ (some 4) rfl rfl Try.func34 (by kernel_rfl) rfl #[.int .u8 a0] rfl (by (try simp only [List.map_toArray, List.map_cons, List.map_nil]); first | done | rfl | (simp only [List.length_drop, List.length_take]; rfl)) ?_; (with_reducible refine (platenref01_Blank.calls a0 false _ A2.out).mono ?_); rintro e w' ⟨rfl, ⟨nd, rfl⟩⟩; refine ⟨_, rfl, ?_⟩))
              go_ret
              exact ⟨by first | rfl | (simp; done) | (simp [*]; done), by repeat (first | exact Drawn0.refl _ | apply Drawn0.step)⟩
            · rw [if_neg c8] at H
              have c8b0 : decide (a0 ≤ 57) = false := decide_eq_false c8
              clear c8
              by_cases c9 : a0 ≥ 65
              · rw [if_pos c9] at H
                have c9b0 : decide (65 ≤ a0) = true := decide_eq_true c9
                clear c9
                by_cases c10 : a0 ≤ 90
                · rw [if_pos c10] at H
                  have c10b0 : decide (a0 ≤ 90) = true := decide_eq_true c10
                  clear c10
                  obtain rfl := Option.some.inj H
                  go_enter Try.func16, Try.ntmps16
                  go_wp2_with (first | ((with_reducible refine gate_callee (f := 34) rfl ?_); refine goesL_ (some 4) rfl rfl Try.func34 (by kernel_rfl) rfl #[.int .u8 a0] rfl (by (try simp only [List.map_toArray, List.map_cons, List.map_nil]); first | done | rfl | (simp only [List.length_drop, List.length_take]; rfl)) ?_; (with_reducible refine (platenref01_Blank.calls a0 false _ A2.out).mono ?_); rintro e w' ⟨rfl, ⟨nd, rfl⟩⟩; refine ⟨_, rfl, ?_⟩))
                  go_ret
                  exact ⟨by first | rfl | (simp; done) | (simp [*]; done), by repeat (first | exact Drawn0.refl _ | apply Drawn0.step)⟩
                · rw [if_neg c10] at H
                  have c10b0 : decide (a0 ≤ 90) = false := decide_eq_false c10
                  clear c10
                  by_cases c11 : a0 ≥ 97
                  · rw [if_pos c11] at H
                    have c11b0 : decide (97 ≤ a0) = true := decide_eq_true c11
                    clear c11
                    by_cases c12 : a0 ≤ 122
                    · rw [if_pos c12] at H
                      have c12b0 : decide (a0 ≤ 122) = true := decide_eq_true c12
                      clear c12
                      obtain rfl := Option.some.inj H
                      go_enter Try.func16, Try.ntmps16
                      go_wp2_with (first | ((with_reducible refine gate_callee (f := 34) rfl ?_); refine goesL_ (some 4) rfl rfl Try.func34 (by kernel_rfl) rfl #[.int .u8 a0] rfl (by (try simp only [List.map_toArray, List.map_cons, List.map_nil]); first | done | rfl | (simp only [List.length_drop, List.length_take]; rfl)) ?_; (with_reducible refine (platenref01_Blank.calls a0 false _ A2.out).mono ?_); rintro e w' ⟨rfl, ⟨nd, rfl⟩⟩; refine ⟨_, rfl, ?_⟩))
                      go_ret
                      exact ⟨by first | rfl | (simp; done) | (simp [*]; done), by repeat (first | exact Drawn0.refl _ | apply Drawn0.step)⟩
                    · rw [if_neg c12] at H
                      have c12b0 : decide (a0 ≤ 122) = false := decide_eq_false c12
                      clear c12
                      obtain rfl := Option.some.inj H
                      go_enter Try.func16, Try.ntmps16
                      go_wp2_with (first | ((with_reducible refine gate_callee (f := 34) rfl ?_); refine goesL_ (some 4) rfl rfl Try.func34 (by kernel_rfl) rfl #[.int .u8 a0] rfl (by (try simp only [List.map_toArray, List.map_cons, List.map_nil]); first | done | rfl | (simp only [List.length_drop, List.length_take]; rfl)) ?_; (with_reducible refine (platenref01_Blank.calls a0 false _ A2.out).mono ?_); rintro e w' ⟨rfl, ⟨nd, rfl⟩⟩; refine ⟨_, rfl, ?_⟩))
                      go_ret
                      exact ⟨by first | rfl | (simp; done) | (simp [*]; done), by repeat (first | exact Drawn0.refl _ | apply Drawn0.step)⟩
                  · rw [if_neg c11] at H
                    have c11b0 : decide (97 ≤ a0) = false := decide_eq_false c11
                    clear c11
                    obtain rfl := Option.some.inj H
                    go_enter Try.func16, Try.ntmps16
                    go_wp2_with (first | ((with_reducible refine gate_callee (f := 34) rfl ?_); refine goesL_ (some 4) rfl rfl Try.func34 (by kernel_rfl) rfl #[.int .u8 a0] rfl (by (try simp only [List.map_toArray, List.map_cons, List.map_nil]); first | done | rfl | (simp only [List.length_drop, List.length_take]; rfl)) ?_; (with_reducible refine (platenref01_Blank.calls a0 false _ A2.out).mono ?_); rintro e w' ⟨rfl, ⟨nd, rfl⟩⟩; refine ⟨_, rfl, ?_⟩))
                    go_ret
                    exact ⟨by first | rfl | (simp; done) | (simp [*]; done), by repeat (first | exact Drawn0.refl _ | apply Drawn0.step)⟩
              · rw [if_neg c9] at H
                have c9b0 : decide (65 ≤ a0) = false := decide_eq_false c9
                clear c9
                by_cases c13 : a0 ≥ 97
                · rw [if_pos c13] at H
                  have c13b0 : decide (97 ≤ a0) = true := decide_eq_true c13
                  clear c13
                  by_cases c14 : a0 ≤ 122
                  · rw [if_pos c14] at H
                    have c14b0 : decide (a0 ≤ 122) = true := decide_eq_true c14
                    clear c14
                    obtain rfl := Option.some.inj H
                    go_enter Try.func16, Try.ntmps16
                    go_wp2_with (first | ((with_reducible refine gate_callee (f := 34) rfl ?_); refine goesL_ (some 4) rfl rfl Try.func34 (by kernel_rfl) rfl #[.int .u8 a0] rfl (by (try simp only [List.map_toArray, List.map_cons, List.map_nil]); first | done | rfl | (simp only [List.length_drop, List.length_take]; rfl)) ?_; (with_reducible refine (platenref01_Blank.calls a0 false _ A2.out).mono ?_); rintro e w' ⟨rfl, ⟨nd, rfl⟩⟩; refine ⟨_, rfl, ?_⟩))
                    go_ret
                    exact ⟨by first | rfl | (simp; done) | (simp [*]; done), by repeat (first | exact Drawn0.refl _ | apply Drawn0.step)⟩
                  · rw [if_neg c14] at H
                    have c14b0 : decide (a0 ≤ 122) = false := decide_eq_false c14
                    clear c14
                    obtain rfl := Option.some.inj H
                    go_enter Try.func16, Try.ntmps16
                    go_wp2_with (first | ((with_reducible refine gate_callee (f := 34) rfl ?_); refine goesL_ (some 4) rfl rfl Try.func34 (by kernel_rfl) rfl #[.int .u8 a0] rfl (by (try simp only [List.map_toArray, List.map_cons, List.map_nil]); first | done | rfl | (simp only [List.length_drop, List.length_take]; rfl)) ?_; (with_reducible refine (platenref01_Blank.calls a0 false _ A2.out).mono ?_); rintro e w' ⟨rfl, ⟨nd, rfl⟩⟩; refine ⟨_, rfl, ?_⟩))
                    go_ret
                    exact ⟨by first | rfl | (simp; done) | (simp [*]; done), by repeat (first | exact Drawn0.refl _ | apply Drawn0.step)⟩
                · rw [if_neg c13] at H
                  have c13b0 : decide (97 ≤ a0) = false := decide_eq_false c13
                  clear c13
                  obtain rfl := Option.some.inj H
                  go_enter Try.func16, Try.ntmps16
                  go_wp2_with (first | ((with_reducible refine gate_callee (f := 34) rfl ?_); refine goesL_ (some 4) rfl rfl Try.func34 (by kernel_rfl) rfl #[.int .u8 a0] rfl (by (try simp only [List.map_toArray, List.map_cons, List.map_nil]); first | done | rfl | (simp only [List.length_drop, List.length_take]; rfl)) ?_; (with_reducible refine (platenref01_Blank.calls a0 false _ A2.out).mono ?_); rintro e w' ⟨rfl, ⟨nd, rfl⟩⟩; refine ⟨_, rfl, ?_⟩))
                  go_ret
                  exact ⟨by first | rfl | (simp; done) | (simp [*]; done), by repeat (first | exact Drawn0.refl _ | apply Drawn0.step)⟩
          · rw [if_neg c7] at H
            have c7b0 : decide (48 ≤ a0) = false := decide_eq_false c7
            clear c7
            by_cases c15 : a0 ≥ 65
            · rw [if_pos c15] at H
              have c15b0 : decide (65 ≤ a0) = true := decide_eq_true c15
              clear c15
              by_cases c16 : a0 ≤ 90
              · rw [if_pos c16] at H
                have c16b0 : decide (a0 ≤ 90) = true := decide_eq_true c16
                clear c16
                obtain rfl := Option.some.inj H
                go_enter Try.func16, Try.ntmps16
                go_wp2_with (first | ((with_reducible refine gate_callee (f := 34) rfl ?_); refine goesL_ (some 4) rfl rfl Try.func34 (by kernel_rfl) rfl #[.int .u8 a0] rfl (by (try simp only [List.map_toArray, List.map_cons, List.map_nil]); first | done | rfl | (simp only [List.length_drop, List.length_take]; rfl)) ?_; (with_reducible refine (platenref01_Blank.calls a0 false _ A2.out).mono ?_); rintro e w' ⟨rfl, ⟨nd, rfl⟩⟩; refine ⟨_, rfl, ?_⟩))
                go_ret
                exact ⟨by first | rfl | (simp; done) | (simp [*]; done), by repeat (first | exact Drawn0.refl _ | apply Drawn0.step)⟩
              · rw [if_neg c16] at H
                have c16b0 : decide (a0 ≤ 90) = false := decide_eq_false c16
                clear c16
                by_cases c17 : a0 ≥ 97
                · rw [if_pos c17] at H
                  have c17b0 : decide (97 ≤ a0) = true := decide_eq_true c17
                  clear c17
                  by_cases c18 : a0 ≤ 122
                  · rw [if_pos c18] at H
                    have c18b0 : decide (a0 ≤ 122) = true := decide_eq_true c18
                    clear c18
                    obtain rfl := Option.some.inj H
                    go_enter Try.func16, Try.ntmps16
                    go_wp2_with (first | ((with_reducible refine gate_callee (f := 34) rfl ?_); refine goesL_ (some 4) rfl rfl Try.func34 (by kernel_rfl) rfl #[.int .u8 a0] rfl (by (try simp only [List.map_toArray, List.map_cons, List.map_nil]); first | done | rfl | (simp only [List.length_drop, List.length_take]; rfl)) ?_; (with_reducible refine (platenref01_Blank.calls a0 false _ A2.out).mono ?_); rintro e w' ⟨rfl, ⟨nd, rfl⟩⟩; refine ⟨_, rfl, ?_⟩))
                    go_ret
                    exact ⟨by first | rfl | (simp; done) | (simp [*]; done), by repeat (first | exact Drawn0.refl _ | apply Drawn0.step)⟩
                  · rw [if_neg c18] at H
                    have c18b0 : decide (a0 ≤ 122) = false := decide_eq_false c18
                    clear c18
                    obtain rfl := Option.some.inj H
                    go_enter Try.func16, Try.ntmps16
                    go_wp2_with (first | ((with_reducible refine gate_callee (f := 34) rfl ?_); refine goesL_ (some 4) rfl rfl Try.func34 (by kernel_rfl) rfl #[.int .u8 a0] rfl (by (try simp only [List.map_toArray, List.map_cons, List.map_nil]); first | done | rfl | (simp only [List.length_drop, List.length_take]; rfl)) ?_; (with_reducible refine (platenref01_Blank.calls a0 false _ A2.out).mono ?_); rintro e w' ⟨rfl, ⟨nd, rfl⟩⟩; refine ⟨_, rfl, ?_⟩))
                    go_ret
                    exact ⟨by first | rfl | (simp; done) | (simp [*]; done), by repeat (first | exact Drawn0.refl _ | apply Drawn0.step)⟩
                · rw [if_neg c17] at H
                  have c17b0 : decide (97 ≤ a0) = false := decide_eq_false c17
                  clear c17
                  obtain rfl := Option.some.inj H
                  go_enter Try.func16, Try.ntmps16
                  go_wp2_with (first | ((with_reducible refine gate_callee (f := 34) rfl ?_); refine goesL_ (some 4) rfl rfl Try.func34 (by kernel_rfl) rfl #[.int .u8 a0] rfl (by (try simp only [List.map_toArray, List.map_cons, List.map_nil]); first | done | rfl | (simp only [List.length_drop, List.length_take]; rfl)) ?_; (with_reducible refine (platenref01_Blank.calls a0 false _ A2.out).mono ?_); rintro e w' ⟨rfl, ⟨nd, rfl⟩⟩; refine ⟨_, rfl, ?_⟩))
                  go_ret
                  exact ⟨by first | rfl | (simp; done) | (simp [*]; done), by repeat (first | exact Drawn0.refl _ | apply Drawn0.step)⟩
            · rw [if_neg c15] at H
              have c15b0 : decide (65 ≤ a0) = false := decide_eq_false c15
              clear c15
              by_cases c19 : a0 ≥ 97
              · rw [if_pos c19] at H
                have c19b0 : decide (97 ≤ a0) = true := decide_eq_true c19
                clear c19
                by_cases c20 : a0 ≤ 122
                · rw [if_pos c20] at H
                  have c20b0 : decide (a0 ≤ 122) = true := decide_eq_true c20
                  clear c20
                  obtain rfl := Option.some.inj H
                  go_enter Try.func16, Try.ntmps16
                  go_wp2_with (first | ((with_reducible refine gate_callee (f := 34) rfl ?_); refine goesL_ (some 4) rfl rfl Try.func34 (by kernel_rfl) rfl #[.int .u8 a0] rfl (by (try simp only [List.map_toArray, List.map_cons, List.map_nil]); first | done | rfl | (simp only [List.length_drop, List.length_take]; rfl)) ?_; (with_reducible refine (platenref01_Blank.calls a0 false _ A2.out).mono ?_); rintro e w' ⟨rfl, ⟨nd, rfl⟩⟩; refine ⟨_, rfl, ?_⟩))
                  go_ret
                  exact ⟨by first | rfl | (simp; done) | (simp [*]; done), by repeat (first | exact Drawn0.refl _ | apply Drawn0.step)⟩
                · rw [if_neg c20] at H
                  have c20b0 : decide (a0 ≤ 122) = false := decide_eq_false c20
                  clear c20
                  obtain rfl := Option.some.inj H
                  go_enter Try.func16, Try.ntmps16
                  go_wp2_with (first | ((with_reducible refine gate_callee (f := 34) rfl ?_); refine goesL_ (some 4) rfl rfl Try.func34 (by kernel_rfl) rfl #[.int .u8 a0] rfl (by (try simp only [List.map_toArray, List.map_cons, List.map_nil]); first | done | rfl | (simp only [List.length_drop, List.length_take]; rfl)) ?_; (with_reducible refine (platenref01_Blank.calls a0 false _ A2.out).mono ?_); rintro e w' ⟨rfl, ⟨nd, rfl⟩⟩; refine ⟨_, rfl, ?_⟩))
                  go_ret
                  exact ⟨by first | rfl | (simp; done) | (simp [*]; done), by repeat (first | exact Drawn0.refl _ | apply Drawn0.step)⟩
              · rw [if_neg c19] at H
                have c19b0 : decide (97 ≤ a0) = false := decide_eq_false c19
                clear c19
                obtain rfl := Option.some.inj H
                go_enter Try.func16, Try.ntmps16
                go_wp2_with (first | ((with_reducible refine gate_callee (f := 34) rfl ?_); refine goesL_ (some 4) rfl rfl Try.func34 (by kernel_rfl) rfl #[.int .u8 a0] rfl (by (try simp only [List.map_toArray, List.map_cons, List.map_nil]); first | done | rfl | (simp only [List.length_drop, List.length_take]; rfl)) ?_; (with_reducible refine (platenref01_Blank.calls a0 false _ A2.out).mono ?_); rintro e w' ⟨rfl, ⟨nd, rfl⟩⟩; refine ⟨_, rfl, ?_⟩))
                go_ret
                exact ⟨by first | rfl | (simp; done) | (simp [*]; done), by repeat (first | exact Drawn0.refl _ | apply Drawn0.step)⟩

/-! ### platenref05_Runs: function 32 -/
def platenref05_Runs.l0 : Nat → List Int → List (S25) → Int → Int → Option ((List (S25)))
  | 0, _, _, _, _ => none
  | k + 1, x0, x3, x4, x5 => if x5 ≤ (x0.length : Int) then (if x5 = (x0.length : Int) then (if x3.length < 8796093022208 then (platenref05_Runs.l0 k x0 (x3 ++ [(⟨x4, wrap64 (x5 - x4)⟩ : S25)]) x5 (wrap64 (x5 + 1))) else (none)) else (if 0 ≤ x5 then (if x5 < (x0.length : Int) then ((platenref05_Class.f (rd x0 x5)).bind fun t280 => (if 0 ≤ x4 then (if x4 < (x0.length : Int) then ((platenref05_Class.f (rd x0 x4)).bind fun t282 => (if t280 = t282 then (platenref05_Runs.l0 k x0 x3 x4 (wrap64 (x5 + 1))) else (if x3.length < 8796093022208 then (platenref05_Runs.l0 k x0 (x3 ++ [(⟨x4, wrap64 (x5 - x4)⟩ : S25)]) x5 (wrap64 (x5 + 1))) else (none)))) else (none)) else (none))) else (none)) else (none))) else (some x3)
def platenref05_Runs.f (k : Nat) (l0 : List Int) : Option ((List (S25))) := platenref05_Runs.l0 k l0 ([] : List (S25)) 0 1
theorem platenref05_Runs.mono_l : ∀ k, (∀ y0 y1 y2 y3, LeO (platenref05_Runs.l0 k y0 y1 y2 y3) (platenref05_Runs.l0 (k + 1) y0 y1 y2 y3))
  | 0 => fun _ _ _ _ r h => by simp [platenref05_Runs.l0] at h
  | k + 1 => by
    have ih0 := platenref05_Runs.mono_l k
    · intro y0 y1 y2 y3
      unfold platenref05_Runs.l0
      repeat' first
      | (with_reducible exact ih0 _ _ _ _)
      | (with_reducible exact LeO.refl _)
      | (with_reducible exact LeO.none _)
      | (with_reducible refine LeO.ite ?_ ?_)
      | (with_reducible refine LeO.bind ?_ (fun _ => ?_))
      | exact ih0 _ _ _ _
      | exact LeO.none _
      | refine LeO.ite ?_ ?_
      | refine LeO.bind ?_ (fun _ => ?_)
theorem platenref05_Runs.mono : ∀ a0 k, LeO (platenref05_Runs.f k a0) (platenref05_Runs.f (k + 1) a0) := by
  intro a0 k
  have ih0 := platenref05_Runs.mono_l k
  unfold platenref05_Runs.f
  repeat' first
      | (with_reducible exact ih0 _ _ _ _)
      | (with_reducible exact LeO.refl _)
      | (with_reducible exact LeO.none _)
      | (with_reducible refine LeO.ite ?_ ?_)
      | (with_reducible refine LeO.bind ?_ (fun _ => ?_))
      | exact ih0 _ _ _ _
      | exact LeO.none _
      | refine LeO.ite ?_ ?_
      | refine LeO.bind ?_ (fun _ => ?_)
set_option maxHeartbeats 8000000 in
set_option maxRecDepth 100000 in
theorem platenref05_Runs.calls (k : Nat) (A0 : Option Addr) (c0 : Nat) (l0 : List Int) (r : List (S25)) (w : World) (hr0 : Kd.C (Kd.int .u8) w A0 l0.length l0) (hc0 : l0.length ≤ c0) (h : platenref05_Runs.f k l0 = some r) :
    Calls Try.prog 32 #[.slice A0 l0.length c0] w fun e w' => ∃ v0_ : Value, e = .returned (v0_) ∧ Kd.R k25 25 w' w.heap.size (fun _ => True) v0_ r ∧ Below w.heap.size w w' := by
  have hu25 := Try.underlying25
  have HR0 := Aside0.mk hr0
  have HC0 := Aside0.mk hc0
  clear hr0 hc0
  have HB := Aside0.mk (Below.refl w.heap.size w)
  have H : (platenref05_Runs.l0 k l0 ([] : List (S25)) 0 1) = some r := h
  clear h
  have H' := Aside0.mk H
  clear H
  go_enter Try.func32, Try.ntmps32
  go_wp2
  repeat (go_quiet (fail); try go_wp2)
  go_loopg [3, 4, 5] k (fun kq v3 v4 v5 w' => ∃ (x3_1 : List (S25)) (x4_1 : Int) (x5_1 : Int), v4 = .int .i64 x4_1 ∧ v5 = .int .i64 x5_1 ∧ Aside0 (platenref05_Runs.l0 kq l0 x3_1 x4_1 x5_1 = some r) ∧ Aside0 (kq ≤ k) ∧ Aside0 (Kd.R k25 25 w' w.heap.size (fun _ => True) v3 x3_1) ∧ Aside0 (Below w.heap.size w w'))
  case atStart => exact ⟨(([] : List (S25))), (0), (1), (by first | rfl | (simp; done) | (simp [*]; done)), (by first | rfl | (simp; done) | (simp [*]; done)), H', ⟨Nat.le_refl _⟩, ⟨by first | exact Kd.R_nil _ _ _ _ _ | exact Kd.N_nil _ _ _ _ _ | exact Kd.V_nil _ _ _ _ _ | exact Kd.Q_nil _ _ _ _ _ | exact Kd.S_nil _ _ _ _ _⟩, ⟨by repeat (first | (with_reducible first | exact HB.out | apply below_alloc | apply pw_below_drewN | apply below_drew1) | exact HB.out)⟩⟩
  case round =>
    clear H'
    obtain ⟨x3_1, x4_1, x5_1, rfl, rfl, HA, HK1, HO_3, HB⟩ := hrel
    cases gk with
    | zero => exact absurd HA.out (by simp [platenref05_Runs.l0])
    | succ k1 =>
      have H := HA.out
      clear HA
      simp only [platenref05_Runs.l0] at H
      by_cases c2 : x5_1 ≤ (l0.length : Int)
      · rw [if_pos c2] at H
        have c2b0 : decide (x5_1 ≤ (l0.length : Int)) = true := decide_eq_true c2
        clear c2
        by_cases c3 : x5_1 = (l0.length : Int)
        · rw [if_pos c3] at H
          have c3b0 : (x5_1 == (l0.length : Int)) = true := beq_iff_eq.mpr c3
          have c3b1 : (x5_1 != (l0.length : Int)) = false := bne_eq_false_iff_eq.mpr c3
          clear c3
          by_cases c4 : x3_1.length < 8796093022208
          · rw [if_pos c4] at H
            have LMc4 := Aside0.mk c4
            clear c4
            obtain ⟨y276, hy276⟩ : ∃ y_ : List (S25), y_ = (x3_1 ++ [(⟨x4_1, wrap64 (x5_1 - x4_1)⟩ : S25)]) := ⟨_, rfl⟩
            replace H : (platenref05_Runs.l0 k1 l0 y276 x5_1 (wrap64 (x5_1 + 1))) = some r := by first | (rw [hy276]; with_reducible exact H) | (have H2_ := (Option.bind_some _ _).symm.trans H; rw [hy276]; with_reducible exact H2_) | (have H2_ := (Option.bind_some _ _).symm.trans H; with_reducible exact H2_) | with_reducible exact H | (rw [hy276]; exact H) | exact H
            have Ny276 := Aside0.mk hy276
            clear hy276
            have H' := Aside0.mk H
            clear H
            go_wp2_with (first | ((with_reducible refine gate_builtin (b := .append) (xs := #[.tmp 29, .tmp 35]) rfl ?_); at_builtin; refine Kd.R_append k25 (w0 := w) w.heap.size rfl (.tmp 29) (.tmp 35) 45 25 (.agg #[(.int .i64 0), (.int .i64 0)]) 16 rfl Try.underlying45 info25 rfl (by decide) (by omega) u3 x3_1 (⟨x4_1, wrap64 (x5_1 - x4_1)⟩ : S25) [.int .i64 x4_1, .int .i64 (wrap64 (x5_1 - x4_1))] (fun _ => True) (fun _ => False) rfl rfl ?aP (fun _ hk => hk.elim) ?aF ?aO ?aB ?aS ?aL ?_; (case aP => exact k25_mkM _ _ _ (⟨x4_1, wrap64 (x5_1 - x4_1)⟩ : S25)); (case aB => exact (by repeat (first | (with_reducible first | exact HB.out | apply below_alloc | apply pw_below_drewN | apply below_drew1) | exact HB.out))); (case aF => exact (fun _ _ => trivial)); (case aO => exact (by (with_reducible repeat (first | apply Kd.R_alloc | apply Kd.R_drewN | apply Kd.R_drew)); exact HO_3.out)); (case aS => exact (below_size (by repeat (first | (with_reducible first | exact HB.out | apply below_alloc | apply pw_below_drewN | apply below_drew1) | exact HB.out)))); (case aL => have := LMc4.out; omega); intro v277 w5 ho hb hg hat; rw [← Ny276.out] at ho; have n0_ := Aside0.mk (hb); have n1_ := Aside0.mk (ho); clear HB; clear HO_3; have HB := n0_; have HO278 := n1_; clear n0_ n1_; clear ho hb hg hat))
            repeat (go_quiet (first | ((with_reducible refine gate_builtin (b := .append) (xs := #[.tmp 29, .tmp 35]) rfl ?_); at_builtin; refine Kd.R_append k25 (w0 := w) w.heap.size rfl (.tmp 29) (.tmp 35) 45 25 (.agg #[(.int .i64 0), (.int .i64 0)]) 16 rfl Try.underlying45 info25 rfl (by decide) (by omega) u3 x3_1 (⟨x4_1, wrap64 (x5_1 - x4_1)⟩ : S25) [.int .i64 x4_1, .int .i64 (wrap64 (x5_1 - x4_1))] (fun _ => True) (fun _ => False) rfl rfl ?aP (fun _ hk => hk.elim) ?aF ?aO ?aB ?aS ?aL ?_; (case aP => exact k25_mkM _ _ _ (⟨x4_1, wrap64 (x5_1 - x4_1)⟩ : S25)); (case aB => exact (by repeat (first | (with_reducible first | exact HB.out | apply below_alloc | apply pw_below_drewN | apply below_drew1) | exact HB.out))); (case aF => exact (fun _ _ => trivial)); (case aO => exact (by (with_reducible repeat (first | apply Kd.R_alloc | apply Kd.R_drewN | apply Kd.R_drew)); exact HO_3.out)); (case aS => exact (below_size (by repeat (first | (with_reducible first | exact HB.out | apply below_alloc | apply pw_below_drewN | apply below_drew1) | exact HB.out)))); (case aL => have := LMc4.out; omega); intro v277 w5 ho hb hg hat; rw [← Ny276.out] at ho; have n0_ := Aside0.mk (hb); have n1_ := Aside0.mk (ho); clear HB; clear HO_3; have HB := n0_; have HO278 := n1_; clear n0_ n1_; clear ho hb hg hat)); try go_wp2_with (first | ((with_reducible refine gate_builtin (b := .append) (xs := #[.tmp 29, .tmp 35]) rfl ?_); at_builtin; refine Kd.R_append k25 (w0 := w) w.heap.size rfl (.tmp 29) (.tmp 35) 45 25 (.agg #[(.int .i64 0), (.int .i64 0)]) 16 rfl Try.underlying45 info25 rfl (by decide) (by omega) u3 x3_1 (⟨x4_1, wrap64 (x5_1 - x4_1)⟩ : S25) [.int .i64 x4_1, .int .i64 (wrap64 (x5_1 - x4_1))] (fun _ => True) (fun _ => False) rfl rfl ?aP (fun _ hk => hk.elim) ?aF ?aO ?aB ?aS ?aL ?_; (case aP => exact k25_mkM _ _ _ (⟨x4_1, wrap64 (x5_1 - x4_1)⟩ : S25)); (case aB => exact (by repeat (first | (with_reducible first | exact HB.out | apply below_alloc | apply pw_below_drewN | apply below_drew1) | exact HB.out))); (case aF => exact (fun _ _ => trivial)); (case aO => exact (by (with_reducible repeat (first | apply Kd.R_alloc | apply Kd.R_drewN | apply Kd.R_drew)); exact HO_3.out)); (case aS => exact (below_size (by repeat (first | (with_reducible first | exact HB.out | apply below_alloc | apply pw_below_drewN | apply below_drew1) | exact HB.out)))); (case aL => have := LMc4.out; omega); intro v277 w5 ho hb hg hat; rw [← Ny276.out] at ho; have n0_ := Aside0.mk (hb); have n1_ := Aside0.mk (ho); clear HB; clear HO_3; have HB := n0_; have HO278 := n1_; clear n0_ n1_; clear ho hb hg hat)))
            go_roundg k1
            case measure => have := HK1.out; omega
            case rel => exact ⟨(y276), (x5_1), (wrap64 (x5_1 + 1)), (by first | rfl | (simp; done) | (simp [*]; done)), (by first | rfl | (simp; done) | (simp [*]; done)), H', ⟨by have := HK1.out; omega⟩, ⟨by (with_reducible repeat (first | apply Kd.R_alloc | apply Kd.R_drewN | apply Kd.R_drew)); exact HO278.out⟩, ⟨by repeat (first | (with_reducible first | exact HB.out | apply below_alloc | apply pw_below_drewN | apply below_drew1) | exact HB.out)⟩⟩
          · rw [if_neg c4] at H
            exact absurd H (by simp)
        · rw [if_neg c3] at H
          have c3b0 : (x5_1 == (l0.length : Int)) = false := beq_eq_false_iff_ne.mpr c3
          have c3b1 : (x5_1 != (l0.length : Int)) = true := bne_iff_ne.mpr c3
          by_cases c6 : 0 ≤ x5_1
          · rw [if_pos c6] at H
            have c6b0 : decide (0 ≤ x5_1) = true := decide_eq_true c6
            clear c6
            by_cases c7 : x5_1 < (l0.length : Int)
            · rw [if_pos c7] at H
              have c7b0 : decide (x5_1 < (l0.length : Int)) = true := decide_eq_true c7
              clear c7
              replace H := Option.bind_eq_some_iff.mp H
              obtain ⟨t280, A80, H⟩ := H
              replace H : (if 0 ≤ x4_1 then (if x4_1 < (l0.length : Int) then ((platenref05_Class.f (rd l0 x4_1)).bind fun t282 => (if t280 = t282 then (platenref05_Runs.l0 k1 l0 x3_1 x4_1 (wrap64 (x5_1 + 1))) else (if x3_1.length < 8796093022208 then (platenref05_Runs.l0 k1 l0 (x3_1 ++ [(⟨x4_1, wrap64 (x5_1 - x4_1)⟩ : S25)]) x5_1 (wrap64 (x5_1 + 1))) else (none)))) else (none)) else (none)) = some r := H
              have A8 := Aside0.mk A80
              clear A80
              by_cases c9 : 0 ≤ x4_1
              · rw [if_pos c9] at H
                have c9b0 : decide (0 ≤ x4_1) = true := decide_eq_true c9
                clear c9
                by_cases c10 : x4_1 < (l0.length : Int)
                · rw [if_pos c10] at H
                  have c10b0 : decide (x4_1 < (l0.length : Int)) = true := decide_eq_true c10
                  clear c10
                  replace H := Option.bind_eq_some_iff.mp H
                  obtain ⟨t282, A110, H⟩ := H
                  replace H : (if t280 = t282 then (platenref05_Runs.l0 k1 l0 x3_1 x4_1 (wrap64 (x5_1 + 1))) else (if x3_1.length < 8796093022208 then (platenref05_Runs.l0 k1 l0 (x3_1 ++ [(⟨x4_1, wrap64 (x5_1 - x4_1)⟩ : S25)]) x5_1 (wrap64 (x5_1 + 1))) else (none))) = some r := H
                  have A11 := Aside0.mk A110
                  clear A110
                  by_cases c12 : t280 = t282
                  · rw [if_pos c12] at H
                    have c12b0 : (t280 == t282) = true := beq_iff_eq.mpr c12
                    have c12b1 : (t280 != t282) = false := bne_eq_false_iff_eq.mpr c12
                    clear c12
                    have H' := Aside0.mk H
                    clear H
                    have p279 : 0 ≤ (x5_1 : Int) := of_decide_eq_true (by first | (with_reducible assumption) | assumption)
                    have q279 : x5_1 < (l0.length : Int) := of_decide_eq_true (by first | (with_reducible assumption) | assumption)
                    obtain ⟨ad279, e279, hx279_0⟩ := Kd.at_int HR0.out x5_1 p279 q279
                    cases e279
                    replace hx279_0 := (HB.out.cell (World.block_lt_of_cell? w _ hx279_0)).trans hx279_0
                    replace p279 := eq_true p279
                    replace q279 := eq_true q279
                    go_wp2_with (first | (go_at_call 16; (with_reducible refine (platenref05_Class.calls (rd l0 x5_1) t280 _ A8.out).mono ?_); rintro e w' ⟨rfl, ⟨nd, rfl⟩⟩; (try first | exact ⟨rfl, _, World.drewN_drewN _ _ _⟩ | exact ⟨rfl, _, Eq.trans (World.drewN_drewN _ _ _) (congrArg (World.drewN _) (Nat.add_assoc _ _ _))⟩); have p281 : 0 ≤ (x4_1 : Int) := of_decide_eq_true (by first | (with_reducible assumption) | assumption); have q281 : x4_1 < (l0.length : Int) := of_decide_eq_true (by first | (with_reducible assumption) | assumption); obtain ⟨ad281, e281, hx281_0⟩ := Kd.at_int HR0.out x4_1 p281 q281; obtain rfl : ad279 = ad281 := (by injection e281); replace hx281_0 := (HB.out.cell (World.block_lt_of_cell? w _ hx281_0)).trans hx281_0; replace p281 := eq_true p281; replace q281 := eq_true q281) | (go_at_call 16; (with_reducible refine (platenref05_Class.calls (rd l0 x4_1) t282 _ A11.out).mono ?_); rintro e w' ⟨rfl, ⟨nd, rfl⟩⟩; (try first | exact ⟨rfl, _, World.drewN_drewN _ _ _⟩ | exact ⟨rfl, _, Eq.trans (World.drewN_drewN _ _ _) (congrArg (World.drewN _) (Nat.add_assoc _ _ _))⟩)))
                    repeat (go_quiet (first | (go_at_call 16; (with_reducible refine (platenref05_Class.calls (rd l0 x5_1) t280 _ A8.out).mono ?_); rintro e w' ⟨rfl, ⟨nd, rfl⟩⟩; (try first | exact ⟨rfl, _, World.drewN_drewN _ _ _⟩ | exact ⟨rfl, _, Eq.trans (World.drewN_drewN _ _ _) (congrArg (World.drewN _) (Nat.add_assoc _ _ _))⟩); have p281 : 0 ≤ (x4_1 : Int) := of_decide_eq_true (by first | (with_reducible assumption) | assumption); have q281 : x4_1 < (l0.length : Int) := of_decide_eq_true (by first | (with_reducible assumption) | assumption); obtain ⟨ad281, e281, hx281_0⟩ := Kd.at_int HR0.out x4_1 p281 q281; obtain rfl : ad279 = ad281 := (by injection e281); replace hx281_0 := (HB.out.cell (World.block_lt_of_cell? w _ hx281_0)).trans hx281_0; replace p281 := eq_true p281; replace q281 := eq_true q281) | (go_at_call 16; (with_reducible refine (platenref05_Class.calls (rd l0 x4_1) t282 _ A11.out).mono ?_); rintro e w' ⟨rfl, ⟨nd, rfl⟩⟩; (try first | exact ⟨rfl, _, World.drewN_drewN _ _ _⟩ | exact ⟨rfl, _, Eq.trans (World.drewN_drewN _ _ _) (congrArg (World.drewN _) (Nat.add_assoc _ _ _))⟩))); try go_wp2_with (first | (go_at_call 16; (with_reducible refine (platenref05_Class.calls (rd l0 x5_1) t280 _ A8.out).mono ?_); rintro e w' ⟨rfl, ⟨nd, rfl⟩⟩; (try first | exact ⟨rfl, _, World.drewN_drewN _ _ _⟩ | exact ⟨rfl, _, Eq.trans (World.drewN_drewN _ _ _) (congrArg (World.drewN _) (Nat.add_assoc _ _ _))⟩); have p281 : 0 ≤ (x4_1 : Int) := of_decide_eq_true (by first | (with_reducible assumption) | assumption); have q281 : x4_1 < (l0.length : Int) := of_decide_eq_true (by first | (with_reducible assumption) | assumption); obtain ⟨ad281, e281, hx281_0⟩ := Kd.at_int HR0.out x4_1 p281 q281; obtain rfl : ad279 = ad281 := (by injection e281); replace hx281_0 := (HB.out.cell (World.block_lt_of_cell? w _ hx281_0)).trans hx281_0; replace p281 := eq_true p281; replace q281 := eq_true q281) | (go_at_call 16; (with_reducible refine (platenref05_Class.calls (rd l0 x4_1) t282 _ A11.out).mono ?_); rintro e w' ⟨rfl, ⟨nd, rfl⟩⟩; (try first | exact ⟨rfl, _, World.drewN_drewN _ _ _⟩ | exact ⟨rfl, _, Eq.trans (World.drewN_drewN _ _ _) (congrArg (World.drewN _) (Nat.add_assoc _ _ _))⟩))))
                    go_roundg k1
                    case measure => have := HK1.out; omega
                    case rel => exact ⟨(x3_1), (x4_1), (wrap64 (x5_1 + 1)), (by first | rfl | (simp; done) | (simp [*]; done)), (by first | rfl | (simp; done) | (simp [*]; done)), H', ⟨by have := HK1.out; omega⟩, ⟨by (with_reducible repeat (first | apply Kd.R_alloc | apply Kd.R_drewN | apply Kd.R_drew)); exact HO_3.out⟩, ⟨by repeat (first | (with_reducible first | exact HB.out | apply below_alloc | apply pw_below_drewN | apply below_drew1) | exact HB.out)⟩⟩
                  · rw [if_neg c12] at H
                    have c12b0 : (t280 == t282) = false := beq_eq_false_iff_ne.mpr c12
                    have c12b1 : (t280 != t282) = true := bne_iff_ne.mpr c12
                    by_cases c13 : x3_1.length < 8796093022208
                    · rw [if_pos c13] at H
                      have LMc13 := Aside0.mk c13
                      clear c13
                      obtain ⟨y283, hy283⟩ : ∃ y_ : List (S25), y_ = (x3_1 ++ [(⟨x4_1, wrap64 (x5_1 - x4_1)⟩ : S25)]) := ⟨_, rfl⟩
                      replace H : (platenref05_Runs.l0 k1 l0 y283 x5_1 (wrap64 (x5_1 + 1))) = some r := by first | (rw [hy283]; with_reducible exact H) | (have H2_ := (Option.bind_some _ _).symm.trans H; rw [hy283]; with_reducible exact H2_) | (have H2_ := (Option.bind_some _ _).symm.trans H; with_reducible exact H2_) | with_reducible exact H | (rw [hy283]; exact H) | exact H
                      have Ny283 := Aside0.mk hy283
                      clear hy283
                      have H' := Aside0.mk H
                      clear H
                      have p279 : 0 ≤ (x5_1 : Int) := of_decide_eq_true (by first | (with_reducible assumption) | assumption)
                      have q279 : x5_1 < (l0.length : Int) := of_decide_eq_true (by first | (with_reducible assumption) | assumption)
                      obtain ⟨ad279, e279, hx279_0⟩ := Kd.at_int HR0.out x5_1 p279 q279
                      cases e279
                      replace hx279_0 := (HB.out.cell (World.block_lt_of_cell? w _ hx279_0)).trans hx279_0
                      replace p279 := eq_true p279
                      replace q279 := eq_true q279
                      go_wp2_with (first | (go_at_call 16; (with_reducible refine (platenref05_Class.calls (rd l0 x5_1) t280 _ A8.out).mono ?_); rintro e w' ⟨rfl, ⟨nd, rfl⟩⟩; (try first | exact ⟨rfl, _, World.drewN_drewN _ _ _⟩ | exact ⟨rfl, _, Eq.trans (World.drewN_drewN _ _ _) (congrArg (World.drewN _) (Nat.add_assoc _ _ _))⟩); have p281 : 0 ≤ (x4_1 : Int) := of_decide_eq_true (by first | (with_reducible assumption) | assumption); have q281 : x4_1 < (l0.length : Int) := of_decide_eq_true (by first | (with_reducible assumption) | assumption); obtain ⟨ad281, e281, hx281_0⟩ := Kd.at_int HR0.out x4_1 p281 q281; obtain rfl : ad279 = ad281 := (by injection e281); replace hx281_0 := (HB.out.cell (World.block_lt_of_cell? w _ hx281_0)).trans hx281_0; replace p281 := eq_true p281; replace q281 := eq_true q281) | (go_at_call 16; (with_reducible refine (platenref05_Class.calls (rd l0 x4_1) t282 _ A11.out).mono ?_); rintro e w' ⟨rfl, ⟨nd, rfl⟩⟩; (try first | exact ⟨rfl, _, World.drewN_drewN _ _ _⟩ | exact ⟨rfl, _, Eq.trans (World.drewN_drewN _ _ _) (congrArg (World.drewN _) (Nat.add_assoc _ _ _))⟩)) | ((with_reducible refine gate_builtin (b := .append) (xs := #[.tmp 29, .tmp 35]) rfl ?_); at_builtin; refine Kd.R_append k25 (w0 := w) w.heap.size rfl (.tmp 29) (.tmp 35) 45 25 (.agg #[(.int .i64 0), (.int .i64 0)]) 16 rfl Try.underlying45 info25 rfl (by decide) (by omega) u3 x3_1 (⟨x4_1, wrap64 (x5_1 - x4_1)⟩ : S25) [.int .i64 x4_1, .int .i64 (wrap64 (x5_1 - x4_1))] (fun _ => True) (fun _ => False) rfl rfl ?aP (fun _ hk => hk.elim) ?aF ?aO ?aB ?aS ?aL ?_; (case aP => exact k25_mkM _ _ _ (⟨x4_1, wrap64 (x5_1 - x4_1)⟩ : S25)); (case aB => exact (by repeat (first | (with_reducible first | exact HB.out | apply below_alloc | apply pw_below_drewN | apply below_drew1) | exact HB.out))); (case aF => exact (fun _ _ => trivial)); (case aO => exact (by (with_reducible repeat (first | apply Kd.R_alloc | apply Kd.R_drewN | apply Kd.R_drew)); exact HO_3.out)); (case aS => exact (below_size (by repeat (first | (with_reducible first | exact HB.out | apply below_alloc | apply pw_below_drewN | apply below_drew1) | exact HB.out)))); (case aL => have := LMc13.out; omega); intro v284 w14 ho hb hg hat; rw [← Ny283.out] at ho; have n0_ := Aside0.mk (hb); have n1_ := Aside0.mk (ho); clear HB; clear HO_3; have HB := n0_; have HO285 := n1_; clear n0_ n1_; clear ho hb hg hat))
                      repeat (go_quiet (first | (go_at_call 16; (with_reducible refine (platenref05_Class.calls (rd l0 x5_1) t280 _ A8.out).mono ?_); rintro e w' ⟨rfl, ⟨nd, rfl⟩⟩; (try first | exact ⟨rfl, _, World.drewN_drewN _ _ _⟩ | exact ⟨rfl, _, Eq.trans (World.drewN_drewN _ _ _) (congrArg (World.drewN _) (Nat.add_assoc _ _ _))⟩); have p281 : 0 ≤ (x4_1 : Int) := of_decide_eq_true (by first | (with_reducible assumption) | assumption); have q281 : x4_1 < (l0.length : Int) := of_decide_eq_true (by first | (with_reducible assumption) | assumption); obtain ⟨ad281, e281, hx281_0⟩ := Kd.at_int HR0.out x4_1 p281 q281; obtain rfl : ad279 = ad281 := (by injection e281); replace hx281_0 := (HB.out.cell (World.block_lt_of_cell? w _ hx281_0)).trans hx281_0; replace p281 := eq_true p281; replace q281 := eq_true q281) | (go_at_call 16; (with_reducible refine (platenref05_Class.calls (rd l0 x4_1) t282 _ A11.out).mono ?_); rintro e w' ⟨rfl, ⟨nd, rfl⟩⟩; (try first | exact ⟨rfl, _, World.drewN_drewN _ _ _⟩ | exact ⟨rfl, _, Eq.trans (World.drewN_drewN _ _ _) (congrArg (World.drewN _) (Nat.add_assoc _ _ _))⟩)) | ((with_reducible refine gate_builtin (b := .append) (xs := #[.tmp 29, .tmp 35]) rfl ?_); at_builtin; refine Kd.R_append k25 (w0 := w) w.heap.size rfl (.tmp 29) (.tmp 35) 45 25 (.agg #[(.int .i64 0), (.int .i64 0)]) 16 rfl Try.underlying45 info25 rfl (by decide) (by omega) u3 x3_1 (⟨x4_1, wrap64 (x5_1 - x4_1)⟩ : S25) [.int .i64 x4_1, .int .i64 (wrap64 (x5_1 - x4_1))] (fun _ => True) (fun _ => False) rfl rfl ?aP (fun _ hk => hk.elim) ?aF ?aO ?aB ?aS ?aL ?_; (case aP => exact k25_mkM _ _ _ (⟨x4_1, wrap64 (x5_1 - x4_1)⟩ : S25)); (case aB => exact (by repeat (first | (with_reducible first | exact HB.out | apply below_alloc | apply pw_below_drewN | apply below_drew1) | exact HB.out))); (case aF => exact (fun _ _ => trivial)); (case aO => exact (by (with_reducible repeat (first | apply Kd.R_alloc | apply Kd.R_drewN | apply Kd.R_drew)); exact HO_3.out)); (case aS => exact (below_size (by repeat (first | (with_reducible first | exact HB.out | apply below_alloc | apply pw_below_drewN | apply below_drew1) | exact HB.out)))); (case aL => have := LMc13.out; omega); intro v284 w14 ho hb hg hat; rw [← Ny283.out] at ho; have n0_ := Aside0.mk (hb); have n1_ := Aside0.mk (ho); clear HB; clear HO_3; have HB := n0_; have HO285 := n1_; clear n0_ n1_; clear ho hb hg hat)); try go_wp2_with (first | (go_at_call 16; (with_reducible refine (platenref05_Class.calls (rd l0 x5_1) t280 _ A8.out).mono ?_); rintro e w' ⟨rfl, ⟨nd, rfl⟩⟩; (try first | exact ⟨rfl, _, World.drewN_drewN _ _ _⟩ | exact ⟨rfl, _, Eq.trans (World.drewN_drewN _ _ _) (congrArg (World.drewN _) (Nat.add_assoc _ _ _))⟩); have p281 : 0 ≤ (x4_1 : Int) := of_decide_eq_true (by first | (with_reducible assumption) | assumption); have q281 : x4_1 < (l0.length : Int) := of_decide_eq_true (by first | (with_reducible assumption) | assumption); obtain ⟨ad281, e281, hx281_0⟩ := Kd.at_int HR0.out x4_1 p281 q281; obtain rfl : ad279 = ad281 := (by injection e281); replace hx281_0 := (HB.out.cell (World.block_lt_of_cell? w _ hx281_0)).trans hx281_0; replace p281 := eq_true p281; replace q281 := eq_true q281) | (go_at_call 16; (with_reducible refine (platenref05_Class.calls (rd l0 x4_1) t282 _ A11.out).mono ?_); rintro e w' ⟨rfl, ⟨nd, rfl⟩⟩; (try first | exact ⟨rfl, _, World.drewN_drewN _ _ _⟩ | exact ⟨rfl, _, Eq.trans (World.drewN_drewN _ _ _) (congrArg (World.drewN _) (Nat.add_assoc _ _ _))⟩)) | ((with_reducible refine gate_builtin (b := .append) (xs := #[.tmp 29, .tmp 35]) rfl ?_); at_builtin; refine Kd.R_append k25 (w0 := w) w.heap.size rfl (.tmp 29) (.tmp 35) 45 25 (.agg #[(.int .i64 0), (.int .i64 0)]) 16 rfl Try.underlying45 info25 rfl (by decide) (by omega) u3 x3_1 (⟨x4_1, wrap64 (x5_1 - x4_1)⟩ : S25) [.int .i64 x4_1, .int .i64 (wrap64 (x5_1 - x4_1))] (fun _ => True) (fun _ => False) rfl rfl ?aP (fun _ hk => hk.elim) ?aF ?aO ?aB ?aS ?aL ?_; (case aP => exact k25_mkM _ _ _ (⟨x4_1, wrap64 (x5_1 - x4_1)⟩ : S25)); (case aB => exact (by repeat (first | (with_reducible first | exact HB.out | apply below_alloc | apply pw_below_drewN | apply below_drew1) | exact HB.out))); (case aF => exact (fun _ _ => trivial)); (case aO => exact (by (with_reducible repeat (first | apply Kd.R_alloc | apply Kd.R_drewN | apply Kd.R_drew)); exact HO_3.out)); (case aS => exact (below_size (by repeat (first | (with_reducible first | exact HB.out | apply below_alloc | apply pw_below_drewN | apply below_drew1) | exact HB.out)))); (case aL => have := LMc13.out; omega); intro v284 w14 ho hb hg hat; rw [← Ny283.out] at ho; have n0_ := Aside0.mk (hb); have n1_ := Aside0.mk (ho); clear HB; clear HO_3; have HB := n0_; have HO285 := n1_; clear n0_ n1_; clear ho hb hg hat)))
                      go_roundg k1
                      case measure => have := HK1.out; omega
                      case rel => exact ⟨(y283), (x5_1), (wrap64 (x5_1 + 1)), (by first | rfl | (simp; done) | (simp [*]; done)), (by first | rfl | (simp; done) | (simp [*]; done)), H', ⟨by have := HK1.out; omega⟩, ⟨by (with_reducible repeat (first | apply Kd.R_alloc | apply Kd.R_drewN | apply Kd.R_drew)); exact HO285.out⟩, ⟨by repeat (first | (with_reducible first | exact HB.out | apply below_alloc | apply pw_below_drewN | apply below_drew1) | exact HB.out)⟩⟩
                    · rw [if_neg c13] at H
                      exact absurd H (by simp)
                · rw [if_neg c10] at H
                  exact absurd H (by simp)
              · rw [if_neg c9] at H
                exact absurd H (by simp)
            · rw [if_neg c7] at H
              exact absurd H (by simp)
          · rw [if_neg c6] at H
            exact absurd H (by simp)
      · rw [if_neg c2] at H
        have c2b0 : decide (x5_1 ≤ (l0.length : Int)) = false := decide_eq_false c2
        clear c2
        obtain rfl := Option.some.inj H
        go_wp2
        repeat (go_quiet (fail); try go_wp2)
        go_ret
        exact ⟨_, by first | rfl | (simp [errW_none, errW_some] <;> rfl) | (simp [*, errW_none, errW_some] <;> rfl), by (with_reducible repeat (first | apply Kd.R_alloc | apply Kd.R_drewN | apply Kd.R_drew)); exact HO_3.out, by repeat (first | (with_reducible first | exact HB.out | apply below_alloc | apply pw_below_drewN | apply below_drew1) | exact HB.out)⟩

end Go.Proofs.Ytcljafgpjoagpaa.Pa
