-- Laid by a program of this claim's own (wip/tools/mkprint.py, ext.py): walks of the functions that the statements reach.
import Derived.Test.YtcljafgpjoagpaaPax0
import Derived.Test.YtcljafgpjoagpaaPax2
namespace Go.Proofs.Ytcljafgpjoagpaa.Pa
open Go.RowKit Go.Proofs.Ytcljafgpjoagpaa.Ext Go.Proofs.YtcljafgpjoagpaaW.PrintWords Go.Proofs.YtcljafgpjoagpaaW.PrintLast Go.Proofs.YtcljafgpjoagpaaW.PrintMore
attribute [local go_sem] max2_int min2_int max_two min_two max_three min_three max_four min_four   -- for this text's walks alone
set_option linter.unusedVariables false
set_option linter.unusedSimpArgs false

/-! ### words_Class: function 28 -/
def words_Class.f (a0 : Int) : Option (Int) := (glyph_Blank.f a0).bind fun t126 => (if t126 = true then (some 0) else (if a0 = 10 then (some 1) else (if a0 = 95 then (some 2) else (if a0 ≥ 48 then (if a0 ≤ 57 then (some 2) else (if a0 ≥ 97 then (if a0 ≤ 122 then (some 2) else (if a0 ≥ 65 then (if a0 ≤ 90 then (some 2) else (if a0 ≥ 128 then (some 2) else (some 3))) else (if a0 ≥ 128 then (some 2) else (some 3)))) else (if a0 ≥ 65 then (if a0 ≤ 90 then (some 2) else (if a0 ≥ 128 then (some 2) else (some 3))) else (if a0 ≥ 128 then (some 2) else (some 3))))) else (if a0 ≥ 97 then (if a0 ≤ 122 then (some 2) else (if a0 ≥ 65 then (if a0 ≤ 90 then (some 2) else (if a0 ≥ 128 then (some 2) else (some 3))) else (if a0 ≥ 128 then (some 2) else (some 3)))) else (if a0 ≥ 65 then (if a0 ≤ 90 then (some 2) else (if a0 ≥ 128 then (some 2) else (some 3))) else (if a0 ≥ 128 then (some 2) else (some 3))))))))
set_option maxHeartbeats 8000000 in
set_option maxRecDepth 100000 in
theorem words_Class.calls (a0 : Int) (r : Int) (w : World) (h : words_Class.f a0 = some r) :
    Calls Try.prog 28 #[.int .u8 a0] w fun e w' => e = .returned (.int .u8 r) ∧ Drawn0 w w' := by
  have H : ((glyph_Blank.f a0).bind fun t126 => (if t126 = true then (some 0) else (if a0 = 10 then (some 1) else (if a0 = 95 then (some 2) else (if a0 ≥ 48 then (if a0 ≤ 57 then (some 2) else (if a0 ≥ 97 then (if a0 ≤ 122 then (some 2) else (if a0 ≥ 65 then (if a0 ≤ 90 then (some 2) else (if a0 ≥ 128 then (some 2) else (some 3))) else (if a0 ≥ 128 then (some 2) else (some 3)))) else (if a0 ≥ 65 then (if a0 ≤ 90 then (some 2) else (if a0 ≥ 128 then (some 2) else (some 3))) else (if a0 ≥ 128 then (some 2) else (some 3))))) else (if a0 ≥ 97 then (if a0 ≤ 122 then (some 2) else (if a0 ≥ 65 then (if a0 ≤ 90 then (some 2) else (if a0 ≥ 128 then (some 2) else (some 3))) else (if a0 ≥ 128 then (some 2) else (some 3)))) else (if a0 ≥ 65 then (if a0 ≤ 90 then (some 2) else (if a0 ≥ 128 then (some 2) else (some 3))) else (if a0 ≥ 128 then (some 2) else (some 3))))))))) = some r := h
  clear h
  replace H := Option.bind_eq_some_iff.mp H
  obtain ⟨t126, A20, H⟩ := H
  replace H : (if t126 = true then (some 0) else (if a0 = 10 then (some 1) else (if a0 = 95 then (some 2) else (if a0 ≥ 48 then (if a0 ≤ 57 then (some 2) else (if a0 ≥ 97 then (if a0 ≤ 122 then (some 2) else (if a0 ≥ 65 then (if a0 ≤ 90 then (some 2) else (if a0 ≥ 128 then (some 2) else (some 3))) else (if a0 ≥ 128 then (some 2) else (some 3)))) else (if a0 ≥ 65 then (if a0 ≤ 90 then (some 2) else (if a0 ≥ 128 then (some 2) else (some 3))) else (if a0 ≥ 128 then (some 2) else (some 3))))) else (if a0 ≥ 97 then (if a0 ≤ 122 then (some 2) else (if a0 ≥ 65 then (if a0 ≤ 90 then (some 2) else (if a0 ≥ 128 then (some 2) else (some 3))) else (if a0 ≥ 128 then (some 2) else (some 3)))) else (if a0 ≥ 65 then (if a0 ≤ 90 then (some 2) else (if a0 ≥ 128 then (some 2) else (some 3))) else (if a0 ≥ 128 then (some 2) else (some 3)))))))) = some r := H
  have A2 := Aside0.mk A20
  clear A20
  by_cases c3 : t126 = true
  · subst c3
    have H1 : (some 0) = some r := by rw [if_pos rfl] at H; exact H
    clear H
    have H := H1
    clear H1
    obtain rfl := Option.some.inj H
    go_enter Try.func28, Try.ntmps28
    go_wp2_with (first | ((with_reducible refine gate_callee (f := 37) rfl ?_); refine goesL_ (some 5) rfl rfl Try.func37 (by kernel_rfl) rfl #[.int .u8 a0] rfl (by (try simp only [List.map_toArray, List.map_cons, List.map_nil]); first | done | rfl | (simp only [List.length_drop, List.length_take]; rfl)) ?_; (with_reducible refine (glyph_Blank.calls a0 true _ A2.out).mono ?_); rintro e w' ⟨rfl, ⟨nd, rfl⟩⟩; refine ⟨_, rfl, ?_⟩))
    go_ret
    exact ⟨by first | rfl | (simp; done) | (simp [*]; done), by repeat (first | exact Drawn0.refl _ | apply Drawn0.step)⟩
  · replace c3 := Bool.eq_false_iff.mpr c3
    subst c3
    have H1 : (if a0 = 10 then (some 1) else (if a0 = 95 then (some 2) else (if a0 ≥ 48 then (if a0 ≤ 57 then (some 2) else (if a0 ≥ 97 then (if a0 ≤ 122 then (some 2) else (if a0 ≥ 65 then (if a0 ≤ 90 then (some 2) else (if a0 ≥ 128 then (some 2) else (some 3))) else (if a0 ≥ 128 then (some 2) else (some 3)))) else (if a0 ≥ 65 then (if a0 ≤ 90 then (some 2) else (if a0 ≥ 128 then (some 2) else (some 3))) else (if a0 ≥ 128 then (some 2) else (some 3))))) else (if a0 ≥ 97 then (if a0 ≤ 122 then (some 2) else (if a0 ≥ 65 then (if a0 ≤ 90 then (some 2) else (if a0 ≥ 128 then (some 2) else (some 3))) else (if a0 ≥ 128 then (some 2) else (some 3)))) else (if a0 ≥ 65 then (if a0 ≤ 90 then (some 2) else (if a0 ≥ 128 then (some 2) else (some 3))) else (if a0 ≥ 128 then (some 2) else (some 3))))))) = some r := by rw [if_neg (show ¬ (false = true) by decide)] at H; exact H
    clear H
    have H := H1
    clear H1
    by_cases c4 : a0 = 10
    · rw [if_pos c4] at H
      have c4b0 : (a0 == 10) = true := beq_iff_eq.mpr c4
      have c4b1 : (a0 != 10) = false := bne_eq_false_iff_eq.mpr c4
      clear c4
      obtain rfl := Option.some.inj H
      go_enter Try.func28, Try.ntmps28
      go_wp2_with (first | ((with_reducible refine gate_callee (f := 37) rfl ?_); refine goesL_ (some 5) rfl rfl Try.func37 (by kernel_rfl) rfl #[.int .u8 a0] rfl (by (try simp only [List.map_toArray, List.map_cons, List.map_nil]); first | done | rfl | (simp only [List.length_drop, List.length_take]; rfl)) ?_; (with_reducible refine (glyph_Blank.calls a0 false _ A2.out).mono ?_); rintro e w' ⟨rfl, ⟨nd, rfl⟩⟩; refine ⟨_, rfl, ?_⟩))
      go_ret
      exact ⟨by first | rfl | (simp; done) | (simp [*]; done), by repeat (first | exact Drawn0.refl _ | apply Drawn0.step)⟩
    · rw [if_neg c4] at H
      have c4b0 : (a0 == 10) = false := beq_eq_false_iff_ne.mpr c4
      have c4b1 : (a0 != 10) = true := bne_iff_ne.mpr c4
      by_cases c5 : a0 = 95
      · rw [if_pos c5] at H
        have c5b0 : (a0 == 95) = true := beq_iff_eq.mpr c5
        have c5b1 : (a0 != 95) = false := bne_eq_false_iff_eq.mpr c5
        clear c5
        obtain rfl := Option.some.inj H
        go_enter Try.func28, Try.ntmps28
        go_wp2_with (first | ((with_reducible refine gate_callee (f := 37) rfl ?_); refine goesL_ (some 5) rfl rfl Try.func37 (by kernel_rfl) rfl #[.int .u8 a0] rfl (by (try simp only [List.map_toArray, List.map_cons, List.map_nil]); first | done | rfl | (simp only [List.length_drop, List.length_take]; rfl)) ?_; (with_reducible refine (glyph_Blank.calls a0 false _ A2.out).mono ?_); rintro e w' ⟨rfl, ⟨nd, rfl⟩⟩; refine ⟨_, rfl, ?_⟩))
        go_ret
        exact ⟨by first | rfl | (simp; done) | (simp [*]; done), by repeat (first | exact Drawn0.refl _ | apply Drawn0.step)⟩
      · rw [if_neg c5] at H
        have c5b0 : (a0 == 95) = false := beq_eq_false_iff_ne.mpr c5
        have c5b1 : (a0 != 95) = true := bne_iff_ne.mpr c5
        by_cases c6 : a0 ≥ 48
        · rw [if_pos c6] at H
          have c6b0 : decide (48 ≤ a0) = true := decide_eq_true c6
          clear c6
          by_cases c7 : a0 ≤ 57
          · rw [if_pos c7] at H
            have c7b0 : decide (a0 ≤ 57) = true := decide_eq_true c7
            clear c7
            obtain rfl := Option.some.inj H
            go_enter Try.func28, Try.ntmps28
            go_wp2_with (first | ((with_reducible refine gate_callee (f := 37) rfl ?_); refine goesL_ (some 5) rfl rfl Try.func37 (by kernel_rfl) rfl #[.int .u8 a0] rfl (by (try simp only [List.map_toArray, List.map_cons, List.map_nil]); first | done | rfl | (simp only [List.length_drop, List.length_take]; rfl)) ?_; (with_reducible refine (glyph_Blank.calls a0 false _ A2.out).mono ?_); rintro e w' ⟨rfl, ⟨nd, rfl⟩⟩; refine ⟨_, rfl, ?_⟩))
            go_ret
            exact ⟨by first | rfl | (simp; done) | (simp [*]; done), by repeat (first | exact Drawn0.refl _ | apply Drawn0.step)⟩
          · rw [if_neg c7] at H
            have c7b0 : decide (a0 ≤ 57) = false := decide_eq_false c7
            clear c7
            by_cases c8 : a0 ≥ 97
            · rw [if_pos c8] at H
              have c8b0 : decide (97 ≤ a0) = true := decide_eq_true c8
              clear c8
              by_cases c9 : a0 ≤ 122
              · rw [if_pos c9] at H
                have c9b0 : decide (a0 ≤ 122) = true := decide_eq_true c9
                clear c9
                obtain rfl := Option.some.inj H
                go_enter Try.func28, Try.ntmps28
                go_wp2_with (first | ((with_reducible refine gate_callee (f := 37) rfl ?_); refine goesL_ (some 5) rfl rfl Try.func37 (by kernel_rfl) rfl #[.int .u8 a0] rfl (by (try simp only [List.map_toArray, List.map_cons, List.map_nil]); first | done | rfl | (simp only [List.length_drop, List.length_take]; rfl)) ?_; (with_reducible refine (glyph_Blank.calls a0 false _ A2.out).mono ?_); rintro e w' ⟨rfl, ⟨nd, rfl⟩⟩; refine ⟨_, rfl, ?_⟩))
                go_ret
                exact ⟨by first | rfl | (simp; done) | (simp [*]; done), by repeat (first | exact Drawn0.refl _ | apply Drawn0.step)⟩
              · rw [if_neg c9] at H
                have c9b0 : decide (a0 ≤ 122) = false := decide_eq_false c9
                clear c9
                by_cases c10 : a0 ≥ 65
                · rw [if_pos c10] at H
                  have c10b0 : decide (65 ≤ a0) = true := decide_eq_true c10
                  clear c10
                  by_cases c11 : a0 ≤ 90
                  · rw [if_pos c11] at H
                    have c11b0 : decide (a0 ≤ 90) = true := decide_eq_true c11
                    clear c11
                    obtain rfl := Option.some.inj H
                    go_enter Try.func28, Try.ntmps28
                    go_wp2_with (first | ((with_reducible refine gate_callee (f := 37) rfl ?_); refine goesL_ (some 5) rfl rfl Try.func37 (by kernel_rfl) rfl #[.int .u8 a0] rfl (by (try simp only [List.map_toArray, List.map_cons, List.map_nil]); first | done | rfl | (simp only [List.length_drop, List.length_take]; rfl)) ?_; (with_reducible refine (glyph_Blank.calls a0 false _ A2.out).mono ?_); rintro e w' ⟨rfl, ⟨nd, rfl⟩⟩; refine ⟨_, rfl, ?_⟩))
                    go_ret
                    exact ⟨by first | rfl | (simp; done) | (simp [*]; done), by repeat (first | exact Drawn0.refl _ | apply Drawn0.step)⟩
                  · rw [if_neg c11] at H
                    have c11b0 : decide (a0 ≤ 90) = false := decide_eq_false c11
                    clear c11
                    by_cases c12 : a0 ≥ 128
                    · rw [if_pos c12] at H
                      have c12b0 : decide (128 ≤ a0) = true := decide_eq_true c12
                      clear c12
                      obtain rfl := Option.some.inj H
                      go_enter Try.func28, Try.ntmps28
                      go_wp2_with (first | ((with_reducible refine gate_callee (f := 37) rfl ?_); refine goesL_ (some 5) rfl rfl Try.func37 (by kernel_rfl) rfl #[.int .u8 a0] rfl (by (try simp only [List.map_toArray, List.map_cons, List.map_nil]); first | done | rfl | (simp only [List.length_drop, List.length_take]; rfl)) ?_; (with_reducible refine (glyph_Blank.calls a0 false _ A2.out).mono ?_); rintro e w' ⟨rfl, ⟨nd, rfl⟩⟩; refine ⟨_, rfl, ?_⟩))
                      go_ret
                      exact ⟨by first | rfl | (simp; done) | (simp [*]; done), by repeat (first | exact Drawn0.refl _ | apply Drawn0.step)⟩
                    · rw [if_neg c12] at H
                      have c12b0 : decide (128 ≤ a0) = false := decide_eq_false c12
                      clear c12
                      obtain rfl := Option.some.inj H
                      go_enter Try.func28, Try.ntmps28
                      go_wp2_with (first | ((with_reducible refine gate_callee (f := 37) rfl ?_); refine goesL_ (some 5) rfl rfl Try.func37 (by kernel_rfl) rfl #[.int .u8 a0] rfl (by (try simp only [List.map_toArray, List.map_cons, List.map_nil]); first | done | rfl | (simp only [List.length_drop, List.length_take]; rfl)) ?_; (with_reducible refine (glyph_Blank.calls a0 false _ A2.out).mono ?_); rintro e w' ⟨rfl, ⟨nd, rfl⟩⟩; refine ⟨_, rfl, ?_⟩))
                      go_ret
                      exact ⟨by first | rfl | (simp; done) | (simp [*]; done), by repeat (first | exact Drawn0.refl _ | apply Drawn0.step)⟩
                · rw [if_neg c10] at H
                  have c10b0 : decide (65 ≤ a0) = false := decide_eq_false c10
                  clear c10
                  by_cases c13 : a0 ≥ 128
                  · rw [if_pos c13] at H
                    have c13b0 : decide (128 ≤ a0) = true := decide_eq_true c13
                    clear c13
                    obtain rfl := Option.some.inj H
                    go_enter Try.func28, Try.ntmps28
                    go_wp2_with (first | ((with_reducible refine gate_callee (f := 37) rfl ?_); refine goesL_ (some 5) rfl rfl Try.func37 (by kernel_rfl) rfl #[.int .u8 a0] rfl (by (try simp only [List.map_toArray, List.map_cons, List.map_nil]); first | done | rfl | (simp only [List.length_drop, List.length_take]; rfl)) ?_; (with_reducible refine (glyph_Blank.calls a0 false _ A2.out).mono ?_); rintro e w' ⟨rfl, ⟨nd, rfl⟩⟩; refine ⟨_, rfl, ?_⟩))
                    go_ret
                    exact ⟨by first | rfl | (simp; done) | (simp [*]; done), by repeat (first | exact Drawn0.refl _ | apply Drawn0.step)⟩
                  · rw [if_neg c13] at H
                    have c13b0 : decide (128 ≤ a0) = false := decide_eq_false c13
                    clear c13
                    obtain rfl := Option.some.inj H
                    go_enter Try.func28, Try.ntmps28
                    go_wp2_with (first | ((with_reducible refine gate_callee (f := 37) rfl ?_); refine goesL_ (some 5) rfl rfl Try.func37 (by kernel_rfl) rfl #[.int .u8 a0] rfl (by (try simp only [List.map_toArray, List.map_cons, List.map_nil]); first | done | rfl | (simp only [List.length_drop, List.length_take]; rfl)) ?_; (with_reducible refine (glyph_Blank.calls a0 false _ A2.out).mono ?_); rintro e w' ⟨rfl, ⟨nd, rfl⟩⟩; refine ⟨_, rfl, ?_⟩))
                    go_ret
                    exact ⟨by first | rfl | (simp; done) | (simp [*]; done), by repeat (first | exact Drawn0.refl _ | apply Drawn0.step)⟩
            · rw [if_neg c8] at H
              have c8b0 : decide (97 ≤ a0) = false := decide_eq_false c8
              clear c8
              by_cases c14 : a0 ≥ 65
              · rw [if_pos c14] at H
                have c14b0 : decide (65 ≤ a0) = true := decide_eq_true c14
                clear c14
                by_cases c15 : a0 ≤ 90
                · rw [if_pos c15] at H
                  have c15b0 : decide (a0 ≤ 90) = true := decide_eq_true c15
                  clear c15
                  obtain rfl := Option.some.inj H
                  go_enter Try.func28, Try.ntmps28
                  go_wp2_with (first | ((with_reducible refine gate_callee (f := 37) rfl ?_); refine goesL_ (some 5) rfl rfl Try.func37 (by kernel_rfl) rfl #[.int .u8 a0] rfl (by (try simp only [List.map_toArray, List.map_cons, List.map_nil]); first | done | rfl | (simp only [List.length_drop, List.length_take]; rfl)) ?_; (with_reducible refine (glyph_Blank.calls a0 false _ A2.out).mono ?_); rintro e w' ⟨rfl, ⟨nd, rfl⟩⟩; refine ⟨_, rfl, ?_⟩))
                  go_ret
                  exact ⟨by first | rfl | (simp; done) | (simp [*]; done), by repeat (first | exact Drawn0.refl _ | apply Drawn0.step)⟩
                · rw [if_neg c15] at H
                  have c15b0 : decide (a0 ≤ 90) = false := decide_eq_false c15
                  clear c15
                  by_cases c16 : a0 ≥ 128
                  · rw [if_pos c16] at H
                    have c16b0 : decide (128 ≤ a0) = true := decide_eq_true c16
                    clear c16
                    obtain rfl := Option.some.inj H
                    go_enter Try.func28, Try.ntmps28
                    go_wp2_with (first | ((with_reducible refine gate_callee (f := 37) rfl ?_); refine goesL_ (some 5) rfl rfl Try.func37 (by kernel_rfl) rfl #[.int .u8 a0] rfl (by (try simp only [List.map_toArray, List.map_cons, List.map_nil]); first | done | rfl | (simp only [List.length_drop, List.length_take]; rfl)) ?_; (with_reducible refine (glyph_Blank.calls a0 false _ A2.out).mono ?_); rintro e w' ⟨rfl, ⟨nd, rfl⟩⟩; refine ⟨_, rfl, ?_⟩))
                    go_ret
                    exact ⟨by first | rfl | (simp; done) | (simp [*]; done), by repeat (first | exact Drawn0.refl _ | apply Drawn0.step)⟩
                  · rw [if_neg c16] at H
                    have c16b0 : decide (128 ≤ a0) = false := decide_eq_false c16
                    clear c16
                    obtain rfl := Option.some.inj H
                    go_enter Try.func28, Try.ntmps28
                    go_wp2_with (first | ((with_reducible refine gate_callee (f := 37) rfl ?_); refine goesL_ (some 5) rfl rfl Try.func37 (by kernel_rfl) rfl #[.int .u8 a0] rfl (by (try simp only [List.map_toArray, List.map_cons, List.map_nil]); first | done | rfl | (simp only [List.length_drop, List.length_take]; rfl)) ?_; (with_reducible refine (glyph_Blank.calls a0 false _ A2.out).mono ?_); rintro e w' ⟨rfl, ⟨nd, rfl⟩⟩; refine ⟨_, rfl, ?_⟩))
                    go_ret
                    exact ⟨by first | rfl | (simp; done) | (simp [*]; done), by repeat (first | exact Drawn0.refl _ | apply Drawn0.step)⟩
              · rw [if_neg c14] at H
                have c14b0 : decide (65 ≤ a0) = false := decide_eq_false c14
                clear c14
                by_cases c17 : a0 ≥ 128
                · rw [if_pos c17] at H
                  have c17b0 : decide (128 ≤ a0) = true := decide_eq_true c17
                  clear c17
                  obtain rfl := Option.some.inj H
                  go_enter Try.func28, Try.ntmps28
                  go_wp2_with (first | ((with_reducible refine gate_callee (f := 37) rfl ?_); refine goesL_ (some 5) rfl rfl Try.func37 (by kernel_rfl) rfl #[.int .u8 a0] rfl (by (try simp only [List.map_toArray, List.map_cons, List.map_nil]); first | done | rfl | (simp only [List.length_drop, List.length_take]; rfl)) ?_; (with_reducible refine (glyph_Blank.calls a0 false _ A2.out).mono ?_); rintro e w' ⟨rfl, ⟨nd, rfl⟩⟩; refine ⟨_, rfl, ?_⟩))
                  go_ret
                  exact ⟨by first | rfl | (simp; done) | (simp [*]; done), by repeat (first | exact Drawn0.refl _ | apply Drawn0.step)⟩
                · rw [if_neg c17] at H
                  have c17b0 : decide (128 ≤ a0) = false := decide_eq_false c17
                  clear c17
                  obtain rfl := Option.some.inj H
                  go_enter Try.func28, Try.ntmps28
                  go_wp2_with (first | ((with_reducible refine gate_callee (f := 37) rfl ?_); refine goesL_ (some 5) rfl rfl Try.func37 (by kernel_rfl) rfl #[.int .u8 a0] rfl (by (try simp only [List.map_toArray, List.map_cons, List.map_nil]); first | done | rfl | (simp only [List.length_drop, List.length_take]; rfl)) ?_; (with_reducible refine (glyph_Blank.calls a0 false _ A2.out).mono ?_); rintro e w' ⟨rfl, ⟨nd, rfl⟩⟩; refine ⟨_, rfl, ?_⟩))
                  go_ret
                  exact ⟨by first | rfl | (simp; done) | (simp [*]; done), by repeat (first | exact Drawn0.refl _ | apply Drawn0.step)⟩
        · rw [if_neg c6] at H
          have c6b0 : decide (48 ≤ a0) = false := decide_eq_false c6
          clear c6
          by_cases c18 : a0 ≥ 97
          · rw [if_pos c18] at H
            have c18b0 : decide (97 ≤ a0) = true := decide_eq_true c18
            clear c18
            by_cases c19 : a0 ≤ 122
            · rw [if_pos c19] at H
              have c19b0 : decide (a0 ≤ 122) = true := decide_eq_true c19
              clear c19
              obtain rfl := Option.some.inj H
              go_enter Try.func28, Try.ntmps28
              go_wp2_with (first | ((with_reducible refine gate_callee (f := 37) rfl ?_); refine goesL_ (some 5) rfl rfl Try.func37 (by kernel_rfl) rfl #[.int .u8 a0] rfl (by (try simp only [List.map_toArray, List.map_cons, List.map_nil]); first | done | rfl | (simp only [List.length_drop, List.length_take]; rfl)) ?_; (with_reducible refine (glyph_Blank.calls a0 false _ A2.out).mono ?_); rintro e w' ⟨rfl, ⟨nd, rfl⟩⟩; refine ⟨_, rfl, ?_⟩))
              go_ret
              exact ⟨by first | rfl | (simp; done) | (simp [*]; done), by repeat (first | exact Drawn0.refl _ | apply Drawn0.step)⟩
            · rw [if_neg c19] at H
              have c19b0 : decide (a0 ≤ 122) = false := decide_eq_false c19
              clear c19
              by_cases c20 : a0 ≥ 65
              · rw [if_pos c20] at H
                have c20b0 : decide (65 ≤ a0) = true := decide_eq_true c20
                clear c20
                by_cases c21 : a0 ≤ 90
                · rw [if_pos c21] at H
                  have c21b0 : decide (a0 ≤ 90) = true := decide_eq_true c21
                  clear c21
                  obtain rfl := Option.some.inj H
                  go_enter Try.func28, Try.ntmps28
                  go_wp2_with (first | ((with_reducible refine gate_callee (f := 37) rfl ?_); refine goesL_ (some 5) rfl rfl Try.func37 (by kernel_rfl) rfl #[.int .u8 a0] rfl (by (try simp only [List.map_toArray, List.map_cons, List.map_nil]); first | done | rfl | (simp only [List.length_drop, List.length_take]; rfl)) ?_; (with_reducible refine (glyph_Blank.calls a0 false _ A2.out).mono ?_); rintro e w' ⟨rfl, ⟨nd, rfl⟩⟩; refine ⟨_, rfl, ?_⟩))
                  go_ret
                  exact ⟨by first | rfl | (simp; done) | (simp [*]; done), by repeat (first | exact Drawn0.refl _ | apply Drawn0.step)⟩
                · rw [if_neg c21] at H
                  have c21b0 : decide (a0 ≤ 90) = false := decide_eq_false c21
                  clear c21
                  by_cases c22 : a0 ≥ 128
                  · rw [if_pos c22] at H
                    have c22b0 : decide (128 ≤ a0) = true := decide_eq_true c22
                    clear c22
                    obtain rfl := Option.some.inj H
                    go_enter Try.func28, Try.ntmps28
                    go_wp2_with (first | ((with_reducible refine gate_callee (f := 37) rfl ?_); refine goesL_ (some 5) rfl rfl Try.func37 (by kernel_rfl) rfl #[.int .u8 a0] rfl (by (try simp only [List.map_toArray, List.map_cons, List.map_nil]); first | done | rfl | (simp only [List.length_drop, List.length_take]; rfl)) ?_; (with_reducible refine (glyph_Blank.calls a0 false _ A2.out).mono ?_); rintro e w' ⟨rfl, ⟨nd, rfl⟩⟩; refine ⟨_, rfl, ?_⟩))
                    go_ret
                    exact ⟨by first | rfl | (simp; done) | (simp [*]; done), by repeat (first | exact Drawn0.refl _ | apply Drawn0.step)⟩
                  · rw [if_neg c22] at H
                    have c22b0 : decide (128 ≤ a0) = false := decide_eq_false c22
                    clear c22
                    obtain rfl := Option.some.inj H
                    go_enter Try.func28, Try.ntmps28
                    go_wp2_with (first | ((with_reducible refine gate_callee (f := 37) rfl ?_); refine goesL_ (some 5) rfl rfl Try.func37 (by kernel_rfl) rfl #[.int .u8 a0] rfl (by (try simp only [List.map_toArray, List.map_cons, List.map_nil]); first | done | rfl | (simp only [List.length_drop, List.length_take]; rfl)) ?_; (with_reducible refine (glyph_Blank.calls a0 false _ A2.out).mono ?_); rintro e w' ⟨rfl, ⟨nd, rfl⟩⟩; refine ⟨_, rfl, ?_⟩))
                    go_ret
                    exact ⟨by first | rfl | (simp; done) | (simp [*]; done), by repeat (first | exact Drawn0.refl _ | apply Drawn0.step)⟩
              · rw [if_neg c20] at H
                have c20b0 : decide (65 ≤ a0) = false := decide_eq_false c20
                clear c20
                by_cases c23 : a0 ≥ 128
                · rw [if_pos c23] at H
                  have c23b0 : decide (128 ≤ a0) = true := decide_eq_true c23
                  clear c23
                  obtain rfl := Option.some.inj H
                  go_enter Try.func28, Try.ntmps28
                  go_wp2_with (first | ((with_reducible refine gate_callee (f := 37) rfl ?_); refine goesL_ (some 5) rfl rfl Try.func37 (by kernel_rfl) rfl #[.int .u8 a0] rfl (by (try simp only [List.map_toArray, List.map_cons, List.map_nil]); first | done | rfl | (simp only [List.length_drop, List.length_take]; rfl)) ?_; (with_reducible refine (glyph_Blank.calls a0 false _ A2.out).mono ?_); rintro e w' ⟨rfl, ⟨nd, rfl⟩⟩; refine ⟨_, rfl, ?_⟩))
                  go_ret
                  exact ⟨by first | rfl | (simp; done) | (simp [*]; done), by repeat (first | exact Drawn0.refl _ | apply Drawn0.step)⟩
                · rw [if_neg c23] at H
                  have c23b0 : decide (128 ≤ a0) = false := decide_eq_false c23
                  clear c23
                  obtain rfl := Option.some.inj H
                  go_enter Try.func28, Try.ntmps28
                  go_wp2_with (first | ((with_reducible refine gate_callee (f := 37) rfl ?_); refine goesL_ (some 5) rfl rfl Try.func37 (by kernel_rfl) rfl #[.int .u8 a0] rfl (by (try simp only [List.map_toArray, List.map_cons, List.map_nil]); first | done | rfl | (simp only [List.length_drop, List.length_take]; rfl)) ?_; (with_reducible refine (glyph_Blank.calls a0 false _ A2.out).mono ?_); rintro e w' ⟨rfl, ⟨nd, rfl⟩⟩; refine ⟨_, rfl, ?_⟩))
                  go_ret
                  exact ⟨by first | rfl | (simp; done) | (simp [*]; done), by repeat (first | exact Drawn0.refl _ | apply Drawn0.step)⟩
          · rw [if_neg c18] at H
            have c18b0 : decide (97 ≤ a0) = false := decide_eq_false c18
            clear c18
            by_cases c24 : a0 ≥ 65
            · rw [if_pos c24] at H
              have c24b0 : decide (65 ≤ a0) = true := decide_eq_true c24
              clear c24
              by_cases c25 : a0 ≤ 90
              · rw [if_pos c25] at H
                have c25b0 : decide (a0 ≤ 90) = true := decide_eq_true c25
                clear c25
                obtain rfl := Option.some.inj H
                go_enter Try.func28, Try.ntmps28
                go_wp2_with (first | ((with_reducible refine gate_callee (f := 37) rfl ?_); refine goesL_ (some 5) rfl rfl Try.func37 (by kernel_rfl) rfl #[.int .u8 a0] rfl (by (try simp only [List.map_toArray, List.map_cons, List.map_nil]); first | done | rfl | (simp only [List.length_drop, List.length_take]; rfl)) ?_; (with_reducible refine (glyph_Blank.calls a0 false _ A2.out).mono ?_); rintro e w' ⟨rfl, ⟨nd, rfl⟩⟩; refine ⟨_, rfl, ?_⟩))
                go_ret
                exact ⟨by first | rfl | (simp; done) | (simp [*]; done), by repeat (first | exact Drawn0.refl _ | apply Drawn0.step)⟩
              · rw [if_neg c25] at H
                have c25b0 : decide (a0 ≤ 90) = false := decide_eq_false c25
                clear c25
                by_cases c26 : a0 ≥ 128
                · rw [if_pos c26] at H
                  have c26b0 : decide (128 ≤ a0) = true := decide_eq_true c26
                  clear c26
                  obtain rfl := Option.some.inj H
                  go_enter Try.func28, Try.ntmps28
                  go_wp2_with (first | ((with_reducible refine gate_callee (f := 37) rfl ?_); refine goesL_ (some 5) rfl rfl Try.func37 (by kernel_rfl) rfl #[.int .u8 a0] rfl (by (try simp only [List.map_toArray, List.map_cons, List.map_nil]); first | done | rfl | (simp only [List.length_drop, List.length_take]; rfl)) ?_; (with_reducible refine (glyph_Blank.calls a0 false _ A2.out).mono ?_); rintro e w' ⟨rfl, ⟨nd, rfl⟩⟩; refine ⟨_, rfl, ?_⟩))
                  go_ret
                  exact ⟨by first | rfl | (simp; done) | (simp [*]; done), by repeat (first | exact Drawn0.refl _ | apply Drawn0.step)⟩
                · rw [if_neg c26] at H
                  have c26b0 : decide (128 ≤ a0) = false := decide_eq_false c26
                  clear c26
                  obtain rfl := Option.some.inj H
                  go_enter Try.func28, Try.ntmps28
                  go_wp2_with (first | ((with_reducible refine gate_callee (f := 37) rfl ?_); refine goesL_ (some 5) rfl rfl Try.func37 (by kernel_rfl) rfl #[.int .u8 a0] rfl (by (try simp only [List.map_toArray, List.map_cons, List.map_nil]); first | done | rfl | (simp only [List.length_drop, List.length_take]; rfl)) ?_; (with_reducible refine (glyph_Blank.calls a0 false _ A2.out).mono ?_); rintro e w' ⟨rfl, ⟨nd, rfl⟩⟩; refine ⟨_, rfl, ?_⟩))
                  go_ret
                  exact ⟨by first | rfl | (simp; done) | (simp [*]; done), by repeat (first | exact Drawn0.refl _ | apply Drawn0.step)⟩
            · rw [if_neg c24] at H
              have c24b0 : decide (65 ≤ a0) = false := decide_eq_false c24
              clear c24
              by_cases c27 : a0 ≥ 128
              · rw [if_pos c27] at H
                have c27b0 : decide (128 ≤ a0) = true := decide_eq_true c27
                clear c27
                obtain rfl := Option.some.inj H
                go_enter Try.func28, Try.ntmps28
                go_wp2_with (first | ((with_reducible refine gate_callee (f := 37) rfl ?_); refine goesL_ (some 5) rfl rfl Try.func37 (by kernel_rfl) rfl #[.int .u8 a0] rfl (by (try simp only [List.map_toArray, List.map_cons, List.map_nil]); first | done | rfl | (simp only [List.length_drop, List.length_take]; rfl)) ?_; (with_reducible refine (glyph_Blank.calls a0 false _ A2.out).mono ?_); rintro e w' ⟨rfl, ⟨nd, rfl⟩⟩; refine ⟨_, rfl, ?_⟩))
                go_ret
                exact ⟨by first | rfl | (simp; done) | (simp [*]; done), by repeat (first | exact Drawn0.refl _ | apply Drawn0.step)⟩
              · rw [if_neg c27] at H
                have c27b0 : decide (128 ≤ a0) = false := decide_eq_false c27
                clear c27
                obtain rfl := Option.some.inj H
                go_enter Try.func28, Try.ntmps28
                go_wp2_with (first | ((with_reducible refine gate_callee (f := 37) rfl ?_); refine goesL_ (some 5) rfl rfl Try.func37 (by kernel_rfl) rfl #[.int .u8 a0] rfl (by (try simp only [List.map_toArray, List.map_cons, List.map_nil]); first | done | rfl | (simp only [List.length_drop, List.length_take]; rfl)) ?_; (with_reducible refine (glyph_Blank.calls a0 false _ A2.out).mono ?_); rintro e w' ⟨rfl, ⟨nd, rfl⟩⟩; refine ⟨_, rfl, ?_⟩))
                go_ret
                exact ⟨by first | rfl | (simp; done) | (simp [*]; done), by repeat (first | exact Drawn0.refl _ | apply Drawn0.step)⟩

/-! ### words_Runs: function 27 -/
def words_Runs.l0 : Nat → List Int → List (S25) → Int → Option ((List (S25)))
  | 0, _, _, _ => none
  | k + 1, x0, x3, x4 => if x4 < (x0.length : Int) then (if (wrap64 ((x3.length : Int) - 1)) ≥ 0 then (if 0 ≤ x4 then ((words_Class.f (rd x0 x4)).bind fun t128 => (if 0 ≤ (wrap64 (x4 - 1)) then (if (wrap64 (x4 - 1)) < (x0.length : Int) then ((words_Class.f (rd x0 (wrap64 (x4 - 1)))).bind fun t130 => (if t128 = t130 then (if 0 ≤ (wrap64 ((x3.length : Int) - 1)) then (if (wrap64 ((x3.length : Int) - 1)) < (x3.length : Int) then (words_Runs.l0 k x0 (x3.set ((wrap64 ((x3.length : Int) - 1)) : Int).toNat (⟨(rd_T25 x3 (wrap64 ((x3.length : Int) - 1))).f0, wrap64 (((rd_T25 x3 (wrap64 ((x3.length : Int) - 1))).f1) + 1)⟩ : S25)) (wrap64 (x4 + 1))) else (none)) else (none)) else (if x3.length < 8796093022208 then (words_Runs.l0 k x0 (x3 ++ [(⟨x4, 1⟩ : S25)]) (wrap64 (x4 + 1))) else (none)))) else (none)) else (none))) else (none)) else (if x3.length < 8796093022208 then (words_Runs.l0 k x0 (x3 ++ [(⟨x4, 1⟩ : S25)]) (wrap64 (x4 + 1))) else (none))) else (some x3)
def words_Runs.f (k : Nat) (l0 : List Int) : Option ((List (S25))) := words_Runs.l0 k l0 ([] : List (S25)) 0
theorem words_Runs.mono_l : ∀ k, (∀ y0 y1 y2, LeO (words_Runs.l0 k y0 y1 y2) (words_Runs.l0 (k + 1) y0 y1 y2))
  | 0 => fun _ _ _ r h => by simp [words_Runs.l0] at h
  | k + 1 => by
    have ih0 := words_Runs.mono_l k
    · intro y0 y1 y2
      unfold words_Runs.l0
      repeat' first
      | (with_reducible exact ih0 _ _ _)
      | (with_reducible exact LeO.refl _)
      | (with_reducible exact LeO.none _)
      | (with_reducible refine LeO.ite ?_ ?_)
      | (with_reducible refine LeO.bind ?_ (fun _ => ?_))
      | exact ih0 _ _ _
      | exact LeO.none _
      | refine LeO.ite ?_ ?_
      | refine LeO.bind ?_ (fun _ => ?_)
theorem words_Runs.mono : ∀ a0 k, LeO (words_Runs.f k a0) (words_Runs.f (k + 1) a0) := by
  intro a0 k
  have ih0 := words_Runs.mono_l k
  unfold words_Runs.f
  repeat' first
      | (with_reducible exact ih0 _ _ _)
      | (with_reducible exact LeO.refl _)
      | (with_reducible exact LeO.none _)
      | (with_reducible refine LeO.ite ?_ ?_)
      | (with_reducible refine LeO.bind ?_ (fun _ => ?_))
      | exact ih0 _ _ _
      | exact LeO.none _
      | refine LeO.ite ?_ ?_
      | refine LeO.bind ?_ (fun _ => ?_)
set_option maxHeartbeats 8000000 in
set_option maxRecDepth 100000 in
theorem words_Runs.calls (k : Nat) (A0 : Option Addr) (c0 : Nat) (l0 : List Int) (r : List (S25)) (w : World) (hr0 : Kd.C (Kd.int .u8) w A0 l0.length l0) (hc0 : l0.length ≤ c0) (h : words_Runs.f k l0 = some r) :
    Calls Try.prog 27 #[.slice A0 l0.length c0] w fun e w' => ∃ v0_ : Value, e = .returned (v0_) ∧ Kd.R k25 25 w' w.heap.size (fun _ => True) v0_ r ∧ Below w.heap.size w w' := by
  have hu25 := Try.underlying25
  have HR0 := Aside0.mk hr0
  have HC0 := Aside0.mk hc0
  clear hr0 hc0
  have HB := Aside0.mk (Below.refl w.heap.size w)
  have H : (words_Runs.l0 k l0 ([] : List (S25)) 0) = some r := h
  clear h
  have H' := Aside0.mk H
  clear H
  go_enter Try.func27, Try.ntmps27
  go_wp2
  repeat (go_quiet (fail); try go_wp2)
  go_loopg [3, 4] k (fun kq v3 v4 w' => ∃ (x3_1 : List (S25)) (x4_1 : Int), v4 = .int .i64 x4_1 ∧ Aside0 (words_Runs.l0 kq l0 x3_1 x4_1 = some r) ∧ Aside0 (kq ≤ k) ∧ Aside0 (Kd.R k25 25 w' w.heap.size (fun _ => True) v3 x3_1) ∧ Aside0 (Below w.heap.size w w'))
  case atStart => exact ⟨(([] : List (S25))), (0), (by first | rfl | (simp; done) | (simp [*]; done)), H', ⟨Nat.le_refl _⟩, ⟨by first | exact Kd.R_nil _ _ _ _ _ | exact Kd.N_nil _ _ _ _ _ | exact Kd.V_nil _ _ _ _ _ | exact Kd.Q_nil _ _ _ _ _ | exact Kd.S_nil _ _ _ _ _⟩, ⟨by repeat (first | (with_reducible first | exact HB.out | apply below_alloc | apply pw_below_drewN | apply below_drew1) | exact HB.out)⟩⟩
  case round =>
    clear H'
    obtain ⟨x3_1, x4_1, rfl, HA, HK1, HO_3, HB⟩ := hrel
    cases gk with
    | zero => exact absurd HA.out (by simp [words_Runs.l0])
    | succ k1 =>
      have H := HA.out
      clear HA
      simp only [words_Runs.l0] at H
      by_cases c2 : x4_1 < (l0.length : Int)
      · rw [if_pos c2] at H
        have c2b0 : decide (x4_1 < (l0.length : Int)) = true := decide_eq_true c2
        clear c2
        by_cases c3 : (wrap64 ((x3_1.length : Int) - 1)) ≥ 0
        · rw [if_pos c3] at H
          have c3b0 : decide (0 ≤ (wrap64 ((x3_1.length : Int) - 1))) = true := decide_eq_true c3
          clear c3
          by_cases c4 : 0 ≤ x4_1
          · rw [if_pos c4] at H
            have c4b0 : decide (0 ≤ x4_1) = true := decide_eq_true c4
            clear c4
            replace H := Option.bind_eq_some_iff.mp H
            obtain ⟨t128, A50, H⟩ := H
            replace H : (if 0 ≤ (wrap64 (x4_1 - 1)) then (if (wrap64 (x4_1 - 1)) < (l0.length : Int) then ((words_Class.f (rd l0 (wrap64 (x4_1 - 1)))).bind fun t130 => (if t128 = t130 then (if 0 ≤ (wrap64 ((x3_1.length : Int) - 1)) then (if (wrap64 ((x3_1.length : Int) - 1)) < (x3_1.length : Int) then (words_Runs.l0 k1 l0 (x3_1.set ((wrap64 ((x3_1.length : Int) - 1)) : Int).toNat (⟨(rd_T25 x3_1 (wrap64 ((x3_1.length : Int) - 1))).f0, wrap64 (((rd_T25 x3_1 (wrap64 ((x3_1.length : Int) - 1))).f1) + 1)⟩ : S25)) (wrap64 (x4_1 + 1))) else (none)) else (none)) else (if x3_1.length < 8796093022208 then (words_Runs.l0 k1 l0 (x3_1 ++ [(⟨x4_1, 1⟩ : S25)]) (wrap64 (x4_1 + 1))) else (none)))) else (none)) else (none)) = some r := H
            have A5 := Aside0.mk A50
            clear A50
            obtain ⟨ji6, hji6⟩ : ∃ j_ : Int, (wrap64 (x4_1 - 1)) = j_ := ⟨_, rfl⟩
            replace H : (if 0 ≤ (ji6) then (if (ji6) < (l0.length : Int) then ((words_Class.f (rd l0 (ji6))).bind fun t130 => (if t128 = t130 then (if 0 ≤ (wrap64 ((x3_1.length : Int) - 1)) then (if (wrap64 ((x3_1.length : Int) - 1)) < (x3_1.length : Int) then (words_Runs.l0 k1 l0 (x3_1.set ((wrap64 ((x3_1.length : Int) - 1)) : Int).toNat (⟨(rd_T25 x3_1 (wrap64 ((x3_1.length : Int) - 1))).f0, wrap64 (((rd_T25 x3_1 (wrap64 ((x3_1.length : Int) - 1))).f1) + 1)⟩ : S25)) (wrap64 (x4_1 + 1))) else (none)) else (none)) else (if x3_1.length < 8796093022208 then (words_Runs.l0 k1 l0 (x3_1 ++ [(⟨x4_1, 1⟩ : S25)]) (wrap64 (x4_1 + 1))) else (none)))) else (none)) else (none)) = some r := by first | (rw [hji6] at H; exact H) | (simp only [hji6] at H ⊢; exact H)
            (try rw [hji6] at A5)
            have hji6w : (IntKind.i64.wrap (x4_1 - 1)) = ji6 := (i64_w _).trans hji6
            by_cases c7 : 0 ≤ (ji6)
            · rw [if_pos c7] at H
              have c7b0 : decide (0 ≤ (ji6)) = true := decide_eq_true c7
              clear c7
              by_cases c8 : (ji6) < (l0.length : Int)
              · rw [if_pos c8] at H
                have c8b0 : decide ((ji6) < (l0.length : Int)) = true := decide_eq_true c8
                clear c8
                replace H := Option.bind_eq_some_iff.mp H
                obtain ⟨t130, A90, H⟩ := H
                replace H : (if t128 = t130 then (if 0 ≤ (wrap64 ((x3_1.length : Int) - 1)) then (if (wrap64 ((x3_1.length : Int) - 1)) < (x3_1.length : Int) then (words_Runs.l0 k1 l0 (x3_1.set ((wrap64 ((x3_1.length : Int) - 1)) : Int).toNat (⟨(rd_T25 x3_1 (wrap64 ((x3_1.length : Int) - 1))).f0, wrap64 (((rd_T25 x3_1 (wrap64 ((x3_1.length : Int) - 1))).f1) + 1)⟩ : S25)) (wrap64 (x4_1 + 1))) else (none)) else (none)) else (if x3_1.length < 8796093022208 then (words_Runs.l0 k1 l0 (x3_1 ++ [(⟨x4_1, 1⟩ : S25)]) (wrap64 (x4_1 + 1))) else (none))) = some r := H
                have A9 := Aside0.mk A90
                clear A90
                by_cases c10 : t128 = t130
                · rw [if_pos c10] at H
                  have c10b0 : (t128 == t130) = true := beq_iff_eq.mpr c10
                  have c10b1 : (t128 != t130) = false := bne_eq_false_iff_eq.mpr c10
                  clear c10
                  obtain ⟨ji11, hji11⟩ : ∃ j_ : Int, (wrap64 ((x3_1.length : Int) - 1)) = j_ := ⟨_, rfl⟩
                  replace H : (if 0 ≤ (ji11) then (if (ji11) < (x3_1.length : Int) then (words_Runs.l0 k1 l0 (x3_1.set ((ji11) : Int).toNat (⟨(rd_T25 x3_1 (ji11)).f0, wrap64 (((rd_T25 x3_1 (ji11)).f1) + 1)⟩ : S25)) (wrap64 (x4_1 + 1))) else (none)) else (none)) = some r := by first | (rw [hji11] at H; exact H) | (simp only [hji11] at H ⊢; exact H)
                  (try rw [hji11] at c3b0)
                  (try rw [hji11] at A5)
                  (try rw [hji11] at A9)
                  have hji11w : (IntKind.i64.wrap ((x3_1.length : Int) - 1)) = ji11 := (i64_w _).trans hji11
                  by_cases c12 : 0 ≤ (ji11)
                  · rw [if_pos c12] at H
                    have c12b0 : decide (0 ≤ (ji11)) = true := decide_eq_true c12
                    clear c12
                    by_cases c13 : (ji11) < (x3_1.length : Int)
                    · rw [if_pos c13] at H
                      have c13b0 : decide ((ji11) < (x3_1.length : Int)) = true := decide_eq_true c13
                      clear c13
                      obtain ⟨y132, hy132⟩ : ∃ y_ : List (S25), y_ = (x3_1.set ((ji11) : Int).toNat (⟨(rd_T25 x3_1 (ji11)).f0, wrap64 (((rd_T25 x3_1 (ji11)).f1) + 1)⟩ : S25)) := ⟨_, rfl⟩
                      replace H : (words_Runs.l0 k1 l0 y132 (wrap64 (x4_1 + 1))) = some r := by first | (rw [hy132]; with_reducible exact H) | (have H2_ := (Option.bind_some _ _).symm.trans H; rw [hy132]; with_reducible exact H2_) | (have H2_ := (Option.bind_some _ _).symm.trans H; with_reducible exact H2_) | with_reducible exact H | (rw [hy132]; exact H) | exact H
                      have Ny132 := Aside0.mk hy132
                      clear hy132
                      have H' := Aside0.mk H
                      clear H
                      obtain ⟨Ao15, co15, eo15⟩ := Kd.R_slice HO_3.out
                      subst eo15
                      have p127 : 0 ≤ (x4_1 : Int) := of_decide_eq_true (by first | (with_reducible assumption) | assumption)
                      have q127 : x4_1 < (l0.length : Int) := of_decide_eq_true (by first | (with_reducible assumption) | assumption)
                      obtain ⟨ad127, e127, hx127_0⟩ := Kd.at_int HR0.out x4_1 p127 q127
                      cases e127
                      replace hx127_0 := (HB.out.cell (World.block_lt_of_cell? w _ hx127_0)).trans hx127_0
                      replace p127 := eq_true p127
                      replace q127 := eq_true q127
                      go_wp2_with (first | (go_at_call 28; (with_reducible refine (words_Class.calls (rd l0 x4_1) t128 _ A5.out).mono ?_); rintro e w' ⟨rfl, ⟨nd, rfl⟩⟩; (try first | exact ⟨rfl, _, World.drewN_drewN _ _ _⟩ | exact ⟨rfl, _, Eq.trans (World.drewN_drewN _ _ _) (congrArg (World.drewN _) (Nat.add_assoc _ _ _))⟩); have p129 : 0 ≤ ((ji6) : Int) := of_decide_eq_true (by first | (with_reducible assumption) | assumption); have q129 : (ji6) < (l0.length : Int) := of_decide_eq_true (by first | (with_reducible assumption) | assumption); obtain ⟨ad129, e129, hx129_0⟩ := Kd.at_int HR0.out (ji6) p129 q129; obtain rfl : ad127 = ad129 := (by injection e129); replace hx129_0 := (HB.out.cell (World.block_lt_of_cell? w _ hx129_0)).trans hx129_0; replace p129 := eq_true p129; replace q129 := eq_true q129) | (go_at_call 28; (with_reducible refine (words_Class.calls (rd l0 (ji6)) t130 _ A9.out).mono ?_); rintro e w' ⟨rfl, ⟨nd, rfl⟩⟩; (try first | exact ⟨rfl, _, World.drewN_drewN _ _ _⟩ | exact ⟨rfl, _, Eq.trans (World.drewN_drewN _ _ _) (congrArg (World.drewN _) (Nat.add_assoc _ _ _))⟩); have p131 : 0 ≤ ((ji11) : Int) := of_decide_eq_true (by first | (with_reducible assumption) | assumption); have q131 : (ji11) < (x3_1.length : Int) := of_decide_eq_true (by first | (with_reducible assumption) | assumption); obtain ⟨ad131, e131, hx131_0, hx131_1⟩ := at_T25 (Kd.R_reads' HO_3.out).2.2 (ji11) p131 q131; cases e131; replace p131 := eq_true p131; replace q131 := eq_true q131; have p14 : 0 ≤ ((ji11) : Int) := of_decide_eq_true (by first | (with_reducible assumption) | assumption); have q14 : ((ji11) : Int) < ((x3_1.length : Int) : Int) := of_decide_eq_true (by first | (with_reducible assumption) | assumption); obtain ⟨go14, co14, eo14, gb14, gl14, cl14, HG14⟩ := Kd.R_form HO_3.out (by omega); (first | cases eo14 | (injection eo14 with ea_ en_ ec_; (first | subst ea_ | (injection ea_ with ea_; subst ea_)); subst ec_; clear en_)); have GB14 := Aside0.mk gb14; have GG14 := Aside0.mk HG14; clear gb14 gl14 HG14; (first | simp only [add_plain] at hx131_0 | skip); (first | simp only [add_plain] at hx131_1 | skip); obtain ⟨ce14, hcl14, hM14, hcc14, hfr14⟩ := Kd.R_elem HO_3.out z25 ((ji11) : Int) p14 q14; obtain rfl := k25_openM hM14; have hx14_0 : wr.cell? ⟨go14, ((ji11) : Int).toNat * 2, none⟩ = some (.int .i64 ((rd_T25 x3_1 (ji11)).f0)) := hcc14 0 _ rfl; have hx14_1 : wr.cell? ⟨go14, ((ji11) : Int).toNat * 2 + 1, none⟩ = some (.int .i64 ((rd_T25 x3_1 (ji11)).f1)) := hcc14 1 _ rfl; have hf14_0 : wr.frozen? ⟨go14, ((ji11) : Int).toNat * 2, none⟩ = false := hfr14 0; have hf14_1 : wr.frozen? ⟨go14, ((ji11) : Int).toNat * 2 + 1, none⟩ = false := hfr14 1; clear hcl14 hcc14 hfr14 hM14; replace p14 := eq_true p14; replace q14 := eq_true q14; have HX16 := Aside0.mk (show Kd.R k25 25 wr w.heap.size (fun _ => True) (.slice (some ⟨go14, 0, none⟩) x3_1.length co15) x3_1 from (by (with_reducible repeat (first | apply Kd.R_alloc | apply Kd.R_drewN | apply Kd.R_drew)); exact HO_3.out)); obtain ⟨ce16, hcl16, hM16, hcc16, hfr16⟩ := Kd.R_elem HX16.out z25 ((ji11) : Int) (of_decide_eq_true (by first | (with_reducible assumption) | assumption)) (by have h_ : ((ji11) : Int) < ((x3_1.length : Int) : Int) := of_decide_eq_true (by first | (with_reducible assumption) | assumption); first | exact h_ | (have e_ := (Kd.R_reads' HO_3.out).1; omega) | simpa using h_); obtain rfl := k25_openM hM16; have HP16 := Kd.R_seg HX16.out ((ji11) : Int) (of_decide_eq_true (by first | (with_reducible assumption) | assumption)) (by have h_ : ((ji11) : Int) < ((x3_1.length : Int) : Int) := of_decide_eq_true (by first | (with_reducible assumption) | assumption); first | exact h_ | (have e_ := (Kd.R_reads' HO_3.out).1; omega) | simpa using h_) (seg := [.int .i64 (wrap64 (((rd_T25 x3_1 (ji11)).f1) + 1))]) (j := 1) hcl16 hcc16 (show 2 ≤ 2 from by decide) (x' := (⟨(rd_T25 x3_1 (ji11)).f0, wrap64 (((rd_T25 x3_1 (ji11)).f1) + 1)⟩ : S25)) (k25_mkM _ _ _ (⟨(rd_T25 x3_1 (ji11)).f0, wrap64 (((rd_T25 x3_1 (ji11)).f1) + 1)⟩ : S25) ) (fun _ hk => hk); have hx16_1 := hcc16 1 _ rfl; (try simp only [show (k25).sz = 2 from rfl, Nat.mul_one, Nat.add_zero] at hx16_1); have hf16_1 := hfr16 1; (try simp only [show (k25).sz = 2 from rfl, Nat.mul_one, Nat.add_zero] at hf16_1); clear hcl16 hcc16 hfr16 hM16) | ((with_reducible refine gate_store (t := 3) (p := 38) rfl ?_); (try (rw [drewN_self wr]; generalize hq_ : World.drewN wr _ = wr; have n0_ := Aside0.mk (Kd.R_at hq_ HO_3.out); have n1_ := Aside0.mk (below_at hq_ HB.out); clear hq_ HO_3 HB; have HO_3 := n0_; have HB := n1_; clear n0_ n1_; (try (have HX16 := Aside0.mk (show Kd.R k25 25 wr w.heap.size (fun _ => True) (.slice (some ⟨go14, 0, none⟩) x3_1.length co15) x3_1 from (by (with_reducible repeat (first | apply Kd.R_alloc | apply Kd.R_drewN | apply Kd.R_drew)); exact HO_3.out)))); (try (obtain ⟨ce16, hcl16, hM16, hcc16, hfr16⟩ := Kd.R_elem HX16.out z25 ((ji11) : Int) (of_decide_eq_true (by first | (with_reducible assumption) | assumption)) (by have h_ : ((ji11) : Int) < ((x3_1.length : Int) : Int) := of_decide_eq_true (by first | (with_reducible assumption) | assumption); first | exact h_ | (have e_ := (Kd.R_reads' HO_3.out).1; omega) | simpa using h_))); (try (obtain rfl := k25_openM hM16)); (try (have HP16 := Kd.R_seg HX16.out ((ji11) : Int) (of_decide_eq_true (by first | (with_reducible assumption) | assumption)) (by have h_ : ((ji11) : Int) < ((x3_1.length : Int) : Int) := of_decide_eq_true (by first | (with_reducible assumption) | assumption); first | exact h_ | (have e_ := (Kd.R_reads' HO_3.out).1; omega) | simpa using h_) (seg := [.int .i64 (wrap64 (((rd_T25 x3_1 (ji11)).f1) + 1))]) (j := 1) hcl16 hcc16 (show 2 ≤ 2 from by decide) (x' := (⟨(rd_T25 x3_1 (ji11)).f0, wrap64 (((rd_T25 x3_1 (ji11)).f1) + 1)⟩ : S25)) (k25_mkM _ _ _ (⟨(rd_T25 x3_1 (ji11)).f0, wrap64 (((rd_T25 x3_1 (ji11)).f1) + 1)⟩ : S25) ) (fun _ hk => hk))); (try (have hx16_1 := hcc16 1 _ rfl)); (try (try simp only [show (k25).sz = 2 from rfl, Nat.mul_one, Nat.add_zero] at hx16_1)); (try (have hf16_1 := hfr16 1)); (try (try simp only [show (k25).sz = 2 from rfl, Nat.mul_one, Nat.add_zero] at hf16_1)); (try (clear hcl16 hcc16 hfr16 hM16)))); refine store_event (t := 3) (p := 38) (v := ?vo_w17) (w1 := (wr.setCell ⟨go14, ((ji11) : Int).toNat * 2 + 1, none⟩ (.int .i64 (wrap64 (((rd_T25 x3_1 (ji11)).f1) + 1))))) ?hg ?ho ?hn ?hr ?_; (case ho => rfl); (case hg => rfl); (case hn => rfl); (case hr => first | (go_simp; done) | (go_simp; rfl)); intro w17 hw; have hg : wr.grownBy w17 (some go14) := (by rw [hw]; exact HP16.2); have hp_ : Kd.R k25 25 w17 w.heap.size (fun _ => True) (.slice (some ⟨go14, 0, none⟩) x3_1.length co15) y132 := (by rw [hw, Ny132.out]; exact HP16.1); clear HP16; have n0_ := Aside0.mk (hp_); have n1_ := Aside0.mk ((by rw [hw]; exact below_set (HB.out) GB14.out : Below w.heap.size w w17)); clear HO_3; clear HB; have HO_3 := n0_; have HB := n1_; clear n0_ n1_; clear hg hw hp_))
                      repeat (go_quiet (first | (go_at_call 28; (with_reducible refine (words_Class.calls (rd l0 x4_1) t128 _ A5.out).mono ?_); rintro e w' ⟨rfl, ⟨nd, rfl⟩⟩; (try first | exact ⟨rfl, _, World.drewN_drewN _ _ _⟩ | exact ⟨rfl, _, Eq.trans (World.drewN_drewN _ _ _) (congrArg (World.drewN _) (Nat.add_assoc _ _ _))⟩); have p129 : 0 ≤ ((ji6) : Int) := of_decide_eq_true (by first | (with_reducible assumption) | assumption); have q129 : (ji6) < (l0.length : Int) := of_decide_eq_true (by first | (with_reducible assumption) | assumption); obtain ⟨ad129, e129, hx129_0⟩ := Kd.at_int HR0.out (ji6) p129 q129; obtain rfl : ad127 = ad129 := (by injection e129); replace hx129_0 := (HB.out.cell (World.block_lt_of_cell? w _ hx129_0)).trans hx129_0; replace p129 := eq_true p129; replace q129 := eq_true q129) | (go_at_call 28; (with_reducible refine (words_Class.calls (rd l0 (ji6)) t130 _ A9.out).mono ?_); rintro e w' ⟨rfl, ⟨nd, rfl⟩⟩; (try first | exact ⟨rfl, _, World.drewN_drewN _ _ _⟩ | exact ⟨rfl, _, Eq.trans (World.drewN_drewN _ _ _) (congrArg (World.drewN _) (Nat.add_assoc _ _ _))⟩); have p131 : 0 ≤ ((ji11) : Int) := of_decide_eq_true (by first | (with_reducible assumption) | assumption); have q131 : (ji11) < (x3_1.length : Int) := of_decide_eq_true (by first | (with_reducible assumption) | assumption); obtain ⟨ad131, e131, hx131_0, hx131_1⟩ := at_T25 (Kd.R_reads' HO_3.out).2.2 (ji11) p131 q131; cases e131; replace p131 := eq_true p131; replace q131 := eq_true q131; have p14 : 0 ≤ ((ji11) : Int) := of_decide_eq_true (by first | (with_reducible assumption) | assumption); have q14 : ((ji11) : Int) < ((x3_1.length : Int) : Int) := of_decide_eq_true (by first | (with_reducible assumption) | assumption); obtain ⟨go14, co14, eo14, gb14, gl14, cl14, HG14⟩ := Kd.R_form HO_3.out (by omega); (first | cases eo14 | (injection eo14 with ea_ en_ ec_; (first | subst ea_ | (injection ea_ with ea_; subst ea_)); subst ec_; clear en_)); have GB14 := Aside0.mk gb14; have GG14 := Aside0.mk HG14; clear gb14 gl14 HG14; (first | simp only [add_plain] at hx131_0 | skip); (first | simp only [add_plain] at hx131_1 | skip); obtain ⟨ce14, hcl14, hM14, hcc14, hfr14⟩ := Kd.R_elem HO_3.out z25 ((ji11) : Int) p14 q14; obtain rfl := k25_openM hM14; have hx14_0 : wr.cell? ⟨go14, ((ji11) : Int).toNat * 2, none⟩ = some (.int .i64 ((rd_T25 x3_1 (ji11)).f0)) := hcc14 0 _ rfl; have hx14_1 : wr.cell? ⟨go14, ((ji11) : Int).toNat * 2 + 1, none⟩ = some (.int .i64 ((rd_T25 x3_1 (ji11)).f1)) := hcc14 1 _ rfl; have hf14_0 : wr.frozen? ⟨go14, ((ji11) : Int).toNat * 2, none⟩ = false := hfr14 0; have hf14_1 : wr.frozen? ⟨go14, ((ji11) : Int).toNat * 2 + 1, none⟩ = false := hfr14 1; clear hcl14 hcc14 hfr14 hM14; replace p14 := eq_true p14; replace q14 := eq_true q14; have HX16 := Aside0.mk (show Kd.R k25 25 wr w.heap.size (fun _ => True) (.slice (some ⟨go14, 0, none⟩) x3_1.length co15) x3_1 from (by (with_reducible repeat (first | apply Kd.R_alloc | apply Kd.R_drewN | apply Kd.R_drew)); exact HO_3.out)); obtain ⟨ce16, hcl16, hM16, hcc16, hfr16⟩ := Kd.R_elem HX16.out z25 ((ji11) : Int) (of_decide_eq_true (by first | (with_reducible assumption) | assumption)) (by have h_ : ((ji11) : Int) < ((x3_1.length : Int) : Int) := of_decide_eq_true (by first | (with_reducible assumption) | assumption); first | exact h_ | (have e_ := (Kd.R_reads' HO_3.out).1; omega) | simpa using h_); obtain rfl := k25_openM hM16; have HP16 := Kd.R_seg HX16.out ((ji11) : Int) (of_decide_eq_true (by first | (with_reducible assumption) | assumption)) (by have h_ : ((ji11) : Int) < ((x3_1.length : Int) : Int) := of_decide_eq_true (by first | (with_reducible assumption) | assumption); first | exact h_ | (have e_ := (Kd.R_reads' HO_3.out).1; omega) | simpa using h_) (seg := [.int .i64 (wrap64 (((rd_T25 x3_1 (ji11)).f1) + 1))]) (j := 1) hcl16 hcc16 (show 2 ≤ 2 from by decide) (x' := (⟨(rd_T25 x3_1 (ji11)).f0, wrap64 (((rd_T25 x3_1 (ji11)).f1) + 1)⟩ : S25)) (k25_mkM _ _ _ (⟨(rd_T25 x3_1 (ji11)).f0, wrap64 (((rd_T25 x3_1 (ji11)).f1) + 1)⟩ : S25) ) (fun _ hk => hk); have hx16_1 := hcc16 1 _ rfl; (try simp only [show (k25).sz = 2 from rfl, Nat.mul_one, Nat.add_zero] at hx16_1); have hf16_1 := hfr16 1; (try simp only [show (k25).sz = 2 from rfl, Nat.mul_one, Nat.add_zero] at hf16_1); clear hcl16 hcc16 hfr16 hM16) | ((with_reducible refine gate_store (t := 3) (p := 38) rfl ?_); (try (rw [drewN_self wr]; generalize hq_ : World.drewN wr _ = wr; have n0_ := Aside0.mk (Kd.R_at hq_ HO_3.out); have n1_ := Aside0.mk (below_at hq_ HB.out); clear hq_ HO_3 HB; have HO_3 := n0_; have HB := n1_; clear n0_ n1_; (try (have HX16 := Aside0.mk (show Kd.R k25 25 wr w.heap.size (fun _ => True) (.slice (some ⟨go14, 0, none⟩) x3_1.length co15) x3_1 from (by (with_reducible repeat (first | apply Kd.R_alloc | apply Kd.R_drewN | apply Kd.R_drew)); exact HO_3.out)))); (try (obtain ⟨ce16, hcl16, hM16, hcc16, hfr16⟩ := Kd.R_elem HX16.out z25 ((ji11) : Int) (of_decide_eq_true (by first | (with_reducible assumption) | assumption)) (by have h_ : ((ji11) : Int) < ((x3_1.length : Int) : Int) := of_decide_eq_true (by first | (with_reducible assumption) | assumption); first | exact h_ | (have e_ := (Kd.R_reads' HO_3.out).1; omega) | simpa using h_))); (try (obtain rfl := k25_openM hM16)); (try (have HP16 := Kd.R_seg HX16.out ((ji11) : Int) (of_decide_eq_true (by first | (with_reducible assumption) | assumption)) (by have h_ : ((ji11) : Int) < ((x3_1.length : Int) : Int) := of_decide_eq_true (by first | (with_reducible assumption) | assumption); first | exact h_ | (have e_ := (Kd.R_reads' HO_3.out).1; omega) | simpa using h_) (seg := [.int .i64 (wrap64 (((rd_T25 x3_1 (ji11)).f1) + 1))]) (j := 1) hcl16 hcc16 (show 2 ≤ 2 from by decide) (x' := (⟨(rd_T25 x3_1 (ji11)).f0, wrap64 (((rd_T25 x3_1 (ji11)).f1) + 1)⟩ : S25)) (k25_mkM _ _ _ (⟨(rd_T25 x3_1 (ji11)).f0, wrap64 (((rd_T25 x3_1 (ji11)).f1) + 1)⟩ : S25) ) (fun _ hk => hk))); (try (have hx16_1 := hcc16 1 _ rfl)); (try (try simp only [show (k25).sz = 2 from rfl, Nat.mul_one, Nat.add_zero] at hx16_1)); (try (have hf16_1 := hfr16 1)); (try (try simp only [show (k25).sz = 2 from rfl, Nat.mul_one, Nat.add_zero] at hf16_1)); (try (clear hcl16 hcc16 hfr16 hM16)))); refine store_event (t := 3) (p := 38) (v := ?vo_w17) (w1 := (wr.setCell ⟨go14, ((ji11) : Int).toNat * 2 + 1, none⟩ (.int .i64 (wrap64 (((rd_T25 x3_1 (ji11)).f1) + 1))))) ?hg ?ho ?hn ?hr ?_; (case ho => rfl); (case hg => rfl); (case hn => rfl); (case hr => first | (go_simp; done) | (go_simp; rfl)); intro w17 hw; have hg : wr.grownBy w17 (some go14) := (by rw [hw]; exact HP16.2); have hp_ : Kd.R k25 25 w17 w.heap.size (fun _ => True) (.slice (some ⟨go14, 0, none⟩) x3_1.length co15) y132 := (by rw [hw, Ny132.out]; exact HP16.1); clear HP16; have n0_ := Aside0.mk (hp_); have n1_ := Aside0.mk ((by rw [hw]; exact below_set (HB.out) GB14.out : Below w.heap.size w w17)); clear HO_3; clear HB; have HO_3 := n0_; have HB := n1_; clear n0_ n1_; clear hg hw hp_)); try go_wp2_with (first | (go_at_call 28; (with_reducible refine (words_Class.calls (rd l0 x4_1) t128 _ A5.out).mono ?_); rintro e w' ⟨rfl, ⟨nd, rfl⟩⟩; (try first | exact ⟨rfl, _, World.drewN_drewN _ _ _⟩ | exact ⟨rfl, _, Eq.trans (World.drewN_drewN _ _ _) (congrArg (World.drewN _) (Nat.add_assoc _ _ _))⟩); have p129 : 0 ≤ ((ji6) : Int) := of_decide_eq_true (by first | (with_reducible assumption) | assumption); have q129 : (ji6) < (l0.length : Int) := of_decide_eq_true (by first | (with_reducible assumption) | assumption); obtain ⟨ad129, e129, hx129_0⟩ := Kd.at_int HR0.out (ji6) p129 q129; obtain rfl : ad127 = ad129 := (by injection e129); replace hx129_0 := (HB.out.cell (World.block_lt_of_cell? w _ hx129_0)).trans hx129_0; replace p129 := eq_true p129; replace q129 := eq_true q129) | (go_at_call 28; (with_reducible refine (words_Class.calls (rd l0 (ji6)) t130 _ A9.out).mono ?_); rintro e w' ⟨rfl, ⟨nd, rfl⟩⟩; (try first | exact ⟨rfl, _, World.drewN_drewN _ _ _⟩ | exact ⟨rfl, _, Eq.trans (World.drewN_drewN _ _ _) (congrArg (World.drewN _) (Nat.add_assoc _ _ _))⟩); have p131 : 0 ≤ ((ji11) : Int) := of_decide_eq_true (by first | (with_reducible assumption) | assumption); have q131 : (ji11) < (x3_1.length : Int) := of_decide_eq_true (by first | (with_reducible assumption) | assumption); obtain ⟨ad131, e131, hx131_0, hx131_1⟩ := at_T25 (Kd.R_reads' HO_3.out).2.2 (ji11) p131 q131; cases e131; replace p131 := eq_true p131; replace q131 := eq_true q131; have p14 : 0 ≤ ((ji11) : Int) := of_decide_eq_true (by first | (with_reducible assumption) | assumption); have q14 : ((ji11) : Int) < ((x3_1.length : Int) : Int) := of_decide_eq_true (by first | (with_reducible assumption) | assumption); obtain ⟨go14, co14, eo14, gb14, gl14, cl14, HG14⟩ := Kd.R_form HO_3.out (by omega); (first | cases eo14 | (injection eo14 with ea_ en_ ec_; (first | subst ea_ | (injection ea_ with ea_; subst ea_)); subst ec_; clear en_)); have GB14 := Aside0.mk gb14; have GG14 := Aside0.mk HG14; clear gb14 gl14 HG14; (first | simp only [add_plain] at hx131_0 | skip); (first | simp only [add_plain] at hx131_1 | skip); obtain ⟨ce14, hcl14, hM14, hcc14, hfr14⟩ := Kd.R_elem HO_3.out z25 ((ji11) : Int) p14 q14; obtain rfl := k25_openM hM14; have hx14_0 : wr.cell? ⟨go14, ((ji11) : Int).toNat * 2, none⟩ = some (.int .i64 ((rd_T25 x3_1 (ji11)).f0)) := hcc14 0 _ rfl; have hx14_1 : wr.cell? ⟨go14, ((ji11) : Int).toNat * 2 + 1, none⟩ = some (.int .i64 ((rd_T25 x3_1 (ji11)).f1)) := hcc14 1 _ rfl; have hf14_0 : wr.frozen? ⟨go14, ((ji11) : Int).toNat * 2, none⟩ = false := hfr14 0; have hf14_1 : wr.frozen? ⟨go14, ((ji11) : Int).toNat * 2 + 1, none⟩ = false := hfr14 1; clear hcl14 hcc14 hfr14 hM14; replace p14 := eq_true p14; replace q14 := eq_true q14; have HX16 := Aside0.mk (show Kd.R k25 25 wr w.heap.size (fun _ => True) (.slice (some ⟨go14, 0, none⟩) x3_1.length co15) x3_1 from (by (with_reducible repeat (first | apply Kd.R_alloc | apply Kd.R_drewN | apply Kd.R_drew)); exact HO_3.out)); obtain ⟨ce16, hcl16, hM16, hcc16, hfr16⟩ := Kd.R_elem HX16.out z25 ((ji11) : Int) (of_decide_eq_true (by first | (with_reducible assumption) | assumption)) (by have h_ : ((ji11) : Int) < ((x3_1.length : Int) : Int) := of_decide_eq_true (by first | (with_reducible assumption) | assumption); first | exact h_ | (have e_ := (Kd.R_reads' HO_3.out).1; omega) | simpa using h_); obtain rfl := k25_openM hM16; have HP16 := Kd.R_seg HX16.out ((ji11) : Int) (of_decide_eq_true (by first | (with_reducible assumption) | assumption)) (by have h_ : ((ji11) : Int) < ((x3_1.length : Int) : Int) := of_decide_eq_true (by first | (with_reducible assumption) | assumption); first | exact h_ | (have e_ := (Kd.R_reads' HO_3.out).1; omega) | simpa using h_) (seg := [.int .i64 (wrap64 (((rd_T25 x3_1 (ji11)).f1) + 1))]) (j := 1) hcl16 hcc16 (show 2 ≤ 2 from by decide) (x' := (⟨(rd_T25 x3_1 (ji11)).f0, wrap64 (((rd_T25 x3_1 (ji11)).f1) + 1)⟩ : S25)) (k25_mkM _ _ _ (⟨(rd_T25 x3_1 (ji11)).f0, wrap64 (((rd_T25 x3_1 (ji11)).f1) + 1)⟩ : S25) ) (fun _ hk => hk); have hx16_1 := hcc16 1 _ rfl; (try simp only [show (k25).sz = 2 from rfl, Nat.mul_one, Nat.add_zero] at hx16_1); have hf16_1 := hfr16 1; (try simp only [show (k25).sz = 2 from rfl, Nat.mul_one, Nat.add_zero] at hf16_1); clear hcl16 hcc16 hfr16 hM16) | ((with_reducible refine gate_store (t := 3) (p := 38) rfl ?_); (try (rw [drewN_self wr]; generalize hq_ : World.drewN wr _ = wr; have n0_ := Aside0.mk (Kd.R_at hq_ HO_3.out); have n1_ := Aside0.mk (below_at hq_ HB.out); clear hq_ HO_3 HB; have HO_3 := n0_; have HB := n1_; clear n0_ n1_; (try (have HX16 := Aside0.mk (show Kd.R k25 25 wr w.heap.size (fun _ => True) (.slice (some ⟨go14, 0, none⟩) x3_1.length co15) x3_1 from (by (with_reducible repeat (first | apply Kd.R_alloc | apply Kd.R_drewN | apply Kd.R_drew)); exact HO_3.out)))); (try (obtain ⟨ce16, hcl16, hM16, hcc16, hfr16⟩ := Kd.R_elem HX16.out z25 ((ji11) : Int) (of_decide_eq_true (by first | (with_reducible assumption) | assumption)) (by have h_ : ((ji11) : Int) < ((x3_1.length : Int) : Int) := of_decide_eq_true (by first | (with_reducible assumption) | assumption); first | exact h_ | (have e_ := (Kd.R_reads' HO_3.out).1; omega) | simpa using h_))); (try (obtain rfl := k25_openM hM16)); (try (have HP16 := Kd.R_seg HX16.out ((ji11) : Int) (of_decide_eq_true (by first | (with_reducible assumption) | assumption)) (by have h_ : ((ji11) : Int) < ((x3_1.length : Int) : Int) := of_decide_eq_true (by first | (with_reducible assumption) | assumption); first | exact h_ | (have e_ := (Kd.R_reads' HO_3.out).1; omega) | simpa using h_) (seg := [.int .i64 (wrap64 (((rd_T25 x3_1 (ji11)).f1) + 1))]) (j := 1) hcl16 hcc16 (show 2 ≤ 2 from by decide) (x' := (⟨(rd_T25 x3_1 (ji11)).f0, wrap64 (((rd_T25 x3_1 (ji11)).f1) + 1)⟩ : S25)) (k25_mkM _ _ _ (⟨(rd_T25 x3_1 (ji11)).f0, wrap64 (((rd_T25 x3_1 (ji11)).f1) + 1)⟩ : S25) ) (fun _ hk => hk))); (try (have hx16_1 := hcc16 1 _ rfl)); (try (try simp only [show (k25).sz = 2 from rfl, Nat.mul_one, Nat.add_zero] at hx16_1)); (try (have hf16_1 := hfr16 1)); (try (try simp only [show (k25).sz = 2 from rfl, Nat.mul_one, Nat.add_zero] at hf16_1)); (try (clear hcl16 hcc16 hfr16 hM16)))); refine store_event (t := 3) (p := 38) (v := ?vo_w17) (w1 := (wr.setCell ⟨go14, ((ji11) : Int).toNat * 2 + 1, none⟩ (.int .i64 (wrap64 (((rd_T25 x3_1 (ji11)).f1) + 1))))) ?hg ?ho ?hn ?hr ?_; (case ho => rfl); (case hg => rfl); (case hn => rfl); (case hr => first | (go_simp; done) | (go_simp; rfl)); intro w17 hw; have hg : wr.grownBy w17 (some go14) := (by rw [hw]; exact HP16.2); have hp_ : Kd.R k25 25 w17 w.heap.size (fun _ => True) (.slice (some ⟨go14, 0, none⟩) x3_1.length co15) y132 := (by rw [hw, Ny132.out]; exact HP16.1); clear HP16; have n0_ := Aside0.mk (hp_); have n1_ := Aside0.mk ((by rw [hw]; exact below_set (HB.out) GB14.out : Below w.heap.size w w17)); clear HO_3; clear HB; have HO_3 := n0_; have HB := n1_; clear n0_ n1_; clear hg hw hp_)))
                      go_roundg k1
                      case measure => have := HK1.out; omega
                      case rel => exact ⟨(y132), (wrap64 (x4_1 + 1)), (by first | rfl | (simp; done) | (simp [*]; done)), H', ⟨by have := HK1.out; omega⟩, ⟨by (with_reducible repeat (first | apply Kd.R_alloc | apply Kd.R_drewN | apply Kd.R_drew)); exact HO_3.out⟩, ⟨by repeat (first | (with_reducible first | exact HB.out | apply below_alloc | apply pw_below_drewN | apply below_drew1) | exact HB.out)⟩⟩
                    · rw [if_neg c13] at H
                      exact absurd H (by simp)
                  · rw [if_neg c12] at H
                    exact absurd H (by simp)
                · rw [if_neg c10] at H
                  have c10b0 : (t128 == t130) = false := beq_eq_false_iff_ne.mpr c10
                  have c10b1 : (t128 != t130) = true := bne_iff_ne.mpr c10
                  by_cases c18 : x3_1.length < 8796093022208
                  · rw [if_pos c18] at H
                    have LMc18 := Aside0.mk c18
                    clear c18
                    obtain ⟨y133, hy133⟩ : ∃ y_ : List (S25), y_ = (x3_1 ++ [(⟨x4_1, 1⟩ : S25)]) := ⟨_, rfl⟩
                    replace H : (words_Runs.l0 k1 l0 y133 (wrap64 (x4_1 + 1))) = some r := by first | (rw [hy133]; with_reducible exact H) | (have H2_ := (Option.bind_some _ _).symm.trans H; rw [hy133]; with_reducible exact H2_) | (have H2_ := (Option.bind_some _ _).symm.trans H; with_reducible exact H2_) | with_reducible exact H | (rw [hy133]; exact H) | exact H
                    have Ny133 := Aside0.mk hy133
                    clear hy133
                    have H' := Aside0.mk H
                    clear H
                    obtain ⟨Ao19, co19, eo19⟩ := Kd.R_slice HO_3.out
                    subst eo19
                    have p127 : 0 ≤ (x4_1 : Int) := of_decide_eq_true (by first | (with_reducible assumption) | assumption)
                    have q127 : x4_1 < (l0.length : Int) := of_decide_eq_true (by first | (with_reducible assumption) | assumption)
                    obtain ⟨ad127, e127, hx127_0⟩ := Kd.at_int HR0.out x4_1 p127 q127
                    cases e127
                    replace hx127_0 := (HB.out.cell (World.block_lt_of_cell? w _ hx127_0)).trans hx127_0
                    replace p127 := eq_true p127
                    replace q127 := eq_true q127
                    go_wp2_with (first | (go_at_call 28; (with_reducible refine (words_Class.calls (rd l0 x4_1) t128 _ A5.out).mono ?_); rintro e w' ⟨rfl, ⟨nd, rfl⟩⟩; (try first | exact ⟨rfl, _, World.drewN_drewN _ _ _⟩ | exact ⟨rfl, _, Eq.trans (World.drewN_drewN _ _ _) (congrArg (World.drewN _) (Nat.add_assoc _ _ _))⟩); have p129 : 0 ≤ ((ji6) : Int) := of_decide_eq_true (by first | (with_reducible assumption) | assumption); have q129 : (ji6) < (l0.length : Int) := of_decide_eq_true (by first | (with_reducible assumption) | assumption); obtain ⟨ad129, e129, hx129_0⟩ := Kd.at_int HR0.out (ji6) p129 q129; obtain rfl : ad127 = ad129 := (by injection e129); replace hx129_0 := (HB.out.cell (World.block_lt_of_cell? w _ hx129_0)).trans hx129_0; replace p129 := eq_true p129; replace q129 := eq_true q129) | (go_at_call 28; (with_reducible refine (words_Class.calls (rd l0 (ji6)) t130 _ A9.out).mono ?_); rintro e w' ⟨rfl, ⟨nd, rfl⟩⟩; (try first | exact ⟨rfl, _, World.drewN_drewN _ _ _⟩ | exact ⟨rfl, _, Eq.trans (World.drewN_drewN _ _ _) (congrArg (World.drewN _) (Nat.add_assoc _ _ _))⟩)) | ((with_reducible refine gate_builtin (b := .append) (xs := #[.tmp 39, .tmp 42]) rfl ?_); at_builtin; refine Kd.R_append k25 (w0 := w) w.heap.size rfl (.tmp 39) (.tmp 42) 45 25 (.agg #[(.int .i64 0), (.int .i64 0)]) 16 rfl Try.underlying45 info25 rfl (by decide) (by omega) (.slice Ao19 x3_1.length co19) x3_1 (⟨x4_1, 1⟩ : S25) [.int .i64 x4_1, .int .i64 1] (fun _ => True) (fun _ => False) rfl rfl ?aP (fun _ hk => hk.elim) ?aF ?aO ?aB ?aS ?aL ?_; (case aP => exact k25_mkM _ _ _ (⟨x4_1, 1⟩ : S25)); (case aB => exact (by repeat (first | (with_reducible first | exact HB.out | apply below_alloc | apply pw_below_drewN | apply below_drew1) | exact HB.out))); (case aF => exact (fun _ _ => trivial)); (case aO => exact (by (with_reducible repeat (first | apply Kd.R_alloc | apply Kd.R_drewN | apply Kd.R_drew)); exact HO_3.out)); (case aS => exact (below_size (by repeat (first | (with_reducible first | exact HB.out | apply below_alloc | apply pw_below_drewN | apply below_drew1) | exact HB.out)))); (case aL => have := LMc18.out; omega); intro v134 w20 ho hb hg hat; rw [← Ny133.out] at ho; have n0_ := Aside0.mk (hb); have n1_ := Aside0.mk (ho); clear HB; clear HO_3; have HB := n0_; have HO135 := n1_; clear n0_ n1_; clear ho hb hg hat))
                    repeat (go_quiet (first | (go_at_call 28; (with_reducible refine (words_Class.calls (rd l0 x4_1) t128 _ A5.out).mono ?_); rintro e w' ⟨rfl, ⟨nd, rfl⟩⟩; (try first | exact ⟨rfl, _, World.drewN_drewN _ _ _⟩ | exact ⟨rfl, _, Eq.trans (World.drewN_drewN _ _ _) (congrArg (World.drewN _) (Nat.add_assoc _ _ _))⟩); have p129 : 0 ≤ ((ji6) : Int) := of_decide_eq_true (by first | (with_reducible assumption) | assumption); have q129 : (ji6) < (l0.length : Int) := of_decide_eq_true (by first | (with_reducible assumption) | assumption); obtain ⟨ad129, e129, hx129_0⟩ := Kd.at_int HR0.out (ji6) p129 q129; obtain rfl : ad127 = ad129 := (by injection e129); replace hx129_0 := (HB.out.cell (World.block_lt_of_cell? w _ hx129_0)).trans hx129_0; replace p129 := eq_true p129; replace q129 := eq_true q129) | (go_at_call 28; (with_reducible refine (words_Class.calls (rd l0 (ji6)) t130 _ A9.out).mono ?_); rintro e w' ⟨rfl, ⟨nd, rfl⟩⟩; (try first | exact ⟨rfl, _, World.drewN_drewN _ _ _⟩ | exact ⟨rfl, _, Eq.trans (World.drewN_drewN _ _ _) (congrArg (World.drewN _) (Nat.add_assoc _ _ _))⟩)) | ((with_reducible refine gate_builtin (b := .append) (xs := #[.tmp 39, .tmp 42]) rfl ?_); at_builtin; refine Kd.R_append k25 (w0 := w) w.heap.size rfl (.tmp 39) (.tmp 42) 45 25 (.agg #[(.int .i64 0), (.int .i64 0)]) 16 rfl Try.underlying45 info25 rfl (by decide) (by omega) (.slice Ao19 x3_1.length co19) x3_1 (⟨x4_1, 1⟩ : S25) [.int .i64 x4_1, .int .i64 1] (fun _ => True) (fun _ => False) rfl rfl ?aP (fun _ hk => hk.elim) ?aF ?aO ?aB ?aS ?aL ?_; (case aP => exact k25_mkM _ _ _ (⟨x4_1, 1⟩ : S25)); (case aB => exact (by repeat (first | (with_reducible first | exact HB.out | apply below_alloc | apply pw_below_drewN | apply below_drew1) | exact HB.out))); (case aF => exact (fun _ _ => trivial)); (case aO => exact (by (with_reducible repeat (first | apply Kd.R_alloc | apply Kd.R_drewN | apply Kd.R_drew)); exact HO_3.out)); (case aS => exact (below_size (by repeat (first | (with_reducible first | exact HB.out | apply below_alloc | apply pw_below_drewN | apply below_drew1) | exact HB.out)))); (case aL => have := LMc18.out; omega); intro v134 w20 ho hb hg hat; rw [← Ny133.out] at ho; have n0_ := Aside0.mk (hb); have n1_ := Aside0.mk (ho); clear HB; clear HO_3; have HB := n0_; have HO135 := n1_; clear n0_ n1_; clear ho hb hg hat)); try go_wp2_with (first | (go_at_call 28; (with_reducible refine (words_Class.calls (rd l0 x4_1) t128 _ A5.out).mono ?_); rintro e w' ⟨rfl, ⟨nd, rfl⟩⟩; (try first | exact ⟨rfl, _, World.drewN_drewN _ _ _⟩ | exact ⟨rfl, _, Eq.trans (World.drewN_drewN _ _ _) (congrArg (World.drewN _) (Nat.add_assoc _ _ _))⟩); have p129 : 0 ≤ ((ji6) : Int) := of_decide_eq_true (by first | (with_reducible assumption) | assumption); have q129 : (ji6) < (l0.length : Int) := of_decide_eq_true (by first | (with_reducible assumption) | assumption); obtain ⟨ad129, e129, hx129_0⟩ := Kd.at_int HR0.out (ji6) p129 q129; obtain rfl : ad127 = ad129 := (by injection e129); replace hx129_0 := (HB.out.cell (World.block_lt_of_cell? w _ hx129_0)).trans hx129_0; replace p129 := eq_true p129; replace q129 := eq_true q129) | (go_at_call 28; (with_reducible refine (words_Class.calls (rd l0 (ji6)) t130 _ A9.out).mono ?_); rintro e w' ⟨rfl, ⟨nd, rfl⟩⟩; (try first | exact ⟨rfl, _, World.drewN_drewN _ _ _⟩ | exact ⟨rfl, _, Eq.trans (World.drewN_drewN _ _ _) (congrArg (World.drewN _) (Nat.add_assoc _ _ _))⟩)) | ((with_reducible refine gate_builtin (b := .append) (xs := #[.tmp 39, .tmp 42]) rfl ?_); at_builtin; refine Kd.R_append k25 (w0 := w) w.heap.size rfl (.tmp 39) (.tmp 42) 45 25 (.agg #[(.int .i64 0), (.int .i64 0)]) 16 rfl Try.underlying45 info25 rfl (by decide) (by omega) (.slice Ao19 x3_1.length co19) x3_1 (⟨x4_1, 1⟩ : S25) [.int .i64 x4_1, .int .i64 1] (fun _ => True) (fun _ => False) rfl rfl ?aP (fun _ hk => hk.elim) ?aF ?aO ?aB ?aS ?aL ?_; (case aP => exact k25_mkM _ _ _ (⟨x4_1, 1⟩ : S25)); (case aB => exact (by repeat (first | (with_reducible first | exact HB.out | apply below_alloc | apply pw_below_drewN | apply below_drew1) | exact HB.out))); (case aF => exact (fun _ _ => trivial)); (case aO => exact (by (with_reducible repeat (first | apply Kd.R_alloc | apply Kd.R_drewN | apply Kd.R_drew)); exact HO_3.out)); (case aS => exact (below_size (by repeat (first | (with_reducible first | exact HB.out | apply below_alloc | apply pw_below_drewN | apply below_drew1) | exact HB.out)))); (case aL => have := LMc18.out; omega); intro v134 w20 ho hb hg hat; rw [← Ny133.out] at ho; have n0_ := Aside0.mk (hb); have n1_ := Aside0.mk (ho); clear HB; clear HO_3; have HB := n0_; have HO135 := n1_; clear n0_ n1_; clear ho hb hg hat)))
                    go_roundg k1
                    case measure => have := HK1.out; omega
                    case rel => exact ⟨(y133), (wrap64 (x4_1 + 1)), (by first | rfl | (simp; done) | (simp [*]; done)), H', ⟨by have := HK1.out; omega⟩, ⟨by (with_reducible repeat (first | apply Kd.R_alloc | apply Kd.R_drewN | apply Kd.R_drew)); exact HO135.out⟩, ⟨by repeat (first | (with_reducible first | exact HB.out | apply below_alloc | apply pw_below_drewN | apply below_drew1) | exact HB.out)⟩⟩
                  · rw [if_neg c18] at H
                    exact absurd H (by simp)
              · rw [if_neg c8] at H
                exact absurd H (by simp)
            · rw [if_neg c7] at H
              exact absurd H (by simp)
          · rw [if_neg c4] at H
            exact absurd H (by simp)
        · rw [if_neg c3] at H
          have c3b0 : decide (0 ≤ (wrap64 ((x3_1.length : Int) - 1))) = false := decide_eq_false c3
          clear c3
          by_cases c21 : x3_1.length < 8796093022208
          · rw [if_pos c21] at H
            have LMc21 := Aside0.mk c21
            clear c21
            obtain ⟨y136, hy136⟩ : ∃ y_ : List (S25), y_ = (x3_1 ++ [(⟨x4_1, 1⟩ : S25)]) := ⟨_, rfl⟩
            replace H : (words_Runs.l0 k1 l0 y136 (wrap64 (x4_1 + 1))) = some r := by first | (rw [hy136]; with_reducible exact H) | (have H2_ := (Option.bind_some _ _).symm.trans H; rw [hy136]; with_reducible exact H2_) | (have H2_ := (Option.bind_some _ _).symm.trans H; with_reducible exact H2_) | with_reducible exact H | (rw [hy136]; exact H) | exact H
            have Ny136 := Aside0.mk hy136
            clear hy136
            have H' := Aside0.mk H
            clear H
            obtain ⟨Ao22, co22, eo22⟩ := Kd.R_slice HO_3.out
            subst eo22
            go_wp2_with (first | ((with_reducible refine gate_builtin (b := .append) (xs := #[.tmp 39, .tmp 42]) rfl ?_); at_builtin; refine Kd.R_append k25 (w0 := w) w.heap.size rfl (.tmp 39) (.tmp 42) 45 25 (.agg #[(.int .i64 0), (.int .i64 0)]) 16 rfl Try.underlying45 info25 rfl (by decide) (by omega) (.slice Ao22 x3_1.length co22) x3_1 (⟨x4_1, 1⟩ : S25) [.int .i64 x4_1, .int .i64 1] (fun _ => True) (fun _ => False) rfl rfl ?aP (fun _ hk => hk.elim) ?aF ?aO ?aB ?aS ?aL ?_; (case aP => exact k25_mkM _ _ _ (⟨x4_1, 1⟩ : S25)); (case aB => exact (by repeat (first | (with_reducible first | exact HB.out | apply below_alloc | apply pw_below_drewN | apply below_drew1) | exact HB.out))); (case aF => exact (fun _ _ => trivial)); (case aO => exact (by (with_reducible repeat (first | apply Kd.R_alloc | apply Kd.R_drewN | apply Kd.R_drew)); exact HO_3.out)); (case aS => exact (below_size (by repeat (first | (with_reducible first | exact HB.out | apply below_alloc | apply pw_below_drewN | apply below_drew1) | exact HB.out)))); (case aL => have := LMc21.out; omega); intro v137 w23 ho hb hg hat; rw [← Ny136.out] at ho; have n0_ := Aside0.mk (hb); have n1_ := Aside0.mk (ho); clear HB; clear HO_3; have HB := n0_; have HO138 := n1_; clear n0_ n1_; clear ho hb hg hat))
            repeat (go_quiet (first | ((with_reducible refine gate_builtin (b := .append) (xs := #[.tmp 39, .tmp 42]) rfl ?_); at_builtin; refine Kd.R_append k25 (w0 := w) w.heap.size rfl (.tmp 39) (.tmp 42) 45 25 (.agg #[(.int .i64 0), (.int .i64 0)]) 16 rfl Try.underlying45 info25 rfl (by decide) (by omega) (.slice Ao22 x3_1.length co22) x3_1 (⟨x4_1, 1⟩ : S25) [.int .i64 x4_1, .int .i64 1] (fun _ => True) (fun _ => False) rfl rfl ?aP (fun _ hk => hk.elim) ?aF ?aO ?aB ?aS ?aL ?_; (case aP => exact k25_mkM _ _ _ (⟨x4_1, 1⟩ : S25)); (case aB => exact (by repeat (first | (with_reducible first | exact HB.out | apply below_alloc | apply pw_below_drewN | apply below_drew1) | exact HB.out))); (case aF => exact (fun _ _ => trivial)); (case aO => exact (by (with_reducible repeat (first | apply Kd.R_alloc | apply Kd.R_drewN | apply Kd.R_drew)); exact HO_3.out)); (case aS => exact (below_size (by repeat (first | (with_reducible first | exact HB.out | apply below_alloc | apply pw_below_drewN | apply below_drew1) | exact HB.out)))); (case aL => have := LMc21.out; omega); intro v137 w23 ho hb hg hat; rw [← Ny136.out] at ho; have n0_ := Aside0.mk (hb); have n1_ := Aside0.mk (ho); clear HB; clear HO_3; have HB := n0_; have HO138 := n1_; clear n0_ n1_; clear ho hb hg hat)); try go_wp2_with (first | ((with_reducible refine gate_builtin (b := .append) (xs := #[.tmp 39, .tmp 42]) rfl ?_); at_builtin; refine Kd.R_append k25 (w0 := w) w.heap.size rfl (.tmp 39) (.tmp 42) 45 25 (.agg #[(.int .i64 0), (.int .i64 0)]) 16 rfl Try.underlying45 info25 rfl (by decide) (by omega) (.slice Ao22 x3_1.length co22) x3_1 (⟨x4_1, 1⟩ : S25) [.int .i64 x4_1, .int .i64 1] (fun _ => True) (fun _ => False) rfl rfl ?aP (fun _ hk => hk.elim) ?aF ?aO ?aB ?aS ?aL ?_; (case aP => exact k25_mkM _ _ _ (⟨x4_1, 1⟩ : S25)); (case aB => exact (by repeat (first | (with_reducible first | exact HB.out | apply below_alloc | apply pw_below_drewN | apply below_drew1) | exact HB.out))); (case aF => exact (fun _ _ => trivial)); (case aO => exact (by (with_reducible repeat (first | apply Kd.R_alloc | apply Kd.R_drewN | apply Kd.R_drew)); exact HO_3.out)); (case aS => exact (below_size (by repeat (first | (with_reducible first | exact HB.out | apply below_alloc | apply pw_below_drewN | apply below_drew1) | exact HB.out)))); (case aL => have := LMc21.out; omega); intro v137 w23 ho hb hg hat; rw [← Ny136.out] at ho; have n0_ := Aside0.mk (hb); have n1_ := Aside0.mk (ho); clear HB; clear HO_3; have HB := n0_; have HO138 := n1_; clear n0_ n1_; clear ho hb hg hat)))
            go_roundg k1
            case measure => have := HK1.out; omega
            case rel => exact ⟨(y136), (wrap64 (x4_1 + 1)), (by first | rfl | (simp; done) | (simp [*]; done)), H', ⟨by have := HK1.out; omega⟩, ⟨by (with_reducible repeat (first | apply Kd.R_alloc | apply Kd.R_drewN | apply Kd.R_drew)); exact HO138.out⟩, ⟨by repeat (first | (with_reducible first | exact HB.out | apply below_alloc | apply pw_below_drewN | apply below_drew1) | exact HB.out)⟩⟩
          · rw [if_neg c21] at H
            exact absurd H (by simp)
      · rw [if_neg c2] at H
        have c2b0 : decide (x4_1 < (l0.length : Int)) = false := decide_eq_false c2
        clear c2
        obtain rfl := Option.some.inj H
        go_wp2
        repeat (go_quiet (fail); try go_wp2)
        go_ret
        exact ⟨_, by first | rfl | (simp [errW_none, errW_some] <;> rfl) | (simp [*, errW_none, errW_some] <;> rfl), by (with_reducible repeat (first | apply Kd.R_alloc | apply Kd.R_drewN | apply Kd.R_drew)); exact HO_3.out, by repeat (first | (with_reducible first | exact HB.out | apply below_alloc | apply pw_below_drewN | apply below_drew1) | exact HB.out)⟩

/-! ### lines_Indent: function 31 -/
def lines_Indent.l0 : Nat → ByteArray → Int → Int → Option (Int)
  | 0, _, _, _ => none
  | k + 1, x0, x5, x6 => if x6 < x5 then (if 0 ≤ x6 then (if x6 < (x0.size : Int) then ((glyph_Blank.f (bt x0 x6)).bind fun t139 => (if t139 = true then (lines_Indent.l0 k x0 x5 (wrap64 (x6 + 1))) else (some x6))) else (none)) else (none)) else (some (x0.size : Int))
def lines_Indent.f (k : Nat) (a0 : ByteArray) : Option (Int) := lines_Indent.l0 k a0 (a0.size : Int) 0
theorem lines_Indent.mono_l : ∀ k, (∀ y0 y1 y2, LeO (lines_Indent.l0 k y0 y1 y2) (lines_Indent.l0 (k + 1) y0 y1 y2))
  | 0 => fun _ _ _ r h => by simp [lines_Indent.l0] at h
  | k + 1 => by
    have ih0 := lines_Indent.mono_l k
    · intro y0 y1 y2
      unfold lines_Indent.l0
      repeat' first
      | (with_reducible exact ih0 _ _ _)
      | (with_reducible exact LeO.refl _)
      | (with_reducible exact LeO.none _)
      | (with_reducible refine LeO.ite ?_ ?_)
      | (with_reducible refine LeO.bind ?_ (fun _ => ?_))
      | exact ih0 _ _ _
      | exact LeO.none _
      | refine LeO.ite ?_ ?_
      | refine LeO.bind ?_ (fun _ => ?_)
theorem lines_Indent.mono : ∀ a0 k, LeO (lines_Indent.f k a0) (lines_Indent.f (k + 1) a0) := by
  intro a0 k
  have ih0 := lines_Indent.mono_l k
  unfold lines_Indent.f
  repeat' first
      | (with_reducible exact ih0 _ _ _)
      | (with_reducible exact LeO.refl _)
      | (with_reducible exact LeO.none _)
      | (with_reducible refine LeO.ite ?_ ?_)
      | (with_reducible refine LeO.bind ?_ (fun _ => ?_))
      | exact ih0 _ _ _
      | exact LeO.none _
      | refine LeO.ite ?_ ?_
      | refine LeO.bind ?_ (fun _ => ?_)
set_option maxHeartbeats 8000000 in
set_option maxRecDepth 100000 in
theorem lines_Indent.calls (k : Nat) (a0 : ByteArray) (r : Int) (w : World) (h : lines_Indent.f k a0 = some r) :
    Calls Try.prog 31 #[.string a0] w fun e w' => e = .returned (.int .i64 r) ∧ Drawn0 w w' := by
  have H : (lines_Indent.l0 k a0 (a0.size : Int) 0) = some r := h
  clear h
  have H' := Aside0.mk H
  clear H
  go_enter Try.func31, Try.ntmps31
  go_wp2
  go_loopg [6] k (fun kq v6 w' => ∃ (x6_1 : Int), v6 = .int .i64 x6_1 ∧ Aside0 (lines_Indent.l0 kq a0 (a0.size : Int) x6_1 = some r) ∧ Aside0 (kq ≤ k) ∧ Drawn0 w w')
  case atStart => exact ⟨(0), (by first | rfl | (simp; done) | (simp [*]; done)), H', ⟨Nat.le_refl _⟩, by repeat (first | exact Drawn0.refl _ | apply Drawn0.step)⟩
  case round =>
    clear H'
    obtain ⟨x6_1, rfl, HA, HK1, ⟨m1, rfl⟩⟩ := hrel
    cases gk with
    | zero => exact absurd HA.out (by simp [lines_Indent.l0])
    | succ k1 =>
      have H := HA.out
      clear HA
      simp only [lines_Indent.l0] at H
      by_cases c2 : x6_1 < (a0.size : Int)
      · rw [if_pos c2] at H
        have c2b0 : decide (x6_1 < (a0.size : Int)) = true := decide_eq_true c2
        clear c2
        by_cases c3 : 0 ≤ x6_1
        · rw [if_pos c3] at H
          have c3b0 : decide (0 ≤ x6_1) = true := decide_eq_true c3
          clear c3
          by_cases c4 : x6_1 < (a0.size : Int)
          · rw [if_pos c4] at H
            have c4b0 : decide (x6_1 < (a0.size : Int)) = true := decide_eq_true c4
            clear c4
            replace H := Option.bind_eq_some_iff.mp H
            obtain ⟨t139, A60, H⟩ := H
            replace H : (if t139 = true then (lines_Indent.l0 k1 a0 (a0.size : Int) (wrap64 (x6_1 + 1))) else (some x6_1)) = some r := H
            have A6 := Aside0.mk A60
            clear A60
            by_cases c7 : t139 = true
            · subst c7
              have H1 : (lines_Indent.l0 k1 a0 (a0.size : Int) (wrap64 (x6_1 + 1))) = some r := by rw [if_pos rfl] at H; exact H
              clear H
              have H := H1
              clear H1
              have H' := Aside0.mk H
              clear H
              have p5 : 0 ≤ (x6_1 : Int) := of_decide_eq_true (by first | (with_reducible assumption) | assumption)
              have q5 : x6_1 < (a0.size : Int) := of_decide_eq_true (by first | (with_reducible assumption) | assumption)
              have hx5 := bt_at a0 x6_1
              replace p5 := eq_true p5
              replace q5 := eq_true q5
              go_wp2_with (first | ((with_reducible refine gate_callee (f := 37) rfl ?_); refine goesL_ (some 12) rfl rfl Try.func37 (by kernel_rfl) rfl #[.int .u8 (bt a0 x6_1)] rfl (by (try simp only [List.map_toArray, List.map_cons, List.map_nil]); first | done | rfl | (simp only [List.length_drop, List.length_take]; rfl)) ?_; (with_reducible refine (glyph_Blank.calls (bt a0 x6_1) true _ A6.out).mono ?_); rintro e w' ⟨rfl, ⟨nd, rfl⟩⟩; refine ⟨_, rfl, ?_⟩))
              go_roundg k1
              case measure => have := HK1.out; omega
              case rel => exact ⟨(wrap64 (x6_1 + 1)), (by first | rfl | (simp; done) | (simp [*]; done)), H', ⟨by have := HK1.out; omega⟩, by repeat (first | exact Drawn0.refl _ | apply Drawn0.step)⟩
            · replace c7 := Bool.eq_false_iff.mpr c7
              subst c7
              have H1 : (some x6_1) = some r := by rw [if_neg (show ¬ (false = true) by decide)] at H; exact H
              clear H
              have H := H1
              clear H1
              obtain rfl := Option.some.inj H
              have p5 : 0 ≤ (x6_1 : Int) := of_decide_eq_true (by first | (with_reducible assumption) | assumption)
              have q5 : x6_1 < (a0.size : Int) := of_decide_eq_true (by first | (with_reducible assumption) | assumption)
              have hx5 := bt_at a0 x6_1
              replace p5 := eq_true p5
              replace q5 := eq_true q5
              go_wp2_with (first | ((with_reducible refine gate_callee (f := 37) rfl ?_); refine goesL_ (some 12) rfl rfl Try.func37 (by kernel_rfl) rfl #[.int .u8 (bt a0 x6_1)] rfl (by (try simp only [List.map_toArray, List.map_cons, List.map_nil]); first | done | rfl | (simp only [List.length_drop, List.length_take]; rfl)) ?_; (with_reducible refine (glyph_Blank.calls (bt a0 x6_1) false _ A6.out).mono ?_); rintro e w' ⟨rfl, ⟨nd, rfl⟩⟩; refine ⟨_, rfl, ?_⟩))
              go_ret
              exact ⟨by first | rfl | (simp; done) | (simp [*]; done), by repeat (first | exact Drawn0.refl _ | apply Drawn0.step)⟩
          · rw [if_neg c4] at H
            exact absurd H (by simp)
        · rw [if_neg c3] at H
          exact absurd H (by simp)
      · rw [if_neg c2] at H
        have c2b0 : decide (x6_1 < (a0.size : Int)) = false := decide_eq_false c2
        clear c2
        obtain rfl := Option.some.inj H
        go_wp2
        go_ret
        exact ⟨by first | rfl | (simp; done) | (simp [*]; done), by repeat (first | exact Drawn0.refl _ | apply Drawn0.step)⟩

/-! ### lines_Bare: function 43 -/
def lines_Bare.f (k : Nat) (a0 : ByteArray) : Option (Bool) := (lines_Indent.f k a0).bind fun t140 => (some (t140 == (a0.size : Int)))
theorem lines_Bare.mono : ∀ a0 k, LeO (lines_Bare.f k a0) (lines_Bare.f (k + 1) a0) := by
  intro a0 k
  unfold lines_Bare.f
  repeat' first
      | (with_reducible exact lines_Indent.mono _ _)
      | (with_reducible exact LeO.refl _)
      | (with_reducible exact LeO.none _)
      | (with_reducible refine LeO.ite ?_ ?_)
      | (with_reducible refine LeO.bind ?_ (fun _ => ?_))
      | exact lines_Indent.mono _ _
      | exact LeO.none _
      | refine LeO.ite ?_ ?_
      | refine LeO.bind ?_ (fun _ => ?_)
set_option maxHeartbeats 8000000 in
set_option maxRecDepth 100000 in
theorem lines_Bare.calls (k : Nat) (a0 : ByteArray) (r : Bool) (w : World) (h : lines_Bare.f k a0 = some r) :
    Calls Try.prog 43 #[.string a0] w fun e w' => e = .returned (.bool r) ∧ Drawn0 w w' := by
  have H : ((lines_Indent.f k a0).bind fun t140 => (some (t140 == (a0.size : Int)))) = some r := h
  clear h
  replace H := Option.bind_eq_some_iff.mp H
  obtain ⟨t140, A20, H⟩ := H
  replace H : (some (t140 == (a0.size : Int))) = some r := H
  have A2 := Aside0.mk A20
  clear A20
  obtain rfl := Option.some.inj H
  go_enter Try.func43, Try.ntmps43
  go_wp2_with (first | ((with_reducible refine gate_callee (f := 31) rfl ?_); refine goesL_ (some 4) rfl rfl Try.func31 (by kernel_rfl) rfl #[.string a0] rfl (by (try simp only [List.map_toArray, List.map_cons, List.map_nil]); first | done | rfl | (simp only [List.length_drop, List.length_take]; rfl)) ?_; (with_reducible refine (lines_Indent.calls k a0 t140 _ A2.out).mono ?_); rintro e w' ⟨rfl, ⟨nd, rfl⟩⟩; refine ⟨_, rfl, ?_⟩))
  go_ret
  exact ⟨by first | rfl | (simp; done) | (simp [*]; done), by repeat (first | exact Drawn0.refl _ | apply Drawn0.step)⟩

/-! ### object_bare: function 38 -/
def object_bare.f (k : Nat) (l0 : List Int) (a1 : Int) : Option (Bool × Bool) := (lines_Span.f k l0 a1).bind fun bt141 => (if bt141.2.2 = true then (if 0 ≤ bt141.1 then (if bt141.1 ≤ (wrap64 (bt141.1 + bt141.2.1)) then (if (wrap64 (bt141.1 + bt141.2.1)) ≤ (l0.length : Int) then ((lines_Bare.f k (strOfNums ((l0.take ((wrap64 (bt141.1 + bt141.2.1)) : Int).toNat).drop (bt141.1 : Int).toNat))).bind fun t146 => (some (t146, bt141.2.2))) else (none)) else (none)) else (none)) else (some (false, bt141.2.2)))
theorem object_bare.mono : ∀ a0 a1 k, LeO (object_bare.f k a0 a1) (object_bare.f (k + 1) a0 a1) := by
  intro a0 a1 k
  unfold object_bare.f
  repeat' first
      | (with_reducible exact lines_Bare.mono _ _)
      | (with_reducible exact lines_Span.mono _ _ _)
      | (with_reducible exact LeO.refl _)
      | (with_reducible exact LeO.none _)
      | (with_reducible refine LeO.ite ?_ ?_)
      | (with_reducible refine LeO.bind ?_ (fun _ => ?_))
      | exact lines_Bare.mono _ _
      | exact lines_Span.mono _ _ _
      | exact LeO.none _
      | refine LeO.ite ?_ ?_
      | refine LeO.bind ?_ (fun _ => ?_)
set_option maxHeartbeats 8000000 in
set_option maxRecDepth 100000 in
theorem object_bare.calls (k : Nat) (A0 : Option Addr) (c0 : Nat) (l0 : List Int) (a1 : Int) (r1 : Bool) (r2 : Bool) (w : World) (hr0 : Kd.C (Kd.int .u8) w A0 l0.length l0) (hc0 : l0.length ≤ c0) (h : object_bare.f k l0 a1 = some (r1, r2)) :
    Calls Try.prog 38 #[.slice A0 l0.length c0, .int .i64 a1] w fun e w' => e = .returned (.tuple #[.bool r1, .bool r2]) ∧ Below w.heap.size w w' := by
  have hu25 := Try.underlying25
  have HR0 := Aside0.mk hr0
  have HC0 := Aside0.mk hc0
  clear hr0 hc0
  have HB := Aside0.mk (Below.refl w.heap.size w)
  have H : ((lines_Span.f k l0 a1).bind fun bt141 => (if bt141.2.2 = true then (if 0 ≤ bt141.1 then (if bt141.1 ≤ (wrap64 (bt141.1 + bt141.2.1)) then (if (wrap64 (bt141.1 + bt141.2.1)) ≤ (l0.length : Int) then ((lines_Bare.f k (strOfNums ((l0.take ((wrap64 (bt141.1 + bt141.2.1)) : Int).toNat).drop (bt141.1 : Int).toNat))).bind fun t146 => (some (t146, bt141.2.2))) else (none)) else (none)) else (none)) else (some (false, bt141.2.2)))) = some (r1, r2) := h
  clear h
  replace H := Option.bind_eq_some_iff.mp H
  obtain ⟨⟨t141, t142, t143⟩, A30, H⟩ := H
  replace H : (if t143 = true then (if 0 ≤ t141 then (if t141 ≤ (wrap64 (t141 + t142)) then (if (wrap64 (t141 + t142)) ≤ (l0.length : Int) then ((lines_Bare.f k (strOfNums ((l0.take ((wrap64 (t141 + t142)) : Int).toNat).drop (t141 : Int).toNat))).bind fun t146 => (some (t146, t143))) else (none)) else (none)) else (none)) else (some (false, t143))) = some (r1, r2) := H
  have A3 := Aside0.mk A30
  clear A30
  by_cases c4 : t143 = true
  · subst c4
    have H1 : (if 0 ≤ t141 then (if t141 ≤ (wrap64 (t141 + t142)) then (if (wrap64 (t141 + t142)) ≤ (l0.length : Int) then ((lines_Bare.f k (strOfNums ((l0.take ((wrap64 (t141 + t142)) : Int).toNat).drop (t141 : Int).toNat))).bind fun t146 => (some (t146, true))) else (none)) else (none)) else (none)) = some (r1, r2) := by rw [if_pos rfl] at H; exact H
    clear H
    have H := H1
    clear H1
    by_cases c5 : 0 ≤ t141
    · rw [if_pos c5] at H
      have c5b0 := eq_true c5
      have c5b1 : decide (0 ≤ t141) = true := decide_eq_true c5
      clear c5
      by_cases c6 : t141 ≤ (wrap64 (t141 + t142))
      · rw [if_pos c6] at H
        have c6b0 := eq_true c6
        have c6b1 : decide (t141 ≤ (wrap64 (t141 + t142))) = true := decide_eq_true c6
        by_cases c7 : (wrap64 (t141 + t142)) ≤ (l0.length : Int)
        · rw [if_pos c7] at H
          have c7b0 := eq_true c7
          have c7b1 : decide ((wrap64 (t141 + t142)) ≤ (l0.length : Int)) = true := decide_eq_true c7
          replace H := Option.bind_eq_some_iff.mp H
          obtain ⟨t146, A80, H⟩ := H
          replace H : (some (t146, true)) = some (r1, r2) := H
          have A8 := Aside0.mk A80
          clear A80
          simp only [Option.some.injEq, Prod.mk.injEq] at H
          obtain ⟨rfl, rfl⟩ := H
          go_enter Try.func38, Try.ntmps38
          go_wp2_with (first | ((with_reducible refine gate_callee (f := 30) rfl ?_); refine goesL_ (some 11) rfl rfl Try.func30 (by kernel_rfl) rfl #[.slice A0 l0.length c0, .int .i64 a1] rfl (by (try simp only [List.map_toArray, List.map_cons, List.map_nil]); first | done | rfl | (simp only [List.length_drop, List.length_take]; rfl)) ?_; (with_reducible refine (lines_Span.calls k _ _ l0 a1 t141 t142 true _ ?side1 ?side2 A3.out).mono ?_); (case side1 => repeat (first | exact HR0.out | (with_reducible refine Kd.C_alloc ?_ _) | (with_reducible refine Kd.C_drewN ?_ _) | (with_reducible refine Kd.C_drew ?_))); (case side2 => exact HC0.out); rintro e w9 ⟨rfl, hb⟩; refine ⟨_, rfl, ?_⟩; have n0_ := Aside0.mk (below_step (by repeat (first | (with_reducible first | exact HB.out | apply below_alloc | apply pw_below_drewN | apply below_drew1) | exact HB.out)) hb); clear HB; have HB := n0_; clear n0_; (try clear hb); (try clear hb2); (try clear hk); (try clear hi)) | ((with_reducible refine gate_dst (N := 6) rfl ?_); refine box_event ?hg (N := 6) ?hd (cs := #[.int .i64 0, .int .i64 0]) (t := 25) ?hr ?_; (case hd => rfl); (case hg => rfl); (case hr => first | (go_simp; done) | (go_simp; rfl)); intro gb144 hg w10 hbox hb; have n0_ := Aside0.mk (below_step (by repeat (first | (with_reducible first | exact HB.out | apply below_alloc | apply pw_below_drewN | apply below_drew1) | exact HB.out)) hb); have n1_ := Aside0.mk (hbox); have n2_ := Aside0.mk ((by rw [hg]; exact (below_size (by repeat (first | (with_reducible first | exact HB.out | apply below_alloc | apply pw_below_drewN | apply below_drew1) | exact HB.out))) : w.heap.size ≤ gb144)); have n3_ := Aside0.mk ((by rw [hg]; exact (below_size (by repeat (first | (with_reducible first | exact HB.out | apply below_alloc | apply pw_below_drewN | apply below_drew1) | exact HB.out))) : w.heap.size ≤ gb144)); clear HB; have HB := n0_; have BK144 := n1_; have GW144 := n2_; have GE144 := n3_; clear n0_ n1_ n2_ n3_; clear hb hbox hg; have hcz11_0 : w10.cell? ⟨gb144, 0, none⟩ = some (.int .i64 0) := (blk_cell BK144.out 0).trans rfl; have hcz11_1 : w10.cell? ⟨gb144, 1, none⟩ = some (.int .i64 0) := (blk_cell BK144.out 1).trans rfl; have hfz11_0 := blk_frozen BK144.out 0; have hfz11_1 := blk_frozen BK144.out 1; obtain ⟨i012, hi012, _, hsz12, _⟩ := info_parts info5; obtain ⟨A12, hcut12, hA12, hC12⟩ := print_mid_of (P := Try.prog) (Value.int .u8) 0 22 5 .i64 .i64 Try.underlying22 hi012 hsz12 A0 c0 l0 t141 (wrap64 (t141 + t142)) (of_decide_eq_true (by first | (with_reducible assumption) | assumption)) (by first | omega | exact of_decide_eq_true (by first | (with_reducible assumption) | assumption)) (of_decide_eq_true (by first | (with_reducible assumption) | assumption)) HC0.out; have HR145 := Aside0.mk (Kd.C_of_reads (h1 := fun _ => rfl) (hA12 _ (Kd.reads_of_C HR0.out))); have HC145 := Aside0.mk hC12; clear hA12 hC12 hi012 hsz12; have hcv13 := Kd.C_string (P := Try.prog) (A := A12) (c := (c0 - t141.toNat)) Try.underlying22 Try.underlying5 Try.underlying9 (Kd.C_below HR145.out (show Below w.heap.size w ((w10.setCell ⟨gb144, 0, none⟩ (.int .i64 t141)).setCell ⟨gb144, 1, none⟩ (.int .i64 t142)) from by repeat (first | (with_reducible first | exact HB.out | apply below_alloc | apply pw_below_drewN | apply below_drew1 | refine below_set ?_ GE144.out) | exact HB.out))); (try (have hcv13b := hcv13; rw [show ((l0.take ((wrap64 (t141 + t142)) : Int).toNat).drop (t141 : Int).toNat).length = ((wrap64 (t141 + t142)) : Int).toNat - (t141 : Int).toNat from by simp only [List.length_drop, List.length_take]; omega] at hcv13b))) | (go_at_call 43; (with_reducible refine (lines_Bare.calls k (strOfNums ((l0.take ((wrap64 (t141 + t142)) : Int).toNat).drop (t141 : Int).toNat)) t146 _ A8.out).mono ?_); rintro e w' ⟨rfl, ⟨nd, rfl⟩⟩))
          go_ret2
          exact ⟨by first | rfl | (simp [errW_none, errW_some] <;> rfl) | (simp [*, errW_none, errW_some] <;> rfl), by repeat (first | (with_reducible first | exact HB.out | apply below_alloc | apply pw_below_drewN | apply below_drew1 | refine below_set ?_ GE144.out) | exact HB.out)⟩
        · rw [if_neg c7] at H
          exact absurd H (by simp)
      · rw [if_neg c6] at H
        exact absurd H (by simp)
    · rw [if_neg c5] at H
      exact absurd H (by simp)
  · replace c4 := Bool.eq_false_iff.mpr c4
    subst c4
    have H1 : (some (false, false)) = some (r1, r2) := by rw [if_neg (show ¬ (false = true) by decide)] at H; exact H
    clear H
    have H := H1
    clear H1
    simp only [Option.some.injEq, Prod.mk.injEq] at H
    obtain ⟨rfl, rfl⟩ := H
    go_enter Try.func38, Try.ntmps38
    go_wp2_with (first | ((with_reducible refine gate_callee (f := 30) rfl ?_); refine goesL_ (some 11) rfl rfl Try.func30 (by kernel_rfl) rfl #[.slice A0 l0.length c0, .int .i64 a1] rfl (by (try simp only [List.map_toArray, List.map_cons, List.map_nil]); first | done | rfl | (simp only [List.length_drop, List.length_take]; rfl)) ?_; (with_reducible refine (lines_Span.calls k _ _ l0 a1 t141 t142 false _ ?side1 ?side2 A3.out).mono ?_); (case side1 => repeat (first | exact HR0.out | (with_reducible refine Kd.C_alloc ?_ _) | (with_reducible refine Kd.C_drewN ?_ _) | (with_reducible refine Kd.C_drew ?_))); (case side2 => exact HC0.out); rintro e w14 ⟨rfl, hb⟩; refine ⟨_, rfl, ?_⟩; have n0_ := Aside0.mk (below_step (by repeat (first | (with_reducible first | exact HB.out | apply below_alloc | apply pw_below_drewN | apply below_drew1) | exact HB.out)) hb); clear HB; have HB := n0_; clear n0_; (try clear hb); (try clear hb2); (try clear hk); (try clear hi)) | ((with_reducible refine gate_dst (N := 6) rfl ?_); refine box_event ?hg (N := 6) ?hd (cs := #[.int .i64 0, .int .i64 0]) (t := 25) ?hr ?_; (case hd => rfl); (case hg => rfl); (case hr => first | (go_simp; done) | (go_simp; rfl)); intro gb144 hg w15 hbox hb; have n0_ := Aside0.mk (below_step (by repeat (first | (with_reducible first | exact HB.out | apply below_alloc | apply pw_below_drewN | apply below_drew1) | exact HB.out)) hb); have n1_ := Aside0.mk (hbox); have n2_ := Aside0.mk ((by rw [hg]; exact (below_size (by repeat (first | (with_reducible first | exact HB.out | apply below_alloc | apply pw_below_drewN | apply below_drew1) | exact HB.out))) : w.heap.size ≤ gb144)); have n3_ := Aside0.mk ((by rw [hg]; exact (below_size (by repeat (first | (with_reducible first | exact HB.out | apply below_alloc | apply pw_below_drewN | apply below_drew1) | exact HB.out))) : w.heap.size ≤ gb144)); clear HB; have HB := n0_; have BK144 := n1_; have GW144 := n2_; have GE144 := n3_; clear n0_ n1_ n2_ n3_; clear hb hbox hg; have hcz16_0 : w15.cell? ⟨gb144, 0, none⟩ = some (.int .i64 0) := (blk_cell BK144.out 0).trans rfl; have hcz16_1 : w15.cell? ⟨gb144, 1, none⟩ = some (.int .i64 0) := (blk_cell BK144.out 1).trans rfl; have hfz16_0 := blk_frozen BK144.out 0; have hfz16_1 := blk_frozen BK144.out 1))
    go_ret2
    exact ⟨by first | rfl | (simp [errW_none, errW_some] <;> rfl) | (simp [*, errW_none, errW_some] <;> rfl), by repeat (first | (with_reducible first | exact HB.out | apply below_alloc | apply pw_below_drewN | apply below_drew1 | refine below_set ?_ GE144.out) | exact HB.out)⟩

end Go.Proofs.Ytcljafgpjoagpaa.Pa
