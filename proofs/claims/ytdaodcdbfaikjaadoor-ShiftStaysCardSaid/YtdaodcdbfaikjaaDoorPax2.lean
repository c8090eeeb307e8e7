-- Laid by a program of this claim's own (wip/tools/mkprint.py, ext.py): walks of the functions that the statements reach.
import Derived.Test.YtdaodcdbfaikjaaDoorPax0
import Derived.Test.YtdaodcdbfaikjaaDoorPax1
namespace Go.Proofs.YtdaodcdbfaikjaaDoor.Pa
open Go.RowKit Go.Proofs.YtdaodcdbfaikjaaDoor.Ext Go.Proofs.YtdaodcdbfaikjaaDoorW.PrintWords Go.Proofs.YtdaodcdbfaikjaaDoorW.PrintLast Go.Proofs.YtdaodcdbfaikjaaDoorW.PrintMore
attribute [local go_sem] max2_int min2_int max_two min_two max_three min_three max_four min_four   -- for this text's walks alone
set_option linter.unusedVariables false
set_option linter.unusedSimpArgs false

/-! ### shift_Line: function 12 -/
def shift_Line.f (k : Nat) (a0 : ByteArray) (a1 : Int) (a2_0 : Int) (a2_1 : Int) (a2_2 : Int) (a2_3 : Bool) (a2_4 : Bool) : Option (ByteArray) := (lines_Bare.f k a0).bind fun t132 => (if t132 = true then (some a0) else ((lines_Indent.f k a0).bind fun t133 => (if 0 ≤ t133 then (if t133 ≤ (a0.size : Int) then (if (a0.extract 0 (t133 : Int).toNat).size ≤ 9223372036854775807 then ((glyph_Wide.f k (bytesOf (a0.extract 0 (t133 : Int).toNat)) 0 (mx a2_1 1)).bind fun t137 => ((glyph_Fill.f k 0 (mx (wrap64 (t137 + (wrap64 ((mn (mx a1 (-9999)) 9999) * a2_2)))) 0) (mx a2_1 1) a2_3).bind fun t138 => (if (strOfNums t138).size + (a0.extract (t133 : Int).toNat a0.size).size ≤ 9223372036854775807 then (some ((strOfNums t138) ++ (a0.extract (t133 : Int).toNat a0.size))) else (none)))) else (none)) else (none)) else (none))))
theorem shift_Line.mono : ∀ a0 a1 a2 a3 a4 a5 a6 k, LeO (shift_Line.f k a0 a1 a2 a3 a4 a5 a6) (shift_Line.f (k + 1) a0 a1 a2 a3 a4 a5 a6) := by
  intro a0 a1 a2 a3 a4 a5 a6 k
  unfold shift_Line.f
  repeat' first
      | (with_reducible exact glyph_Fill.mono _ _ _ _ _)
      | (with_reducible exact glyph_Wide.mono _ _ _ _)
      | (with_reducible exact lines_Bare.mono _ _)
      | (with_reducible exact lines_Indent.mono _ _)
      | (with_reducible exact LeO.refl _)
      | (with_reducible exact LeO.none _)
      | (with_reducible refine LeO.ite ?_ ?_)
      | (with_reducible refine LeO.bind ?_ (fun _ => ?_))
      | exact glyph_Fill.mono _ _ _ _ _
      | exact glyph_Wide.mono _ _ _ _
      | exact lines_Bare.mono _ _
      | exact lines_Indent.mono _ _
      | exact LeO.none _
      | refine LeO.ite ?_ ?_
      | refine LeO.bind ?_ (fun _ => ?_)
def shift_Line.T6 : Bool × List (List Nat × List Nat) := (true, [([], []), ([], []), ([0, 1], [0, 1]), ([2], [2]), ([], []), ([3, 4], [3, 4]), ([], []), ([], []), ([7], [7]), ([6, 8], [6, 8]), ([5, 9], [5, 9]), ([10], [10]), ([11, 5, 0, 1, 2, 3, 4, 5, 6, 7, 8, 9, 10, 11], [11])])
def shift_Line.B6 : List Nat := [0, 0, 3, 7, 0, 31, 0, 0, 128, 448, 1023, 2047, 4095]
theorem shift_Line.tab6 : rtab .any (opsOf Tryd.f12 6) = shift_Line.T6 := by kernel_rfl
theorem shift_Line.bits6 : waitsOk shift_Line.T6.2 shift_Line.B6 = true := by kernel_rfl
def shift_Line.T7 : Bool × List (List Nat × List Nat) := (true, [([], []), ([], []), ([], []), ([2], [2]), ([0, 1, 3], [0, 1, 3]), ([4], [4]), ([], []), ([], []), ([6, 7], [6, 7]), ([5, 8], [5, 8]), ([9, 4, 0, 1, 2, 3, 4, 5, 6, 7, 8, 9], [9])])
def shift_Line.B7 : List Nat := [0, 0, 0, 4, 15, 31, 0, 0, 192, 511, 1023]
theorem shift_Line.tab7 : rtab .any (opsOf Tryd.f12 7) = shift_Line.T7 := by kernel_rfl
theorem shift_Line.bits7 : waitsOk shift_Line.T7.2 shift_Line.B7 = true := by kernel_rfl
set_option maxHeartbeats 8000000 in
set_option maxRecDepth 100000 in
theorem shift_Line.calls (k : Nat) (a0 : ByteArray) (a1 : Int) (a2_0 : Int) (a2_1 : Int) (a2_2 : Int) (a2_3 : Bool) (a2_4 : Bool) (r : ByteArray) (w : World) (hT : Tabs w) (h : shift_Line.f k a0 a1 a2_0 a2_1 a2_2 a2_3 a2_4 = some r) :
    Calls Tryd.prog 12 #[.string a0, .int .i64 a1, .agg #[.int .i64 a2_0, .int .i64 a2_1, .int .i64 a2_2, .bool a2_3, .bool a2_4]] w fun e w' => e = .returned (.string r) ∧ Below w.heap.size w w' := by
  have hu24 := Tryd.underlying24
  have HB := Aside0.mk (Below.refl w.heap.size w)
  have HT := Aside0.mk hT
  clear hT
  have H : ((lines_Bare.f k a0).bind fun t132 => (if t132 = true then (some a0) else ((lines_Indent.f k a0).bind fun t133 => (if 0 ≤ t133 then (if t133 ≤ (a0.size : Int) then (if (a0.extract 0 (t133 : Int).toNat).size ≤ 9223372036854775807 then ((glyph_Wide.f k (bytesOf (a0.extract 0 (t133 : Int).toNat)) 0 (mx a2_1 1)).bind fun t137 => ((glyph_Fill.f k 0 (mx (wrap64 (t137 + (wrap64 ((mn (mx a1 (-9999)) 9999) * a2_2)))) 0) (mx a2_1 1) a2_3).bind fun t138 => (if (strOfNums t138).size + (a0.extract (t133 : Int).toNat a0.size).size ≤ 9223372036854775807 then (some ((strOfNums t138) ++ (a0.extract (t133 : Int).toNat a0.size))) else (none)))) else (none)) else (none)) else (none))))) = some r := h
  clear h
  replace H := Option.bind_eq_some_iff.mp H
  obtain ⟨t132, A40, H⟩ := H
  replace H : (if t132 = true then (some a0) else ((lines_Indent.f k a0).bind fun t133 => (if 0 ≤ t133 then (if t133 ≤ (a0.size : Int) then (if (a0.extract 0 (t133 : Int).toNat).size ≤ 9223372036854775807 then ((glyph_Wide.f k (bytesOf (a0.extract 0 (t133 : Int).toNat)) 0 (mx a2_1 1)).bind fun t137 => ((glyph_Fill.f k 0 (mx (wrap64 (t137 + (wrap64 ((mn (mx a1 (-9999)) 9999) * a2_2)))) 0) (mx a2_1 1) a2_3).bind fun t138 => (if (strOfNums t138).size + (a0.extract (t133 : Int).toNat a0.size).size ≤ 9223372036854775807 then (some ((strOfNums t138) ++ (a0.extract (t133 : Int).toNat a0.size))) else (none)))) else (none)) else (none)) else (none)))) = some r := H
  have A4 := Aside0.mk A40
  clear A40
  by_cases c5 : t132 = true
  · subst c5
    have H1 : (some a0) = some r := by rw [if_pos rfl] at H; exact H
    clear H
    have H := H1
    clear H1
    obtain rfl := Option.some.inj H
    go_enter Tryd.func12, Tryd.ntmps12
    go_wp2_with (first | ((with_reducible refine gate_dst (N := 5) rfl ?_); refine box_event ?hg (N := 5) ?hd (cs := #[.int .i64 a2_0, .int .i64 a2_1, .int .i64 a2_2, .bool a2_3, .bool a2_4]) (t := 24) ?hr ?_; (case hd => rfl); (case hg => rfl); (case hr => first | (go_simp; done) | (go_simp; rfl)); intro gb131 hg w6 hbox hb; have n0_ := Aside0.mk (below_step (by repeat (first | (with_reducible first | exact HB.out | apply below_alloc | apply pw_below_drewN | apply below_drew1) | exact HB.out)) hb); have n1_ := Aside0.mk (hbox); have n2_ := Aside0.mk ((by rw [hg]; exact (below_size (by repeat (first | (with_reducible first | exact HB.out | apply below_alloc | apply pw_below_drewN | apply below_drew1) | exact HB.out))) : w.heap.size ≤ gb131)); have n3_ := Aside0.mk ((by rw [hg]; exact (below_size (by repeat (first | (with_reducible first | exact HB.out | apply below_alloc | apply pw_below_drewN | apply below_drew1) | exact HB.out))) : w.heap.size ≤ gb131)); clear HB; have HB := n0_; have BK131 := n1_; have GW131 := n2_; have GE131 := n3_; clear n0_ n1_ n2_ n3_; clear hb hbox hg) | ((with_reducible refine gate_callee (f := 26) rfl ?_); refine goesL_ (some 11) rfl rfl Tryd.func26 (by kernel_rfl) rfl #[.string a0] rfl (by (try simp only [List.map_toArray, List.map_cons, List.map_nil]); first | done | rfl | (simp only [List.length_drop, List.length_take]; rfl)) ?_; (with_reducible refine (lines_Bare.calls k a0 true _ A4.out).mono ?_); rintro e w' ⟨rfl, ⟨nd, rfl⟩⟩; refine ⟨_, rfl, ?_⟩))
    go_ret
    exact ⟨by first | rfl | (simp [errW_none, errW_some] <;> rfl) | (simp [*, errW_none, errW_some] <;> rfl), by repeat (first | (with_reducible first | exact HB.out | apply below_alloc | apply pw_below_drewN | apply below_drew1 | refine below_set ?_ GE131.out) | exact HB.out)⟩
  · replace c5 := Bool.eq_false_iff.mpr c5
    subst c5
    have H1 : ((lines_Indent.f k a0).bind fun t133 => (if 0 ≤ t133 then (if t133 ≤ (a0.size : Int) then (if (a0.extract 0 (t133 : Int).toNat).size ≤ 9223372036854775807 then ((glyph_Wide.f k (bytesOf (a0.extract 0 (t133 : Int).toNat)) 0 (mx a2_1 1)).bind fun t137 => ((glyph_Fill.f k 0 (mx (wrap64 (t137 + (wrap64 ((mn (mx a1 (-9999)) 9999) * a2_2)))) 0) (mx a2_1 1) a2_3).bind fun t138 => (if (strOfNums t138).size + (a0.extract (t133 : Int).toNat a0.size).size ≤ 9223372036854775807 then (some ((strOfNums t138) ++ (a0.extract (t133 : Int).toNat a0.size))) else (none)))) else (none)) else (none)) else (none))) = some r := by rw [if_neg (show ¬ (false = true) by decide)] at H; exact H
    clear H
    have H := H1
    clear H1
    replace H := Option.bind_eq_some_iff.mp H
    obtain ⟨t133, A70, H⟩ := H
    replace H : (if 0 ≤ t133 then (if t133 ≤ (a0.size : Int) then (if (a0.extract 0 (t133 : Int).toNat).size ≤ 9223372036854775807 then ((glyph_Wide.f k (bytesOf (a0.extract 0 (t133 : Int).toNat)) 0 (mx a2_1 1)).bind fun t137 => ((glyph_Fill.f k 0 (mx (wrap64 (t137 + (wrap64 ((mn (mx a1 (-9999)) 9999) * a2_2)))) 0) (mx a2_1 1) a2_3).bind fun t138 => (if (strOfNums t138).size + (a0.extract (t133 : Int).toNat a0.size).size ≤ 9223372036854775807 then (some ((strOfNums t138) ++ (a0.extract (t133 : Int).toNat a0.size))) else (none)))) else (none)) else (none)) else (none)) = some r := H
    have A7 := Aside0.mk A70
    clear A70
    obtain ⟨ji8, hji8⟩ : ∃ j_ : Int, (mx a2_1 1) = j_ := ⟨_, rfl⟩
    replace H : (if 0 ≤ t133 then (if t133 ≤ (a0.size : Int) then (if (a0.extract 0 (t133 : Int).toNat).size ≤ 9223372036854775807 then ((glyph_Wide.f k (bytesOf (a0.extract 0 (t133 : Int).toNat)) 0 (ji8)).bind fun t137 => ((glyph_Fill.f k 0 (mx (wrap64 (t137 + (wrap64 ((mn (mx a1 (-9999)) 9999) * a2_2)))) 0) (ji8) a2_3).bind fun t138 => (if (strOfNums t138).size + (a0.extract (t133 : Int).toNat a0.size).size ≤ 9223372036854775807 then (some ((strOfNums t138) ++ (a0.extract (t133 : Int).toNat a0.size))) else (none)))) else (none)) else (none)) else (none)) = some r := by first | (rw [hji8] at H; exact H) | (simp only [hji8] at H ⊢; exact H)
    (try rw [hji8] at A4)
    (try rw [hji8] at A7)
    (try (have hji8l : 1 ≤ ji8 := by (rw [← hji8]; unfold mx; (repeat' split) <;> omega)))
    (try (have hji8m : 0 ≤ ji8 := by omega))
    have hji8_ : (if a2_1 < 1 then 1 else a2_1) = ji8 := hji8
    obtain ⟨ji9, hji9⟩ : ∃ j_ : Int, (mx a1 (-9999)) = j_ := ⟨_, rfl⟩
    replace H : (if 0 ≤ t133 then (if t133 ≤ (a0.size : Int) then (if (a0.extract 0 (t133 : Int).toNat).size ≤ 9223372036854775807 then ((glyph_Wide.f k (bytesOf (a0.extract 0 (t133 : Int).toNat)) 0 (ji8)).bind fun t137 => ((glyph_Fill.f k 0 (mx (wrap64 (t137 + (wrap64 ((mn (ji9) 9999) * a2_2)))) 0) (ji8) a2_3).bind fun t138 => (if (strOfNums t138).size + (a0.extract (t133 : Int).toNat a0.size).size ≤ 9223372036854775807 then (some ((strOfNums t138) ++ (a0.extract (t133 : Int).toNat a0.size))) else (none)))) else (none)) else (none)) else (none)) = some r := by first | (rw [hji9] at H; exact H) | (simp only [hji9] at H ⊢; exact H)
    (try rw [hji9] at A4)
    (try rw [hji9] at A7)
    have hji9_ : (if a1 < (-9999) then (-9999) else a1) = ji9 := hji9
    obtain ⟨ji10, hji10⟩ : ∃ j_ : Int, (mn (ji9) 9999) = j_ := ⟨_, rfl⟩
    replace H : (if 0 ≤ t133 then (if t133 ≤ (a0.size : Int) then (if (a0.extract 0 (t133 : Int).toNat).size ≤ 9223372036854775807 then ((glyph_Wide.f k (bytesOf (a0.extract 0 (t133 : Int).toNat)) 0 (ji8)).bind fun t137 => ((glyph_Fill.f k 0 (mx (wrap64 (t137 + (wrap64 ((ji10) * a2_2)))) 0) (ji8) a2_3).bind fun t138 => (if (strOfNums t138).size + (a0.extract (t133 : Int).toNat a0.size).size ≤ 9223372036854775807 then (some ((strOfNums t138) ++ (a0.extract (t133 : Int).toNat a0.size))) else (none)))) else (none)) else (none)) else (none)) = some r := by first | (rw [hji10] at H; exact H) | (simp only [hji10] at H ⊢; exact H)
    (try rw [hji10] at A4)
    (try rw [hji10] at A7)
    have hji10_ : (if 9999 < (ji9) then 9999 else (ji9)) = ji10 := hji10
    by_cases c11 : 0 ≤ t133
    · rw [if_pos c11] at H
      have c11b0 := eq_true c11
      have c11b1 : decide (0 ≤ t133) = true := decide_eq_true c11
      clear c11
      by_cases c12 : t133 ≤ (a0.size : Int)
      · rw [if_pos c12] at H
        have c12b0 := eq_true c12
        have c12b1 : decide (t133 ≤ (a0.size : Int)) = true := decide_eq_true c12
        clear c12
        by_cases c13 : (a0.extract 0 (t133 : Int).toNat).size ≤ 9223372036854775807
        · rw [if_pos c13] at H
          have c13b0 := eq_true c13
          have c13b1 : decide ((a0.extract 0 (t133 : Int).toNat).size ≤ 9223372036854775807) = true := decide_eq_true c13
          try have c13b2 : (9223372036854775807 < (a0.extract 0 (t133 : Int).toNat).size) = False := eq_false (Nat.not_lt.2 c13)
          try (have c13b3 := c13; simp only [ByteArray.size_extract, Nat.min_self] at c13b3; replace c13b3 := eq_false (Nat.not_lt.2 c13b3))
          clear c13
          obtain ⟨y134, hy134⟩ : ∃ y_ : List Int, y_ = (bytesOf (a0.extract 0 (t133 : Int).toNat)) := ⟨_, rfl⟩
          replace H : ((glyph_Wide.f k y134 0 (ji8)).bind fun t137 => ((glyph_Fill.f k 0 (mx (wrap64 (t137 + (wrap64 ((ji10) * a2_2)))) 0) (ji8) a2_3).bind fun t138 => (if (strOfNums t138).size + (a0.extract (t133 : Int).toNat a0.size).size ≤ 9223372036854775807 then (some ((strOfNums t138) ++ (a0.extract (t133 : Int).toNat a0.size))) else (none)))) = some r := by first | (rw [hy134]; with_reducible exact H) | (have H2_ := (Option.bind_some _ _).symm.trans H; rw [hy134]; with_reducible exact H2_) | (have H2_ := (Option.bind_some _ _).symm.trans H; with_reducible exact H2_) | with_reducible exact H | (rw [hy134]; exact H) | exact H
          have Ny134 := Aside0.mk hy134
          clear hy134
          replace H := Option.bind_eq_some_iff.mp H
          obtain ⟨t137, A140, H⟩ := H
          replace H : ((glyph_Fill.f k 0 (mx (wrap64 (t137 + (wrap64 ((ji10) * a2_2)))) 0) (ji8) a2_3).bind fun t138 => (if (strOfNums t138).size + (a0.extract (t133 : Int).toNat a0.size).size ≤ 9223372036854775807 then (some ((strOfNums t138) ++ (a0.extract (t133 : Int).toNat a0.size))) else (none))) = some r := H
          have A14 := Aside0.mk A140
          clear A140
          obtain ⟨ji15, hji15⟩ : ∃ j_ : Int, (mx (wrap64 (t137 + (wrap64 ((ji10) * a2_2)))) 0) = j_ := ⟨_, rfl⟩
          replace H : ((glyph_Fill.f k 0 (ji15) (ji8) a2_3).bind fun t138 => (if (strOfNums t138).size + (a0.extract (t133 : Int).toNat a0.size).size ≤ 9223372036854775807 then (some ((strOfNums t138) ++ (a0.extract (t133 : Int).toNat a0.size))) else (none))) = some r := by first | (rw [hji15] at H; exact H) | (simp only [hji15] at H ⊢; exact H)
          (try rw [hji15] at A4)
          (try rw [hji15] at A7)
          (try rw [hji15] at A14)
          have hji15_ : (if (wrap64 (t137 + (wrap64 ((ji10) * a2_2)))) < 0 then 0 else (wrap64 (t137 + (wrap64 ((ji10) * a2_2))))) = ji15 := hji15
          replace H := Option.bind_eq_some_iff.mp H
          obtain ⟨t138, A160, H⟩ := H
          replace H : (if (strOfNums t138).size + (a0.extract (t133 : Int).toNat a0.size).size ≤ 9223372036854775807 then (some ((strOfNums t138) ++ (a0.extract (t133 : Int).toNat a0.size))) else (none)) = some r := H
          have A16 := Aside0.mk A160
          clear A160
          have c17b0 := eq_true (of_decide_eq_true (by first | (with_reducible assumption) | assumption) : 0 ≤ t133)
          have c18b0 := eq_true (of_decide_eq_true (by first | (with_reducible assumption) | assumption) : t133 ≤ (a0.size : Int))
          by_cases c19 : (strOfNums t138).size + (a0.extract (t133 : Int).toNat a0.size).size ≤ 9223372036854775807
          · rw [if_pos c19] at H
            have c19b0 := eq_true c19
            have c19b1 : decide ((strOfNums t138).size + (a0.extract (t133 : Int).toNat a0.size).size ≤ 9223372036854775807) = true := decide_eq_true c19
            try have c19b2 : (9223372036854775807 < (strOfNums t138).size + (a0.extract (t133 : Int).toNat a0.size).size) = False := eq_false (Nat.not_lt.2 c19)
            try (have c19b3 := c19; simp only [ByteArray.size_extract, Nat.min_self] at c19b3; replace c19b3 := eq_false (Nat.not_lt.2 c19b3))
            obtain rfl := Option.some.inj H
            go_enter Tryd.func12, Tryd.ntmps12
            try go_wp2_with (first | ((with_reducible refine gate_dst (N := 5) rfl ?_); refine box_event ?hg (N := 5) ?hd (cs := #[.int .i64 a2_0, .int .i64 a2_1, .int .i64 a2_2, .bool a2_3, .bool a2_4]) (t := 24) ?hr ?_; (case hd => rfl); (case hg => rfl); (case hr => first | (go_simp; done) | (go_simp; rfl)); intro gb131 hg w20 hbox hb; have n0_ := Aside0.mk (below_step (by repeat (first | (with_reducible first | exact HB.out | apply below_alloc | apply pw_below_drewN | apply below_drew1) | exact HB.out)) hb); have n1_ := Aside0.mk (hbox); have n2_ := Aside0.mk ((by rw [hg]; exact (below_size (by repeat (first | (with_reducible first | exact HB.out | apply below_alloc | apply pw_below_drewN | apply below_drew1) | exact HB.out))) : w.heap.size ≤ gb131)); have n3_ := Aside0.mk ((by rw [hg]; exact (below_size (by repeat (first | (with_reducible first | exact HB.out | apply below_alloc | apply pw_below_drewN | apply below_drew1) | exact HB.out))) : w.heap.size ≤ gb131)); clear HB; have HB := n0_; have BK131 := n1_; have GW131 := n2_; have GE131 := n3_; clear n0_ n1_ n2_ n3_; clear hb hbox hg) | ((with_reducible refine gate_callee (f := 26) rfl ?_); refine goesL_ (some 11) rfl rfl Tryd.func26 (by kernel_rfl) rfl #[.string a0] rfl (by (try simp only [List.map_toArray, List.map_cons, List.map_nil]); first | done | rfl | (simp only [List.length_drop, List.length_take]; rfl)) ?_; (with_reducible refine (lines_Bare.calls k a0 false _ A4.out).mono ?_); rintro e w' ⟨rfl, ⟨nd, rfl⟩⟩; refine ⟨_, rfl, ?_⟩) | ((with_reducible refine gate_callee (f := 27) rfl ?_); refine goesL_ (some 14) rfl rfl Tryd.func27 (by kernel_rfl) rfl #[.string a0] rfl (by (try simp only [List.map_toArray, List.map_cons, List.map_nil]); first | done | rfl | (simp only [List.length_drop, List.length_take]; rfl)) ?_; (with_reducible refine (lines_Indent.calls k a0 t133 _ A7.out).mono ?_); rintro e w' ⟨rfl, ⟨nd, rfl⟩⟩; refine ⟨_, rfl, ?_⟩; have hcz21_0 : w20.cell? ⟨gb131, 0, none⟩ = some (.int .i64 a2_0) := (blk_cell BK131.out 0).trans rfl; have hcz21_1 : w20.cell? ⟨gb131, 1, none⟩ = some (.int .i64 a2_1) := (blk_cell BK131.out 1).trans rfl; have hcz21_2 : w20.cell? ⟨gb131, 2, none⟩ = some (.int .i64 a2_2) := (blk_cell BK131.out 2).trans rfl; have hcz21_3 : w20.cell? ⟨gb131, 3, none⟩ = some (.bool a2_3) := (blk_cell BK131.out 3).trans rfl; have hcz21_4 : w20.cell? ⟨gb131, 4, none⟩ = some (.bool a2_4) := (blk_cell BK131.out 4).trans rfl; have hfz21_0 := blk_frozen BK131.out 0; have hfz21_1 := blk_frozen BK131.out 1; have hfz21_2 := blk_frozen BK131.out 2; have hfz21_3 := blk_frozen BK131.out 3; have hfz21_4 := blk_frozen BK131.out 4))
            (try (rw [drewN_self w20]; generalize hq_ : World.drewN w20 _ = w20; have n0_ : Aside0 (w20.heap[gb131]? = some (.cells #[.int .i64 a2_0, .int .i64 a2_1, .int .i64 a2_2, .bool a2_3, .bool a2_4] 24 (0, 0))) := ⟨by rw [← hq_]; exact (by (with_reducible repeat (first | refine blk_drewN ?_ _ | refine blk_drew ?_ | refine blk_alloc ?_ _)); exact BK131.out)⟩; have n1_ : Aside0 (Below w.heap.size w w20) := ⟨by rw [← hq_]; exact (by repeat (first | (with_reducible first | exact HB.out | apply below_alloc | apply pw_below_drewN | apply below_drew1 | refine below_set ?_ GE131.out) | exact HB.out))⟩; clear BK131 HB hq_; have BK131 := n0_; have HB := n1_; clear n0_ n1_))
            have n0_ := Aside0.mk (blk_drew BK131.out)
            have n1_ := Aside0.mk (below_drew1 HB.out)
            clear BK131
            clear HB
            have BK131 := n0_
            have HB := n1_
            clear n0_ n1_
            refine start_ (n := 13) (S := fun w' => w'.cell? ⟨gb131, 0, none⟩ = some (.int .i64 a2_0) ∧ w'.cell? ⟨gb131, 1, none⟩ = some (.int .i64 a2_1) ∧ w'.cell? ⟨gb131, 2, none⟩ = some (.int .i64 a2_2) ∧ w'.cell? ⟨gb131, 3, none⟩ = some (.bool a2_3) ∧ w'.cell? ⟨gb131, 4, none⟩ = some (.bool a2_4)) (ds := []) #[false, false, false, false, false, false, false, false, false, false, false, false, false] (by kernel_rfl) rfl rfl ⟨(blk_cell BK131.out 0).trans rfl, (blk_cell BK131.out 1).trans rfl, (blk_cell BK131.out 2).trans rfl, (blk_cell BK131.out 3).trans rfl, (blk_cell BK131.out 4).trans rfl⟩ (fun hHeld => ?_); refine with_tabW shift_Line.tab6 shift_Line.bits6 (fun HT_ HW_ => ?_)
            generalize w20.drew = w22 at BK131 HB hHeld ⊢
            refine pure_ (i := 0) (N := some 21) (v := ?_) (a' := ?_) #[true, false, false, false, false, false, false, false, false, false, false, false, false] rfl rfl (any_of HT_.out (by kernel_rfl)) (fun _ _ _ h => h) (Or.inl ⟨by rfl, ?_⟩) ?_ ?_
            rotate_left
            · intro w'
              go_simp
              with_reducible rfl
            rotate_left
            · simp only [Act.put, List.setIfInBounds_toArray, List.set_cons_zero, List.set_cons_succ, i64_w, i32_w]
              rfl
            refine pure_ (i := 1) (N := some 22) (v := ?_) (a' := ?_) #[true, true, false, false, false, false, false, false, false, false, false, false, false] rfl rfl (any_of HT_.out (by kernel_rfl)) (fun _ _ _ h => h) (Or.inl ⟨by rfl, ?_⟩) ?_ ?_
            rotate_left
            · intro w'
              go_simp
              with_reducible rfl
            rotate_left
            · simp only [Act.put, List.setIfInBounds_toArray, List.set_cons_zero, List.set_cons_succ, i64_w, i32_w]
              rfl
            refine pure_ (i := 2) (N := some 23) (v := ?_) (a' := ?_) #[true, true, true, false, false, false, false, false, false, false, false, false, false] rfl rfl (any_of HT_.out (by kernel_rfl)) (fun _ _ _ h => h) (Or.inl ⟨by rfl, ?_⟩) ?_ ?_
            rotate_left
            · intro w'
              go_simp
              with_reducible rfl
            rotate_left
            · simp only [Act.put, List.setIfInBounds_toArray, List.set_cons_zero, List.set_cons_succ, i64_w, i32_w]
              rfl
            refine pure_ (i := 4) (N := some 25) (v := ?_) (a' := ?_) #[true, true, true, false, true, false, false, false, false, false, false, false, false] rfl rfl (any_of HT_.out (by kernel_rfl)) (fun _ _ _ h => h) (Or.inl ⟨by rfl, ?_⟩) ?_ ?_
            rotate_left
            · intro w'
              go_simp
              with_reducible rfl
            rotate_left
            · simp only [Act.put, List.setIfInBounds_toArray, List.set_cons_zero, List.set_cons_succ, i64_w, i32_w]
              rfl
            refine pure_ (i := 6) (N := some 27) (v := ?_) (a' := ?_) #[true, true, true, false, true, false, true, false, false, false, false, false, false] rfl rfl (any_of HT_.out (by kernel_rfl)) (fun _ _ _ h => h) (Or.inl ⟨by rfl, ?_⟩) ?_ ?_
            rotate_left
            · intro w'
              go_simp
              with_reducible rfl
            rotate_left
            · simp only [Act.put, List.setIfInBounds_toArray, List.set_cons_zero, List.set_cons_succ, i64_w, i32_w]
              rfl
            refine pure_ (i := 7) (N := some 28) (v := ?_) (a' := ?_) #[true, true, true, false, true, false, true, true, false, false, false, false, false] rfl rfl (any_of HT_.out (by kernel_rfl)) (fun _ _ _ h => h) (Or.inl ⟨by rfl, ?_⟩) ?_ ?_
            rotate_left
            · intro w'
              go_simp
              with_reducible rfl
            rotate_left
            · simp only [Act.put, List.setIfInBounds_toArray, List.set_cons_zero, List.set_cons_succ, i64_w, i32_w]
              rfl
            refine take_ (i := 8) (N := some 29) (v := ?_) (a' := ?_) #[true, true, true, false, true, false, true, true, true, false, false, false, false] rfl rfl (take_ofW HT_.out HW_.out (by kernel_rfl)) (fun _ _ _ h => h) (Or.inl ⟨by rfl, ?_⟩) hHeld ?_ ?_
            rotate_left
            · rintro w' ⟨s0, s1, s2, s3, s4⟩
              go_simp
              with_reducible rfl
            rotate_left
            · simp only [Act.put, List.setIfInBounds_toArray, List.set_cons_zero, List.set_cons_succ, i64_w, i32_w]
              rfl
            refine pure_ (i := 9) (N := some 30) (v := ?_) (a' := ?_) #[true, true, true, false, true, false, true, true, true, true, false, false, false] rfl rfl (any_of HT_.out (by kernel_rfl)) (fun _ _ _ h => h) (Or.inl ⟨by rfl, ?_⟩) ?_ ?_
            rotate_left
            · intro w'
              go_simp
              with_reducible rfl
            rotate_left
            · simp only [Act.put, List.setIfInBounds_toArray, List.set_cons_zero, List.set_cons_succ, i64_w, i32_w]
              rfl
            refine one_ (i := 3) (N := some 24) #[true, true, true, true, true, false, true, true, true, true, false, false, false] rfl rfl (one_of HT_.out (by kernel_rfl)) (by decide) (fun K hK => ?_)
            refine V_conv_step 9 27 5 ?hg (N := 24) ?hd (.tmp 23) ?ho Tryd.underlying9 Tryd.underlying27 Tryd.underlying5 (a0.extract 0 (t133 : Int).toNat) ?hx (of_decide_eq_true (by first | (with_reducible assumption) | assumption)) ?_; (case hd => rfl); (case hg => rfl); (case ho => rfl); (case hx => first | rfl | (go_simp; done) | (go_simp; rfl))
            intro v135 w23 ho24 hb hg_ hnew_
            clear hg_ hnew_
            (first | rw [← Ny134.out] at ho24 | (simp only [Int.reduceToNat] at ho24; rw [← Ny134.out] at ho24))
            have n0_ := Aside0.mk (Kd.V_lower (Kd.V_mono (ok' := fun k_ => k_ ≠ gb131) ho24 (fun k_ hk_ => (Kd.freshB (g := gb131) (o := .cells #[.int .i64 a2_0, .int .i64 a2_1, .int .i64 a2_2, .bool a2_3, .bool a2_4] 24 (0, 0)) (by (with_reducible repeat (first | refine blk_drewN ?_ _ | refine blk_drew ?_ | refine blk_alloc ?_ _)); exact BK131.out) k_ hk_))) (below_size (by repeat (first | (with_reducible first | exact HB.out | apply below_alloc | apply pw_below_drewN | apply below_drew1 | refine below_set ?_ GE131.out) | exact HB.out))))
            have n1_ := Aside0.mk (blk_below (g := gb131) (o := .cells #[.int .i64 a2_0, .int .i64 a2_1, .int .i64 a2_2, .bool a2_3, .bool a2_4] 24 (0, 0)) (by (with_reducible repeat (first | refine blk_drewN ?_ _ | refine blk_drew ?_ | refine blk_alloc ?_ _)); exact BK131.out) hb)
            have n2_ := Aside0.mk (below_step (by repeat (first | (with_reducible first | exact HB.out | apply below_alloc | apply pw_below_drewN | apply below_drew1 | refine below_set ?_ GE131.out) | exact HB.out)) hb)
            clear BK131
            clear HB
            have HO136 := n0_
            have BK131 := n1_
            have HB := n2_
            clear n0_ n1_ n2_
            clear hb ho24
            obtain ⟨Ao25, co25, eo25⟩ := Kd.V_slice HO136.out
            (first | subst eo25 | (injection eo25 with f1_ f2_ f3_; have f4_ := f1_.symm; have f5_ := f3_.symm; clear f1_ f2_ f3_; subst f4_; subst f5_))
            refine hK.out _ _ ⟨(blk_cell BK131.out 0).trans rfl, (blk_cell BK131.out 1).trans rfl, (blk_cell BK131.out 2).trans rfl, (blk_cell BK131.out 3).trans rfl, (blk_cell BK131.out 4).trans rfl⟩ (fun hHeld => ?_)
            clear hK K
            refine norm_ (a' := ?_) ?_ ?_
            rotate_left
            · show Act.put _ (some 24) _ = _
              simp only [Act.put, List.setIfInBounds_toArray, List.set_cons_zero, List.set_cons_succ, i64_w, i32_w]
              rfl
            refine one_ (i := 5) (N := some 26) #[true, true, true, true, true, true, true, true, true, true, false, false, false] rfl rfl (one_of HT_.out (by kernel_rfl)) (by decide) (fun K hK => ?_)
            refine goes_ Tryd.func28 (by kernel_rfl) rfl #[.slice Ao25 y134.length co25, .int .i64 0, .int .i64 ji8] (by rfl) rfl rfl (by (try simp only [List.map_toArray, List.map_cons, List.map_nil]); first | done | (simp only [hji8]; rfl) | rfl | (simp only [List.length_drop, List.length_take]; rfl)) ?_
            with_reducible refine (glyph_Wide.calls k _ _ y134 0 ji8 t137 _ ?side3 ?side1 ?side2 A14.out).mono ?_
            (case side1 => repeat (first | exact (Kd.V_reads' HO136.out).2.2 | (with_reducible refine Kd.C_alloc ?_ _) | (with_reducible refine Kd.C_drewN ?_ _) | (with_reducible refine Kd.C_drew ?_)))
            (case side2 => exact (Kd.V_reads' HO136.out).2.1)
            (case side3 => exact Tabs.below HT.out (by repeat (first | (with_reducible first | exact HB.out | apply below_alloc | apply pw_below_drewN | apply below_drew1 | refine below_set ?_ GE131.out) | exact HB.out)))
            rintro e w26 ⟨rfl, hb⟩
            refine ⟨_, rfl, ?_⟩
            have n0_ := Aside0.mk (Kd.V_below (by (with_reducible repeat (first | apply Kd.V_alloc | apply Kd.V_drewN | apply Kd.V_drew)); exact HO136.out) hb)
            have n1_ := Aside0.mk (blk_below (g := gb131) (o := .cells #[.int .i64 a2_0, .int .i64 a2_1, .int .i64 a2_2, .bool a2_3, .bool a2_4] 24 (0, 0)) (by (with_reducible repeat (first | refine blk_drewN ?_ _ | refine blk_drew ?_ | refine blk_alloc ?_ _)); exact BK131.out) hb)
            have n2_ := Aside0.mk (below_step (by repeat (first | (with_reducible first | exact HB.out | apply below_alloc | apply pw_below_drewN | apply below_drew1 | refine below_set ?_ GE131.out) | exact HB.out)) hb)
            clear HO136
            clear BK131
            clear HB
            have HO136 := n0_
            have BK131 := n1_
            have HB := n2_
            clear n0_ n1_ n2_
            (try clear hb)
            (try clear hb2)
            (try clear hk)
            (try clear hi)
            refine hK.out _ _ ⟨(blk_cell BK131.out 0).trans rfl, (blk_cell BK131.out 1).trans rfl, (blk_cell BK131.out 2).trans rfl, (blk_cell BK131.out 3).trans rfl, (blk_cell BK131.out 4).trans rfl⟩ (fun hHeld => ?_)
            clear hK K
            refine norm_ (a' := ?_) ?_ ?_
            rotate_left
            · show Act.put _ (some 26) _ = _
              simp only [Act.put, List.setIfInBounds_toArray, List.set_cons_zero, List.set_cons_succ, i64_w, i32_w]
              rfl
            refine pure_ (i := 10) (N := some 31) (v := ?_) (a' := ?_) #[true, true, true, true, true, true, true, true, true, true, true, false, false] rfl rfl (any_of HT_.out (by kernel_rfl)) (fun _ _ _ h => h) (Or.inl ⟨by rfl, ?_⟩) ?_ ?_
            rotate_left
            · intro w'
              go_simp
              with_reducible rfl
            rotate_left
            · simp only [Act.put, List.setIfInBounds_toArray, List.set_cons_zero, List.set_cons_succ, i64_w, i32_w]
              rfl
            refine pure_ (i := 11) (N := some 32) (v := ?_) (a' := ?_) #[true, true, true, true, true, true, true, true, true, true, true, true, false] rfl rfl (any_of HT_.out (by kernel_rfl)) (fun _ _ _ h => h) (Or.inl ⟨by rfl, ?_⟩) ?_ ?_
            rotate_left
            · intro w'
              go_simp
              with_reducible rfl
            rotate_left
            · simp only [Act.put, List.setIfInBounds_toArray, List.set_cons_zero, List.set_cons_succ, i64_w, i32_w]
              rfl
            refine pure_ (i := 12) (N := some 9) (v := ?_) (a' := ?_) #[true, true, true, true, true, true, true, true, true, true, true, true, true] rfl rfl (any_of HT_.out (by kernel_rfl)) (fun _ _ _ h => h) (Or.inl ⟨by rfl, ?_⟩) ?_ ?_
            rotate_left
            · intro w'
              go_simp
              with_reducible rfl
            rotate_left
            · simp only [Act.put, List.setIfInBounds_toArray, List.set_cons_zero, List.set_cons_succ, i64_w, i32_w]
              rfl
            refine done_ (done_of HT_.out (by kernel_rfl)) ?_
            try go_wp2
            have n0_ := Aside0.mk (Kd.V_drew HO136.out)
            have n1_ := Aside0.mk (blk_drew BK131.out)
            have n2_ := Aside0.mk (below_drew1 HB.out)
            clear HO136
            clear BK131
            clear HB
            have HO136 := n0_
            have BK131 := n1_
            have HB := n2_
            clear n0_ n1_ n2_
            refine start_ (n := 11) (S := fun w' => w'.cell? ⟨gb131, 0, none⟩ = some (.int .i64 a2_0) ∧ w'.cell? ⟨gb131, 1, none⟩ = some (.int .i64 a2_1) ∧ w'.cell? ⟨gb131, 2, none⟩ = some (.int .i64 a2_2) ∧ w'.cell? ⟨gb131, 3, none⟩ = some (.bool a2_3) ∧ w'.cell? ⟨gb131, 4, none⟩ = some (.bool a2_4)) (ds := []) #[false, false, false, false, false, false, false, false, false, false, false] (by kernel_rfl) rfl rfl ⟨(blk_cell BK131.out 0).trans rfl, (blk_cell BK131.out 1).trans rfl, (blk_cell BK131.out 2).trans rfl, (blk_cell BK131.out 3).trans rfl, (blk_cell BK131.out 4).trans rfl⟩ (fun hHeld => ?_); refine with_tabW shift_Line.tab7 shift_Line.bits7 (fun HT_ HW_ => ?_)
            generalize w26.drew = w27 at HO136 BK131 HB hHeld ⊢
            refine pure_ (i := 0) (N := some 33) (v := ?_) (a' := ?_) #[true, false, false, false, false, false, false, false, false, false, false] rfl rfl (any_of HT_.out (by kernel_rfl)) (fun _ _ _ h => h) (Or.inl ⟨by rfl, ?_⟩) ?_ ?_
            rotate_left
            · intro w'
              go_simp
              with_reducible rfl
            rotate_left
            · simp only [Act.put, List.setIfInBounds_toArray, List.set_cons_zero, List.set_cons_succ, i64_w, i32_w]
              rfl
            refine pure_ (i := 1) (N := some 34) (v := ?_) (a' := ?_) #[true, true, false, false, false, false, false, false, false, false, false] rfl rfl (any_of HT_.out (by kernel_rfl)) (fun _ _ _ h => h) (Or.inl ⟨by rfl, ?_⟩) ?_ ?_
            rotate_left
            · intro w'
              go_simp
              with_reducible rfl
            rotate_left
            · simp only [Act.put, List.setIfInBounds_toArray, List.set_cons_zero, List.set_cons_succ, i64_w, i32_w]
              rfl
            refine pure_ (i := 2) (N := some 35) (v := ?_) (a' := ?_) #[true, true, true, false, false, false, false, false, false, false, false] rfl rfl (any_of HT_.out (by kernel_rfl)) (fun _ _ _ h => h) (Or.inl ⟨by rfl, ?_⟩) ?_ ?_
            rotate_left
            · intro w'
              go_simp
              with_reducible rfl
            rotate_left
            · simp only [Act.put, List.setIfInBounds_toArray, List.set_cons_zero, List.set_cons_succ, i64_w, i32_w]
              rfl
            refine pure_ (i := 6) (N := some 39) (v := ?_) (a' := ?_) #[true, true, true, false, false, false, true, false, false, false, false] rfl rfl (any_of HT_.out (by kernel_rfl)) (fun _ _ _ h => h) (Or.inl ⟨by rfl, ?_⟩) ?_ ?_
            rotate_left
            · intro w'
              go_simp
              with_reducible rfl
            rotate_left
            · simp only [Act.put, List.setIfInBounds_toArray, List.set_cons_zero, List.set_cons_succ, i64_w, i32_w]
              rfl
            refine pure_ (i := 7) (N := some 40) (v := ?_) (a' := ?_) #[true, true, true, false, false, false, true, true, false, false, false] rfl rfl (any_of HT_.out (by kernel_rfl)) (fun _ _ _ h => h) (Or.inl ⟨by rfl, ?_⟩) ?_ ?_
            rotate_left
            · intro w'
              go_simp
              with_reducible rfl
            rotate_left
            · simp only [Act.put, List.setIfInBounds_toArray, List.set_cons_zero, List.set_cons_succ, i64_w, i32_w]
              rfl
            refine pure_ (i := 8) (N := some 41) (v := ?_) (a' := ?_) #[true, true, true, false, false, false, true, true, true, false, false] rfl rfl (any_of HT_.out (by kernel_rfl)) (fun _ _ _ h => h) (Or.inl ⟨by rfl, ?_⟩) ?_ ?_
            rotate_left
            · intro w'
              go_simp
              with_reducible rfl
            rotate_left
            · simp only [Act.put, List.setIfInBounds_toArray, List.set_cons_zero, List.set_cons_succ, i64_w, i32_w]
              rfl
            refine take_ (i := 3) (N := some 36) (v := ?_) (a' := ?_) #[true, true, true, true, false, false, true, true, true, false, false] rfl rfl (take_ofW HT_.out HW_.out (by kernel_rfl)) (fun _ _ _ h => h) (Or.inl ⟨by rfl, ?_⟩) hHeld ?_ ?_
            rotate_left
            · rintro w' ⟨s0, s1, s2, s3, s4⟩
              go_simp
              with_reducible rfl
            rotate_left
            · simp only [Act.put, List.setIfInBounds_toArray, List.set_cons_zero, List.set_cons_succ, i64_w, i32_w]
              rfl
            refine one_ (i := 4) (N := some 37) #[true, true, true, true, true, false, true, true, true, false, false] rfl rfl (one_of HT_.out (by kernel_rfl)) (by decide) (fun K hK => ?_)
            refine goes_ Tryd.func29 (by kernel_rfl) rfl #[.int .i64 0, .int .i64 ji15, .int .i64 ji8, .bool a2_3] (by rfl) rfl rfl (by (try simp only [List.map_toArray, List.map_cons, List.map_nil]); first | done | (simp only [hji15, hji8]; rfl) | rfl | (simp only [List.length_drop, List.length_take]; rfl)) ?_
            with_reducible refine (glyph_Fill.calls k 0 ji15 ji8 a2_3 t138 _ A16.out).mono ?_
            rintro e w28 ⟨v139, rfl, ho0, hb⟩
            refine ⟨_, rfl, ?_⟩
            have n0_ := Aside0.mk (Kd.V_elder' (by (with_reducible repeat (first | apply Kd.V_alloc | apply Kd.V_drewN | apply Kd.V_drew)); exact HO136.out) (Kd.R_base ho0) hb)
            have n1_ := Aside0.mk (Kd.R_lower ho0 (below_size (by repeat (first | (with_reducible first | exact HB.out | apply below_alloc | apply pw_below_drewN | apply below_drew1 | refine below_set ?_ GE131.out) | exact HB.out))))
            have n2_ := Aside0.mk (blk_below (g := gb131) (o := .cells #[.int .i64 a2_0, .int .i64 a2_1, .int .i64 a2_2, .bool a2_3, .bool a2_4] 24 (0, 0)) (by (with_reducible repeat (first | refine blk_drewN ?_ _ | refine blk_drew ?_ | refine blk_alloc ?_ _)); exact BK131.out) hb)
            have n3_ := Aside0.mk (below_step (by repeat (first | (with_reducible first | exact HB.out | apply below_alloc | apply pw_below_drewN | apply below_drew1 | refine below_set ?_ GE131.out) | exact HB.out)) hb)
            clear HO136
            clear BK131
            clear HB
            have HO136 := n0_
            have HO140 := n1_
            have BK131 := n2_
            have HB := n3_
            clear n0_ n1_ n2_ n3_
            (try clear hb)
            (try clear hb2)
            (try clear hk)
            (try clear hi)
            (try clear ho0)
            refine hK.out _ _ ⟨(blk_cell BK131.out 0).trans rfl, (blk_cell BK131.out 1).trans rfl, (blk_cell BK131.out 2).trans rfl, (blk_cell BK131.out 3).trans rfl, (blk_cell BK131.out 4).trans rfl⟩ (fun hHeld => ?_)
            clear hK K
            refine norm_ (a' := ?_) ?_ ?_
            rotate_left
            · show Act.put _ (some 37) _ = _
              simp only [Act.put, List.setIfInBounds_toArray, List.set_cons_zero, List.set_cons_succ, i64_w, i32_w]
              rfl
            refine one_ (i := 5) (N := some 38) #[true, true, true, true, true, true, true, true, true, false, false] rfl rfl (one_of HT_.out (by kernel_rfl)) (by decide) (fun K hK => ?_)
            have hcv29 := own_string (P := Tryd.prog) Tryd.underlying27 Tryd.underlying5 Tryd.underlying9 (Kd.own_of_R HO140.out)
            refine value_ (w1 := ?_) (v := ?_) (by rfl) rfl ?_ ?_
            rotate_left 2
            · go_simp
              constructor
              · rfl
              · rfl
            clear hcv29
            refine hK.out _ _ ⟨(blk_cell BK131.out 0).trans rfl, (blk_cell BK131.out 1).trans rfl, (blk_cell BK131.out 2).trans rfl, (blk_cell BK131.out 3).trans rfl, (blk_cell BK131.out 4).trans rfl⟩ (fun hHeld => ?_)
            clear hK K
            refine norm_ (a' := ?_) ?_ ?_
            rotate_left
            · show Act.put _ (some 38) _ = _
              simp only [Act.put, List.setIfInBounds_toArray, List.set_cons_zero, List.set_cons_succ, i64_w, i32_w]
              rfl
            refine pure_ (i := 9) (N := some 42) (v := ?_) (a' := ?_) #[true, true, true, true, true, true, true, true, true, true, false] rfl rfl (any_of HT_.out (by kernel_rfl)) (fun _ _ _ h => h) (Or.inl ⟨by rfl, ?_⟩) ?_ ?_
            rotate_left
            · intro w'
              go_simp
              with_reducible rfl
            rotate_left
            · simp only [Act.put, List.setIfInBounds_toArray, List.set_cons_zero, List.set_cons_succ, i64_w, i32_w]
              rfl
            refine pure_ (i := 10) (N := some 6) (v := ?_) (a' := ?_) #[true, true, true, true, true, true, true, true, true, true, true] rfl rfl (any_of HT_.out (by kernel_rfl)) (fun _ _ _ h => h) (Or.inl ⟨by rfl, ?_⟩) ?_ ?_
            rotate_left
            · intro w'
              go_simp
              with_reducible rfl
            rotate_left
            · simp only [Act.put, List.setIfInBounds_toArray, List.set_cons_zero, List.set_cons_succ, i64_w, i32_w]
              rfl
            refine done_ (done_of HT_.out (by kernel_rfl)) ?_
            try go_wp2
            go_ret
            exact ⟨by first | rfl | (simp [errW_none, errW_some] <;> rfl) | (simp only [← hji8, ← hji9, ← hji10, ← hji15]; first | rfl | (simp [errW_none, errW_some] <;> rfl)) | (simp [*, errW_none, errW_some] <;> rfl), by repeat (first | (with_reducible first | exact HB.out | apply below_alloc | apply pw_below_drewN | apply below_drew1 | refine below_set ?_ GE131.out) | exact HB.out)⟩
          · rw [if_neg c19] at H
            exact absurd H (by simp)
        · rw [if_neg c13] at H
          exact absurd H (by simp)
      · rw [if_neg c12] at H
        exact absurd H (by simp)
    · rw [if_neg c11] at H
      exact absurd H (by simp)

end Go.Proofs.YtdaodcdbfaikjaaDoor.Pa
