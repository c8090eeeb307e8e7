/- What the document's size of a character computes. -/
import Derived.Test.YtkdecmgockgmkaaDoorGenBase
import Derived.Test.YtkdecmgockgmkaaDoorGenGlyph
import Derived.Test.YtkdecmgockgmkaaDoorPax5
namespace Go.Proofs.YtkdecmgockgmkaaDoor.Ad
open Go Go.RowKit Go.Proofs.YtkdecmgockgmkaaDoor.Pa Go.Proofs.YtkdecmgockgmkaaDoorW.PrintWords Go.Proofs.YtkdecmgockgmkaaDoorW.PrintLast Go.Proofs.YtkdecmgockgmkaaDoorW.PrintMore Go.Proofs.YtkdecmgockgmkaaDoor.Gen
set_option linter.unusedVariables false
set_option linter.unusedSimpArgs false

theorem ex_succ1 {k n : Nat} (h : n < k) : ∃ m, k = m + 1 := ⟨k - 1, by omega⟩
theorem need_cases (b : Int) : need b = 1 ∨ need b = 2 ∨ need b = 3 ∨ need b = 4 := by
  unfold need; (repeat' split) <;> omega
theorem gsz_eq (b : Int) (t : List Int) : gsz (b :: t) =
    if need b = 1 ∨ t.length + 1 < need b then 1 else if t.getD 0 0 < lo2 b ∨ hi2 b < t.getD 0 0 then 1
    else if 3 ≤ need b ∧ ¬ cont (t.getD 1 0) then 1 else if 4 ≤ need b ∧ ¬ cont (t.getD 2 0) then 1 else need b := by
  match t with
  | [] =>
    have : need b = 1 ∨ ([] : List Int).length + 1 < need b := by rcases need_cases b with h | h | h | h <;> simp [h]
    rw [if_pos this]; rfl
  | [c] =>
    simp only [gsz, List.length_cons, List.length_nil, List.getD_cons_zero, List.getD_cons_succ, List.getD_nil]
    rcases need_cases b with h | h | h | h <;> simp only [h] <;> simp (decide := true) only [true_and, false_and, if_false, if_true, or_self, or_true, true_or, false_or]
    (repeat' split) <;> omega
  | [c, d] =>
    simp only [gsz, List.length_cons, List.length_nil, List.getD_cons_zero, List.getD_cons_succ, List.getD_nil]
    rcases need_cases b with h | h | h | h <;> simp only [h] <;> simp (decide := true) only [true_and, false_and, if_false, if_true, or_self, or_true, true_or, false_or]
    · (repeat' split) <;> omega
    · unfold cont; (repeat' split) <;> omega
  | c :: d :: e :: t =>
    simp only [gsz, List.length_cons, List.length_nil, List.getD_cons_zero, List.getD_cons_succ, List.getD_nil]
    have e1 : ¬ (t.length + 1 + 1 + 1 + 1 < 2) := by omega
    have e2 : ¬ (t.length + 1 + 1 + 1 + 1 < 3) := by omega
    have e3 : ¬ (t.length + 1 + 1 + 1 + 1 < 4) := by omega
    rcases need_cases b with h | h | h | h <;> simp only [h, e1, e2, e3] <;> simp (decide := true) only [true_and, false_and, if_false, if_true, or_self, or_true, true_or, false_or]
    · (repeat' split) <;> omega
    · unfold cont; (repeat' split) <;> omega
    · unfold cont; (repeat' split) <;> omega

theorem getD_drop' (p : List Int) (i j : Nat) (h : i + j < p.length) : (p.drop i).getD j 0 = p[i + j] := by
  simp [List.getD_eq_getElem?_getD, h]

theorem size_j3 (p : List Int) (x1 b sz : Int) (k : Nat) : platenref01_Size.j3 (k + 1) p x1 b sz 128 191 = platenref01_Size.j4 k p x1 sz (lo2 b) (hi2 b) := by
  rw [platenref01_Size.j3]
  unfold lo2 hi2
  by_cases h1 : b = 224
  · subst h1; rfl
  · by_cases h2 : b = 237
    · subst h2; rfl
    · by_cases h3 : b = 240
      · subst h3; rfl
      · by_cases h4 : b = 244
        · subst h4; rfl
        · simp only [h1, h2, h3, h4, if_false]

theorem size_j4 (p : List Int) (i : Nat) (h : i < p.length) (hp : p.length ≤ 1000000000) (k : Nat) : platenref01_Size.j4 (k + 6) p (i : Int) (need p[i] : Int) (lo2 p[i]) (hi2 p[i]) = some (gsz (p.drop i) : Int) := by
  have hg := gsz_eq p[i] (p.drop (i + 1))
  rw [← drop_at p i h] at hg
  simp only [List.length_drop] at hg
  have hw0 : wrap64 ((p.length : Int) - (i : Int)) = (p.length : Int) - (i : Int) := wid (by omega) (by omega)
  have hw1 : wrap64 ((i : Int) + 1) = ((i + 1 : Nat) : Int) := wnat (by clear hw0; omega)
  have hw2 : wrap64 ((i : Int) + 2) = ((i + 2 : Nat) : Int) := by clear hw0 hw1; rw [show (i : Int) + 2 = ((i + 2 : Nat) : Int) by omega]; exact wid (by omega) (by omega)
  have hw3 : wrap64 ((i : Int) + 3) = ((i + 3 : Nat) : Int) := by clear hw0 hw1 hw2; rw [show (i : Int) + 3 = ((i + 3 : Nat) : Int) by omega]; exact wid (by omega) (by omega)
  have w23 : wrap64 (2 + 1) = 3 := by decide +kernel
  have w34 : wrap64 (3 + 1) = 4 := by decide +kernel
  rw [platenref01_Size.j4]
  rw [hw0, hw1]
  clear hw0 hw1
  by_cases h1 : need p[i] = 1
  · rw [h1, if_pos (by rfl)]
    rw [platenref01_Size.j5]
    rw [if_pos rfl, hg, if_pos (.inl h1)]; rfl
  · have hn := need_cases p[i]
    rw [if_neg (by omega)]
    by_cases h2 : p.length - (i + 1) + 1 < need p[i]
    · rw [if_pos (by omega)]
      rw [platenref01_Size.j5]
      rw [if_pos rfl, hg, if_pos (.inr h2)]; rfl
    · have l1 : i + 1 < p.length := by clear hw2 hw3 w23 w34 hg; omega
      have l2 : 3 ≤ need p[i] → i + 2 < p.length := by clear hw2 hw3 w23 w34 hg; omega
      have l3 : 4 ≤ need p[i] → i + 3 < p.length := by clear hw2 hw3 w23 w34 hg; omega
      rw [if_neg (by omega), if_pos (by omega), if_pos (by omega), rd_nat p (i + 1) l1]
      rw [if_neg (by omega), getD_drop' p (i + 1) 0 (by omega)] at hg
      simp only [Nat.add_zero] at hg
      by_cases h3 : p[i + 1] < lo2 p[i]
      · rw [if_pos h3]
        rw [platenref01_Size.j5]
        rw [if_pos rfl, hg, if_pos (.inl h3)]; rfl
      · rw [if_neg h3]
        by_cases h4 : hi2 p[i] < p[i + 1]
        · rw [decide_eq_true h4]
          rw [platenref01_Size.j5]
          rw [if_pos rfl, hg, if_pos (.inr h4)]; rfl
        · rw [decide_eq_false h4]
          rw [if_neg (by omega)] at hg
          rw [platenref01_Size.j5]
          rw [if_neg (by simp)]
          rw [platenref01_Size.l0]
          rcases hn with hn | hn | hn | hn
          · exact absurd hn h1
          · rw [hn, if_neg (by decide), hg, hn]; rfl
          · have l2 := l2 (by rw [hn]; omega)
            rw [hn, if_pos (by decide), hw2, if_pos (by omega), if_pos (by omega), rd_nat p (i + 2) l2, w23]
            rw [hn, getD_drop' p (i + 1) 1 (by omega)] at hg
            simp only [show i + 1 + 1 = i + 2 by omega] at hg
            clear hw2 hw3
            by_cases c1 : p[i + 2] < 128
            · rw [if_pos c1, hg, if_pos ⟨by omega, fun c => by unfold cont at c; omega⟩]; rfl
            · rw [if_neg c1]
              by_cases c2 : p[i + 2] > 191
              · rw [if_pos c2, hg, if_pos ⟨by omega, fun c => by unfold cont at c; omega⟩]; rfl
              · rw [if_neg c2]
                rw [platenref01_Size.l0]
                rw [if_neg (by decide), hg, if_neg (fun e => e.2 (by unfold cont; omega)), if_neg (by omega)]
          · have l2 := l2 (by rw [hn]; omega)
            have l3 := l3 (by rw [hn]; omega)
            rw [hn, if_pos (by decide), hw2, if_pos (by omega), if_pos (by omega), rd_nat p (i + 2) l2, w23]
            rw [hn, getD_drop' p (i + 1) 1 (by omega), getD_drop' p (i + 1) 2 (by omega)] at hg
            simp only [show i + 1 + 1 = i + 2 by omega, show i + 1 + 2 = i + 3 by omega] at hg
            clear hw2
            by_cases c1 : p[i + 2] < 128
            · rw [if_pos c1, hg, if_pos ⟨by omega, fun c => by unfold cont at c; omega⟩]; rfl
            · rw [if_neg c1]
              by_cases c2 : p[i + 2] > 191
              · rw [if_pos c2, hg, if_pos ⟨by omega, fun c => by unfold cont at c; omega⟩]; rfl
              · rw [if_neg c2]
                rw [platenref01_Size.l0]
                rw [if_pos (by decide), hw3, if_pos (by omega), if_pos (by omega), rd_nat p (i + 3) l3, w34]
                rw [if_neg (fun e => e.2 (by unfold cont; omega))] at hg
                clear hw3
                by_cases c3 : p[i + 3] < 128
                · rw [if_pos c3, hg, if_pos ⟨by omega, fun c => by unfold cont at c; omega⟩]; rfl
                · rw [if_neg c3]
                  by_cases c4 : p[i + 3] > 191
                  · rw [if_pos c4, hg, if_pos ⟨by omega, fun c => by unfold cont at c; omega⟩]; rfl
                  · rw [if_neg c4]
                    rw [platenref01_Size.l0]
                    rw [if_neg (by decide), hg, if_neg (fun e => e.2 (by unfold cont; omega))]

theorem platenref01_Size_spec (p : List Int) (i : Nat) (h : i < p.length) (hp : p.length ≤ 1000000000) (k : Nat) (hk : 12 < k) : platenref01_Size.f k p (i : Int) = some (gsz (p.drop i) : Int) := by
  obtain ⟨k, rfl⟩ : ∃ k', k = k' + 10 := ⟨k - 10, by omega⟩
  have h4 := size_j4 p i h hp
  unfold platenref01_Size.f
  rw [if_neg (by omega), decide_eq_false (by omega)]
  rw [platenref01_Size.j0]
  rw [if_neg (by simp), if_pos (by omega), if_pos (by omega), rd_nat p i h]
  generalize p[i] = b at *
  by_cases g1 : b ≥ 194 ∧ b ≤ 223
  · have hn : need b = 2 := by unfold need; rw [if_pos (by omega)]
    rw [if_pos g1.1, decide_eq_true g1.2]
    rw [platenref01_Size.j1]
    rw [if_pos rfl, size_j3]
    rw [hn] at h4
    exact h4 (k + 1)
  · have hj1 : (if b ≥ 194 then platenref01_Size.j1 (k + 9) p (i : Int) b 1 128 191 (decide (b ≤ 223)) else platenref01_Size.j1 (k + 9) p (i : Int) b 1 128 191 false) = platenref01_Size.j1 (k + 9) p (i : Int) b 1 128 191 false := by
      by_cases g : b ≥ 194
      · rw [if_pos g, decide_eq_false (by omega)]
      · rw [if_neg g]
    rw [hj1]
    rw [platenref01_Size.j1]
    rw [if_neg (by simp)]
    by_cases g2 : b ≥ 224 ∧ b ≤ 239
    · have hn : need b = 3 := by unfold need; rw [if_neg (by omega), if_pos (by omega)]
      rw [if_pos g2.1, decide_eq_true g2.2]
      rw [platenref01_Size.j2]
      rw [if_pos rfl, size_j3]
      rw [hn] at h4
      exact h4 k
    · have hj2 : (if b ≥ 224 then platenref01_Size.j2 (k + 8) p (i : Int) b 1 128 191 (decide (b ≤ 239)) else platenref01_Size.j2 (k + 8) p (i : Int) b 1 128 191 false) = platenref01_Size.j2 (k + 8) p (i : Int) b 1 128 191 false := by
        by_cases g : b ≥ 224
        · rw [if_pos g, decide_eq_false (by omega)]
        · rw [if_neg g]
      rw [hj2]
      rw [platenref01_Size.j2]
      rw [if_neg (by simp)]
      by_cases g3 : b ≥ 240 ∧ b ≤ 244
      · have hn : need b = 4 := by unfold need; rw [if_neg (by omega), if_neg (by omega), if_pos (by omega)]
        rw [if_pos g3.1, if_pos g3.2, size_j3]
        rw [hn] at h4
        exact h4 k
      · have hn : need b = 1 := by unfold need; rw [if_neg (by omega), if_neg (by omega), if_neg (by omega)]
        rw [hn] at h4
        by_cases g : b ≥ 240
        · rw [if_pos g, if_neg (by omega), size_j3]; exact h4 k
        · rw [if_neg g, size_j3]; exact h4 k

theorem platenref01_Size_out (p : List Int) (a : Int) (h : a < 0 ∨ a ≥ (p.length : Int)) (k : Nat) (hk : 0 < k) : platenref01_Size.f k p a = some 0 := by
  obtain ⟨k, rfl⟩ := ex_succ1 hk
  unfold platenref01_Size.f
  by_cases h1 : a < 0
  · rw [if_pos h1]; simp only [platenref01_Size.j0, if_true]
  · rw [if_neg h1, decide_eq_true (by omega)]; simp only [platenref01_Size.j0, if_true]

end Go.Proofs.YtkdecmgockgmkaaDoor.Ad
