/- What the document's test of two rows of pieces computes. -/
import Derived.Test.YtkdecmgockgmkaaDoorAdMk
import Derived.Test.YtkdecmgockgmkaaDoorGenBase
import Derived.Test.YtkdecmgockgmkaaDoorGenKeep
import Derived.Test.YtkdecmgockgmkaaDoorPax3
namespace Go.Proofs.YtkdecmgockgmkaaDoor.Ad
open Go Go.RowKit Go.Proofs.YtkdecmgockgmkaaDoor.Pa Go.Proofs.YtkdecmgockgmkaaDoorW.PrintWords Go.Proofs.YtkdecmgockgmkaaDoorW.PrintLast Go.Proofs.YtkdecmgockgmkaaDoorW.PrintMore Go.Proofs.YtkdecmgockgmkaaDoor.Gen
set_option linter.unusedVariables false
set_option linter.unusedSimpArgs false

theorem platenref05_Same_l0 (a b : List NN) (hl : a.length = b.length) (hn : a.length ≤ 1000000) (m : Nat) : ∀ (k i : Nat), i + m = a.length → m < k →
    platenref05_Same.l0 k (a.map mk) (b.map mk) (i : Int) = some (decide (a.drop i = b.drop i)) := by
  induction m with
  | zero =>
    intro k i hi hk
    obtain ⟨k, rfl⟩ := ex_succ hk
    rw [platenref05_Same.l0, List.length_map, if_neg (by omega), List.drop_eq_nil_of_le (by omega), List.drop_eq_nil_of_le (by omega)]
    simp
  | succ m ih =>
    intro k i hi hk
    obtain ⟨k, rfl⟩ := ex_succ hk
    have h1 : i < a.length := by omega
    have h2 : i < b.length := by omega
    have hnext := ih k (i + 1) (by omega) (by omega)
    rw [platenref05_Same.l0, List.length_map, List.length_map, if_pos (by omega), if_pos (by omega), if_pos (by omega), rd_mk a i h1, rd_mk b i h2]
    have hw : wrap64 ((i : Int) + 1) = ((i + 1 : Nat) : Int) := wnat (by omega)
    rw [hw, hnext, drop_at a i h1, drop_at b i h2]
    clear hw
    have ef : ∀ x y : NN, (mk x).f0 = (mk y).f0 → (mk x).f1 = (mk y).f1 → x = y := by
      intro x y e1 e2
      obtain ⟨x1, x2⟩ := x
      obtain ⟨y1, y2⟩ := y
      simp only [mk] at e1 e2
      have e1 : x1 = y1 := by omega
      have e2 : x2 = y2 := by omega
      rw [e1, e2]
    have ne : ¬ a[i] = b[i] → decide (a[i] :: a.drop (i + 1) = b[i] :: b.drop (i + 1)) = false := fun h => decide_eq_false (fun e => h (List.cons.inj e).1)
    by_cases e0 : (mk a[i]).f0 = (mk b[i]).f0
    · rw [if_pos e0]
      by_cases e1 : (mk a[i]).f1 = (mk b[i]).f1
      · rw [if_pos e1, ef _ _ e0 e1]
        simp only [List.cons.injEq, true_and]
      · rw [if_neg e1, ne (fun e => e1 (by rw [e]))]
    · rw [if_neg e0, ne (fun e => e0 (by rw [e]))]
theorem platenref05_Same_spec (a b : List NN) (hn : a.length ≤ 1000000) (k : Nat) (hk : a.length < k) : platenref05_Same.f k (a.map mk) (b.map mk) = some (decide (a = b)) := by
  unfold platenref05_Same.f
  rw [List.length_map, List.length_map]
  by_cases hl : a.length = b.length
  · rw [if_pos (by omega)]
    have := platenref05_Same_l0 a b hl hn a.length k 0 (by omega) hk
    simpa using this
  · rw [if_neg (by omega)]
    have : a ≠ b := fun e => hl (by rw [e])
    simp [this]

end Go.Proofs.YtkdecmgockgmkaaDoor.Ad
