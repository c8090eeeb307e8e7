/- What the document's test of two texts computes. -/
import Derived.Test.YtegeghnmnpklpaaDoorGenBase
import Derived.Test.YtegeghnmnpklpaaDoorPax9
namespace Go.Proofs.YtegeghnmnpklpaaDoor.Ad
open Go Go.RowKit Go.Proofs.YtegeghnmnpklpaaDoor.Pa Go.Proofs.YtegeghnmnpklpaaDoorW.PrintWords Go.Proofs.YtegeghnmnpklpaaDoorW.PrintLast Go.Proofs.YtegeghnmnpklpaaDoorW.PrintMore Go.Proofs.YtegeghnmnpklpaaDoor.Gen
set_option linter.unusedVariables false
set_option linter.unusedSimpArgs false

theorem ex_succS {k n : Nat} (h : n < k) : ∃ m, k = m + 1 := ⟨k - 1, by omega⟩
theorem platenref01_Same_l0 (a b : List Int) (hl : a.length = b.length) (hn : a.length ≤ 1000000000) (m : Nat) : ∀ (k i : Nat), i + m = a.length → m < k →
    platenref01_Same.l0 k a b (i : Int) = some (decide (a.drop i = b.drop i)) := by
  induction m with
  | zero =>
    intro k i hi hk
    obtain ⟨k, rfl⟩ := ex_succS hk
    rw [platenref01_Same.l0, if_neg (by omega), List.drop_eq_nil_of_le (by omega), List.drop_eq_nil_of_le (by omega)]
    simp
  | succ m ih =>
    intro k i hi hk
    obtain ⟨k, rfl⟩ := ex_succS hk
    have h1 : i < a.length := by omega
    have h2 : i < b.length := by omega
    have hnext := ih k (i + 1) (by omega) (by omega)
    rw [platenref01_Same.l0, if_pos (by omega), if_pos (by omega), if_pos (by omega), rd_nat a i h1, rd_nat b i h2]
    have hw : wrap64 ((i : Int) + 1) = ((i + 1 : Nat) : Int) := wnat (by omega)
    rw [hw, hnext, drop_at a i h1, drop_at b i h2]
    clear hw
    by_cases e : a[i] = b[i]
    · rw [if_pos e, e]
      simp only [List.cons.injEq, true_and]
    · rw [if_neg e, decide_eq_false]
      intro h
      exact e (List.cons.inj h).1
theorem platenref01_Same_spec (a b : List Int) (hn : a.length ≤ 1000000000) (k : Nat) (hk : a.length < k) : platenref01_Same.f k a b = some (decide (a = b)) := by
  unfold platenref01_Same.f
  by_cases hl : a.length = b.length
  · rw [if_pos (by omega)]
    have := platenref01_Same_l0 a b hl hn a.length k 0 (by omega) hk
    simpa using this
  · rw [if_neg (by omega)]
    have : a ≠ b := fun e => hl (by rw [e])
    simp [this]

end Go.Proofs.YtegeghnmnpklpaaDoor.Ad
