/- What the document's functions on columns compute. -/
import Derived.Test.YtegeghnmnpklpaaDoorGenBase
import Derived.Test.YtegeghnmnpklpaaDoorGenCols
import Derived.Test.YtegeghnmnpklpaaDoorPax6
namespace Go.Proofs.YtegeghnmnpklpaaDoor.Ad
open Go Go.RowKit Go.Proofs.YtegeghnmnpklpaaDoor.Pa Go.Proofs.YtegeghnmnpklpaaDoorW.PrintWords Go.Proofs.YtegeghnmnpklpaaDoorW.PrintLast Go.Proofs.YtegeghnmnpklpaaDoorW.PrintMore Go.Proofs.YtegeghnmnpklpaaDoor.Gen
set_option linter.unusedVariables false
set_option linter.unusedSimpArgs false

theorem platenref01_Step_spec (c b t : Nat) (x : Int) (hx : x = (b : Int)) (hc : c ≤ 1000000000) (ht : t ≤ 100000) (h0 : 0 < t) : platenref01_Step.f (c : Int) x (t : Int) = some (stp c b t : Int) := by
  subst hx
  unfold platenref01_Step.f stp
  by_cases h : b = 9
  · have e1 : Int.tdiv (c : Int) (t : Int) = ((c / t : Nat) : Int) := by rw [Int.tdiv_eq_ediv_of_nonneg (by omega)]; rfl
    have hm := Nat.mod_lt c h0
    have hl := Nat.div_le_self c t
    have hd := Nat.div_add_mod c t
    have hk : (c / t + 1) * t = c + t - c % t := by
      rw [Nat.add_mul, Nat.one_mul, Nat.mul_comm]; omega
    rw [if_pos (by omega), if_neg (by omega), e1, if_pos h]
    clear e1
    generalize c / t = d at *
    generalize c % t = r at *
    have hb : (d + 1) * t ≤ 2000000000 := by omega
    have w1 : wrap64 (d : Int) = (d : Int) := by clear hk hd; exact wid (by omega) (by omega)
    have w2 : wrap64 ((d : Int) + 1) = ((d + 1 : Nat) : Int) := by clear w1 hk hd; exact wnat (by omega)
    have w3 : wrap64 (((d + 1 : Nat) : Int) * (t : Int)) = (((d + 1) * t : Nat) : Int) := by
      clear w1 w2
      rw [← Int.natCast_mul]
      generalize (d + 1) * t = z at hb
      exact wid (by omega) (by omega)
    rw [w1, w2, w3, hk]
  · have w1 : wrap64 ((c : Int) + 1) = ((c + 1 : Nat) : Int) := wnat (by omega)
    rw [if_neg (by clear w1; omega), w1, if_neg h]

end Go.Proofs.YtegeghnmnpklpaaDoor.Ad
