/- What the program's functions on columns compute. -/
import Derived.Test.YtegeghnmnpklpaaDoorGenBase
import Derived.Test.YtegeghnmnpklpaaDoorGenCols
import Derived.Test.YtegeghnmnpklpaaDoorPax2
namespace Go.Proofs.YtegeghnmnpklpaaDoor.Ad
open Go Go.RowKit Go.Proofs.YtegeghnmnpklpaaDoor.Pa Go.Proofs.YtegeghnmnpklpaaDoorW.PrintWords Go.Proofs.YtegeghnmnpklpaaDoorW.PrintLast Go.Proofs.YtegeghnmnpklpaaDoorW.PrintMore Go.Proofs.YtegeghnmnpklpaaDoor.Gen
set_option linter.unusedVariables false
set_option linter.unusedSimpArgs false

theorem glyph_Step_spec (c b t : Nat) (x : Int) (hx : x = (b : Int)) (hc : c ≤ 1000000000) (ht : t ≤ 1000000000) (h0 : 0 < t) : glyph_Step.f (c : Int) x (t : Int) = some (stp c b t : Int) := by
  subst hx
  unfold glyph_Step.f stp
  by_cases h : b = 9
  · have e1 : Int.tmod (c : Int) (t : Int) = ((c % t : Nat) : Int) := by rw [Int.tmod_eq_emod_of_nonneg (by omega)]; rfl
    have hm := Nat.mod_lt c h0
    have hl := Nat.mod_le c t
    have w1 : wrap64 ((c : Int) + (t : Int)) = (c : Int) + (t : Int) := wid (by omega) (by omega)
    have w2 : wrap64 ((c : Int) + (t : Int) - ((c % t : Nat) : Int)) = (c : Int) + (t : Int) - ((c % t : Nat) : Int) := by clear w1; exact wid (by omega) (by omega)
    rw [if_pos (by omega), if_neg (by omega), w1, e1, w2, if_pos h]
    clear w1 w2
    congr 1; omega
  · have w1 : wrap64 ((c : Int) + 1) = ((c + 1 : Nat) : Int) := wnat (by omega)
    rw [if_neg (by omega), w1, if_neg h]
theorem byte_nat {p : List Int} (hb : Bytes p) (i : Nat) (h : i < p.length) : p[i] = ((p[i]).toNat : Int) := by
  have := hb p[i] (List.getElem_mem h); omega

end Go.Proofs.YtegeghnmnpklpaaDoor.Ad
