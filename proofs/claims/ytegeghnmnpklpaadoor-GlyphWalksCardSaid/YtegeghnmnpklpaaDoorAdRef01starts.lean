/- What the document's starts of characters compute. -/
import Derived.Test.YtegeghnmnpklpaaDoorAdRef01size
import Derived.Test.YtegeghnmnpklpaaDoorGenBase
import Derived.Test.YtegeghnmnpklpaaDoorGenGlyph
import Derived.Test.YtegeghnmnpklpaaDoorPax4
namespace Go.Proofs.YtegeghnmnpklpaaDoor.Ad
open Go Go.RowKit Go.Proofs.YtegeghnmnpklpaaDoor.Pa Go.Proofs.YtegeghnmnpklpaaDoorW.PrintWords Go.Proofs.YtegeghnmnpklpaaDoorW.PrintLast Go.Proofs.YtegeghnmnpklpaaDoorW.PrintMore Go.Proofs.YtegeghnmnpklpaaDoor.Gen
set_option linter.unusedVariables false
set_option linter.unusedSimpArgs false

def zs (l : List Nat) : List Int := l.map fun (n : Nat) => (n : Int)
theorem zs_len (l : List Nat) : (zs l).length = l.length := by simp [zs]
theorem rd_zs (l : List Nat) (i : Nat) (h : i < l.length) : rd (zs l) (i : Int) = (l[i] : Int) := by simp [zs, rd, h]
theorem startsF_len (p : List Int) (n : Nat) : ∀ x, (startsF n p x).length ≤ n := by
  induction n with
  | zero => intro x; simp [startsF]
  | succ n ih =>
    intro x; simp only [startsF]; split
    · have := ih (x + gsz (p.drop x)); simp only [List.length_cons]; omega
    · simp
theorem platenref01_Starts_l0 (p : List Int) (hp : p.length ≤ 1000000000) (n : Nat) : ∀ (k x : Nat) (acc : List Int), x ≤ p.length → p.length ≤ x + n → acc.length ≤ x → n + 14 < k →
    platenref01_Starts.l0 k p acc (x : Int) = some (acc ++ zs (startsF n p x)) := by
  induction n with
  | zero =>
    intro k x acc h1 h2 _ hk
    obtain ⟨k, rfl⟩ := ex_succ1 hk
    rw [platenref01_Starts.l0, if_neg (by omega)]
    simp [startsF, zs]
  | succ n ih =>
    intro k x acc h1 h2 ha hk
    obtain ⟨k, rfl⟩ := ex_succ1 hk
    rw [platenref01_Starts.l0]
    simp only [startsF]
    by_cases h : x < p.length
    · have hg := gd_pos p x h
      have hle := gd_le p x h1
      have hnext := ih k (x + gsz (p.drop x)) (acc ++ [(x : Int)]) hle (by omega) (by simp only [List.length_append, List.length_cons, List.length_nil]; omega) (by omega)
      rw [if_pos (by omega), if_pos (by omega), if_pos h, platenref01_Size_spec p x h hp k (by omega), Option.bind_some]
      have hw : wrap64 ((x : Int) + (gsz (p.drop x) : Int)) = ((x + gsz (p.drop x) : Nat) : Int) := by
        rw [← Int.natCast_add]; exact wid (by omega) (by omega)
      rw [hw, hnext]
      simp [zs]
    · rw [if_neg (by omega), if_neg h]; simp [zs]
theorem platenref01_Starts_spec (p : List Int) (hp : p.length ≤ 1000000000) (k : Nat) (hk : p.length + 14 < k) : platenref01_Starts.f k p = some (zs (starts p)) := by
  have := platenref01_Starts_l0 p hp p.length k 0 [] (by omega) (by omega) (by simp) hk
  simpa [platenref01_Starts.f, starts] using this

end Go.Proofs.YtegeghnmnpklpaaDoor.Ad
