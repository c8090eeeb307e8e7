/- What the document's function of layer 5 that tells whether two texts have the same pieces computes. -/
import Derived.Test.YtemmalkgjfdlcaaAdAlike
import Derived.Test.YtemmalkgjfdlcaaAdSolid
import Derived.Test.YtemmalkgjfdlcaaGenBase
import Derived.Test.YtemmalkgjfdlcaaGenKeep
import Derived.Test.YtemmalkgjfdlcaaPax4
namespace Go.Proofs.Ytemmalkgjfdlcaa.Ad
open Go Go.RowKit Go.Proofs.Ytemmalkgjfdlcaa.Pa Go.Proofs.YtemmalkgjfdlcaaW.PrintWords Go.Proofs.YtemmalkgjfdlcaaW.PrintLast Go.Proofs.YtemmalkgjfdlcaaW.PrintMore Go.Proofs.Ytemmalkgjfdlcaa.Gen
set_option linter.unusedVariables false
set_option linter.unusedSimpArgs false

theorem platenref05_Alike_spec (p q : List Int) (bp : Bytes p) (bq : Bytes q) (hp : p.length ≤ 1000000) (hq : q.length ≤ 1000000) (k : Nat) (hkp : 2 * p.length + 1 < k) (hkq : 2 * q.length + 1 < k) :
    platenref05_Alike.f k p q = some (decide (texts p = texts q)) := by
  unfold platenref05_Alike.f
  have := texts_length p
  rw [platenref05_Solid_spec p hp k hkp, Option.bind_some, platenref05_Texts_spec p hp k (by omega), Option.bind_some, platenref05_Solid_spec q hq k hkq, Option.bind_some, platenref05_Texts_spec q hq k (by omega), Option.bind_some,
    platenref05_SameTexts_spec _ _ (texts_bytes bp) (texts_bytes bq) (by omega) k (by omega), Option.bind_some]

end Go.Proofs.Ytemmalkgjfdlcaa.Ad
