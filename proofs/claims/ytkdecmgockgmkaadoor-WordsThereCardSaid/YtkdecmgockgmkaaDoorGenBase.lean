/- Plain lemmas on whole numbers and lists that this seat's proofs share; no program in sight. -/
import Derived.Test.YtkdecmgockgmkaaDoorWWords
import Derived.Test.YtkdecmgockgmkaaDoorWMore
namespace Go.Proofs.YtkdecmgockgmkaaDoor.Gen
open Go Go.RowKit Go.Proofs.YtkdecmgockgmkaaDoorW.PrintWords Go.Proofs.YtkdecmgockgmkaaDoorW.PrintMore

theorem wid {x : Int} (h0 : -9223372036854775808 ≤ x) (h1 : x ≤ 9223372036854775807) : wrap64 x = x := by
  unfold wrap64; omega

theorem wnat {n : Nat} (h : n ≤ 9223372036854775806) : wrap64 ((n : Int) + 1) = ((n + 1 : Nat) : Int) := by
  unfold wrap64; omega

def Bytes (l : List Int) : Prop := ∀ x ∈ l, 0 ≤ x ∧ x ≤ 255

theorem u8_of {x : Int} (h : (Lit.int .u8 x).wf = true) : 0 ≤ x ∧ x ≤ 255 := by
  simp [Lit.wf, IntKind.min, IntKind.max, IntKind.bits, IntKind.signed] at h
  omega

theorem bytes_of {l : List Int} (h : ∀ x ∈ l, (Lit.int .u8 x).wf = true) : Bytes l := fun x hx => u8_of (h x hx)

theorem i64_of {x : Int} (h : (Lit.int .i64 x).wf = true) : -9223372036854775808 ≤ x ∧ x ≤ 9223372036854775807 := by
  simp [Lit.wf, IntKind.min, IntKind.max, IntKind.bits, IntKind.signed] at h
  omega

theorem rd_nat (p : List Int) (i : Nat) (h : i < p.length) : rd p (i : Int) = p[i] := by
  simp [rd, h]

theorem ex_succ {k n : Nat} (h : n < k) : ∃ m, k = m + 1 := ⟨k - 1, by omega⟩

theorem drop_at {α : Type} (p : List α) (i : Nat) (h : i < p.length) : p.drop i = p[i] :: p.drop (i + 1) :=
  List.drop_eq_getElem_cons h

end Go.Proofs.YtkdecmgockgmkaaDoor.Gen
