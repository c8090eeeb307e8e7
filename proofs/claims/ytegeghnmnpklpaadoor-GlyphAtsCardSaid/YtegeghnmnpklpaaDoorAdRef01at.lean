/- What the document's place of a column computes. -/
import Derived.Test.YtegeghnmnpklpaaDoorAdRef01cols
import Derived.Test.YtegeghnmnpklpaaDoorAdRef01size
import Derived.Test.YtegeghnmnpklpaaDoorAdRef01starts
import Derived.Test.YtegeghnmnpklpaaDoorAdRef01wide
import Derived.Test.YtegeghnmnpklpaaDoorGenBase
import Derived.Test.YtegeghnmnpklpaaDoorGenCols
import Derived.Test.YtegeghnmnpklpaaDoorGenGlyph
import Derived.Test.YtegeghnmnpklpaaDoorPax8
namespace Go.Proofs.YtegeghnmnpklpaaDoor.Ad
open Go Go.RowKit Go.Proofs.YtegeghnmnpklpaaDoor.Pa Go.Proofs.YtegeghnmnpklpaaDoorW.PrintWords Go.Proofs.YtegeghnmnpklpaaDoorW.PrintLast Go.Proofs.YtegeghnmnpklpaaDoorW.PrintMore Go.Proofs.YtegeghnmnpklpaaDoor.Gen
set_option linter.unusedVariables false
set_option linter.unusedSimpArgs false

theorem platenref01_At_l0 (p : List Int) (hb : Bytes p) (col t : Nat) (h0 : 0 < t) (ht : t ≤ 1000) (hp : p.length ≤ 10000) (n : Nat) : ∀ (k x c idx : Nat) (S : List Nat), x ≤ p.length → p.length ≤ x + n → c + (p.length - x) * t ≤ 900000000 → idx ≤ S.length → S.length ≤ 1000000 → S.drop idx = startsF n p x → n < k →
    platenref01_At.l0 k p (col : Int) (t : Int) (zs S) (c : Int) (idx : Int) = some (atF n p x c col t : Int) := by
  induction n with
  | zero =>
    intro k x c idx S h1 h2 _ hi hS hd hk
    obtain ⟨k, rfl⟩ := ex_succ1 hk
    have := congrArg List.length hd
    simp only [List.length_drop, startsF, List.length_nil] at this
    rw [platenref01_At.l0, zs_len, if_neg (by omega)]; rfl
  | succ n ih =>
    intro k x c idx S h1 h2 hc hi hS hd hk
    obtain ⟨k, rfl⟩ := ex_succ1 hk
    simp only [startsF] at hd
    simp only [atF]
    by_cases h : x < p.length
    · rw [if_pos h] at hd
      have hlen := congrArg List.length hd
      simp only [List.length_drop, List.length_cons] at hlen
      have hlt : idx < S.length := by omega
      rw [drop_at S idx hlt, List.cons.injEq] at hd
      obtain ⟨e1, e2⟩ := hd
      have hg := gd_pos p x h
      have hle := gd_le p x h1
      have hs := stp_le c p[x].toNat t h0
      have hmul : (p.length - (x + gsz (p.drop x))) * t + t ≤ (p.length - x) * t := by
        have := Nat.mul_le_mul_right t (show (p.length - (x + gsz (p.drop x))) + 1 ≤ p.length - x by omega)
        rw [Nat.add_mul, Nat.one_mul] at this; exact this
      have hnext := ih k (x + gsz (p.drop x)) (stp c p[x].toNat t) (idx + 1) S hle (by omega) (by omega) (by omega) hS e2 (by omega)
      rw [platenref01_At.l0, zs_len, if_pos (by omega), if_pos (by omega), rd_zs S idx hlt, e1, if_pos (by omega), if_pos (by omega), rd_nat p x h, platenref01_Step_spec c p[x].toNat t _ (nat_byte hb x h) (by omega) (by omega) h0, Option.bind_some, dif_pos h]
      by_cases c1 : col < stp c p[x].toNat t
      · rw [if_pos (by omega), if_pos c1]
      · rw [if_neg (by omega), if_neg c1]
        have hw : wrap64 ((idx : Int) + 1) = ((idx + 1 : Nat) : Int) := wnat (by omega)
        rw [hw, hnext]
    · rw [if_neg h] at hd
      have := congrArg List.length hd
      simp only [List.length_drop, List.length_nil] at this
      rw [platenref01_At.l0, zs_len, if_neg (by omega), dif_neg h]
theorem platenref01_At_spec (p : List Int) (hb : Bytes p) (col t : Nat) (h0 : 0 < t) (ht : t ≤ 1000) (hp : p.length ≤ 10000) (k : Nat) (hk : p.length + 14 < k) :
    platenref01_At.f k p (col : Int) (t : Int) = some (at_ p col t : Int) := by
  have hm : p.length * t ≤ 10000 * 1000 := Nat.mul_le_mul hp ht
  have hsl := startsF_len p p.length 0
  unfold platenref01_At.f at_
  rw [platenref01_Starts_spec p (by omega) k hk, Option.bind_some]
  exact platenref01_At_l0 p hb col t h0 ht hp p.length k 0 0 0 (starts p) (by omega) (by omega) (by simp only [Nat.sub_zero]; omega) (by omega) (by unfold starts; omega) rfl (by omega)

end Go.Proofs.YtegeghnmnpklpaaDoor.Ad
