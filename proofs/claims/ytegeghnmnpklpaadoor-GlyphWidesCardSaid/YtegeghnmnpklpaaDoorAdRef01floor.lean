/- What the document's floor computes. -/
import Derived.Test.YtegeghnmnpklpaaDoorAdGlyphfloor
import Derived.Test.YtegeghnmnpklpaaDoorAdRef01size
import Derived.Test.YtegeghnmnpklpaaDoorAdRef01starts
import Derived.Test.YtegeghnmnpklpaaDoorGenBase
import Derived.Test.YtegeghnmnpklpaaDoorGenGlyph
import Derived.Test.YtegeghnmnpklpaaDoorPax4
namespace Go.Proofs.YtegeghnmnpklpaaDoor.Ad
open Go Go.RowKit Go.Proofs.YtegeghnmnpklpaaDoor.Pa Go.Proofs.YtegeghnmnpklpaaDoorW.PrintWords Go.Proofs.YtegeghnmnpklpaaDoorW.PrintLast Go.Proofs.YtegeghnmnpklpaaDoorW.PrintMore Go.Proofs.YtegeghnmnpklpaaDoor.Gen
set_option linter.unusedVariables false
set_option linter.unusedSimpArgs false

theorem platenref01_Floor_l0 (p : List Int) (a : Nat) (ha : a < p.length) (hp : p.length ≤ 1000000000) (n : Nat) : ∀ (k x idx : Nat) (S : List Nat) (acc : Int), Bd p x → p.length ≤ x + n → idx ≤ S.length → S.length ≤ 1000000000 → S.drop idx = startsF n p x → n < k →
    platenref01_Floor.l0 k (a : Int) acc (zs S) (idx : Int) = some (if a < x then acc else (flo p a : Int)) := by
  induction n with
  | zero =>
    intro k x idx S acc hx h2 hi hS hd hk
    obtain ⟨k, rfl⟩ := ex_succ1 hk
    have := congrArg List.length hd
    simp only [List.length_drop, startsF, List.length_nil] at this
    rw [platenref01_Floor.l0, zs_len, if_neg (by omega), if_pos (by omega)]
  | succ n ih =>
    intro k x idx S acc hx h2 hi hS hd hk
    obtain ⟨k, rfl⟩ := ex_succ1 hk
    simp only [startsF] at hd
    by_cases h : x < p.length
    · rw [if_pos h] at hd
      have hlen := congrArg List.length hd
      simp only [List.length_drop, List.length_cons] at hlen
      have hlt : idx < S.length := by omega
      rw [drop_at S idx hlt, List.cons.injEq] at hd
      obtain ⟨e1, e2⟩ := hd
      have hg := gd_pos p x h
      have hnext := fun acc => ih k (x + gsz (p.drop x)) (idx + 1) S acc (hx.next h) (by omega) (by omega) hS e2 (by omega)
      rw [platenref01_Floor.l0, zs_len, if_pos (by omega), if_pos (by omega), rd_zs S idx hlt, e1]
      have hw : wrap64 ((idx : Int) + 1) = ((idx + 1 : Nat) : Int) := wnat (by omega)
      rw [hw, hnext, hnext]
      clear hw
      by_cases c : a < x
      · rw [if_neg (by omega), if_pos (by omega), if_pos c]
      · rw [if_pos (by omega), if_neg c]
        by_cases c2 : a < x + gsz (p.drop x)
        · rw [if_pos c2, flo_bd hx h a (by omega) c2]
        · rw [if_neg c2]
    · rw [if_neg h] at hd
      have := congrArg List.length hd
      simp only [List.length_drop, List.length_nil] at this
      rw [platenref01_Floor.l0, zs_len, if_neg (by omega), if_pos (by omega)]
theorem platenref01_Floor_neg (a : Int) (ha : a < 0) (S : List Nat) (hS : S.length ≤ 1000000000) (n : Nat) : ∀ (k idx : Nat) (acc : Int), idx + n = S.length → n < k → platenref01_Floor.l0 k a acc (zs S) (idx : Int) = some acc := by
  induction n with
  | zero =>
    intro k idx acc hi hk
    obtain ⟨k, rfl⟩ := ex_succ1 hk
    rw [platenref01_Floor.l0, zs_len, if_neg (by omega)]
  | succ n ih =>
    intro k idx acc hi hk
    obtain ⟨k, rfl⟩ := ex_succ1 hk
    have hlt : idx < S.length := by omega
    have hnext := ih k (idx + 1) acc (by omega) (by omega)
    rw [platenref01_Floor.l0, zs_len, if_pos (by omega), if_pos (by omega), rd_zs S idx hlt, if_neg (by omega)]
    have hw : wrap64 ((idx : Int) + 1) = ((idx + 1 : Nat) : Int) := wnat (by omega)
    rw [hw, hnext]
theorem platenref01_Floor_spec (p : List Int) (hp : p.length ≤ 1000000000) (a : Int) (k : Nat) (hk : p.length + 14 < k) : platenref01_Floor.f k p a = some (flo p (clip p a) : Int) := by
  have hsl := startsF_len p p.length 0
  unfold platenref01_Floor.f
  by_cases h : a ≥ (p.length : Int)
  · have : clip p a = p.length := by unfold clip; omega
    rw [if_pos h, this, flo_self (Bd.end_ p)]
  · rw [if_neg h, platenref01_Starts_spec p hp k hk, Option.bind_some]
    by_cases h0 : a < 0
    · have : clip p a = 0 := by unfold clip; omega
      rw [this, flo_self .zero]
      exact platenref01_Floor_neg a h0 (starts p) (by unfold starts; omega) (starts p).length k 0 0 (by omega) (by unfold starts; omega)
    · have hc : clip p a = a.toNat := by unfold clip; omega
      have := platenref01_Floor_l0 p a.toNat (by omega) hp p.length k 0 0 (starts p) 0 .zero (by omega) (by omega) (by unfold starts; omega) rfl (by omega)
      rw [show ((a.toNat : Nat) : Int) = a by omega, if_neg (by omega)] at this
      rw [hc]
      exact this

end Go.Proofs.YtegeghnmnpklpaaDoor.Ad
