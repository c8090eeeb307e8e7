/- What the document's last character computes. -/
import Derived.Test.YtkdecmgockgmkaaDoorAdRef01size
import Derived.Test.YtkdecmgockgmkaaDoorGenBase
import Derived.Test.YtkdecmgockgmkaaDoorGenGlyph
import Derived.Test.YtkdecmgockgmkaaDoorPax5
import Derived.Test.YtkdecmgockgmkaaDoorPax6
namespace Go.Proofs.YtkdecmgockgmkaaDoor.Ad
open Go Go.RowKit Go.Proofs.YtkdecmgockgmkaaDoor.Pa Go.Proofs.YtkdecmgockgmkaaDoorW.PrintWords Go.Proofs.YtkdecmgockgmkaaDoorW.PrintLast Go.Proofs.YtkdecmgockgmkaaDoorW.PrintMore Go.Proofs.YtkdecmgockgmkaaDoor.Gen
set_option linter.unusedVariables false
set_option linter.unusedSimpArgs false

theorem last_size (p : List Int) (hp : p.length ≤ 1000000000) (i n : Nat) (h0 : 0 < i) (hi : i ≤ p.length) (h1 : 1 ≤ n) (hn : n ≤ i) (k : Nat) (hk : 12 < k) :
    platenref01_Size.f k (p.take i) (wrap64 ((i : Int) - (n : Int))) = some (gsz ((p.take i).drop (i - n)) : Int) := by
  have hw : wrap64 ((i : Int) - (n : Int)) = ((i - n : Nat) : Int) := by
    rw [show (i : Int) - (n : Int) = ((i - n : Nat) : Int) by omega]; exact wid (by omega) (by omega)
  rw [hw]
  clear hw
  exact platenref01_Size_spec _ _ (by simp only [List.length_take]; omega) (by simp only [List.length_take]; omega) k hk
theorem last_step (p : List Int) (hp : p.length ≤ 1000000000) (i n : Nat) (h0 : 0 < i) (hi : i ≤ p.length) (h2 : 2 ≤ n) (h4 : n ≤ 4) (k : Nat) (hk : 12 < k) :
    platenref01_Last.l0 (k + 2) p (i : Int) (n : Int) = if n ≤ i ∧ gsz ((p.take i).drop (i - n)) = n then some (n : Int) else if n ≤ i then platenref01_Last.l0 k p (i : Int) ((n + 1 : Nat) : Int) else some 1 := by
  rw [platenref01_Last.l0, if_pos (by omega)]
  by_cases hn : n ≤ i
  · rw [decide_eq_true (by omega), platenref01_Last.j2, if_pos rfl, if_pos (by omega), if_pos (by omega), Int.toNat_natCast, last_size p hp i n h0 hi (by omega) hn k hk, Option.bind_some]
    have hw : wrap64 ((n : Int) + 1) = ((n + 1 : Nat) : Int) := wnat (by omega)
    rw [hw]
    clear hw
    by_cases hg : gsz ((p.take i).drop (i - n)) = n
    · rw [if_pos (by omega), if_pos ⟨hn, hg⟩]
    · rw [if_neg (by omega), if_neg (fun e => hg e.2), if_pos hn]
  · rw [decide_eq_false (by omega), platenref01_Last.j2, if_neg (by simp), if_neg (fun e => hn e.1), if_neg hn]
theorem platenref01_Last_spec (p : List Int) (hp : p.length ≤ 1000000000) (i : Nat) (h0 : 0 < i) (hi : i ≤ p.length) (k : Nat) (hk : 30 < k) : platenref01_Last.f k p (i : Int) = some (lsz (p.take i) : Int) := by
  obtain ⟨k, rfl⟩ : ∃ k', k = k' + 9 := ⟨k - 9, by omega⟩
  have hlen : (p.take i).length = i := by simp only [List.length_take]; omega
  have hne : p.take i ≠ [] := by intro e; rw [e] at hlen; simp at hlen; omega
  unfold platenref01_Last.f lsz
  rw [if_neg (by omega), decide_eq_false (by omega), platenref01_Last.j0, if_neg (by simp), if_neg hne, hlen]
  have s2 := last_step p hp i 2 h0 hi (by omega) (by omega) (k + 6) (by omega)
  have s3 := last_step p hp i 3 h0 hi (by omega) (by omega) (k + 4) (by omega)
  have s4 := last_step p hp i 4 h0 hi (by omega) (by omega) (k + 2) (by omega)
  rw [show platenref01_Last.l0 (k + 8) p (i : Int) 2 = platenref01_Last.l0 (k + 6 + 2) p (i : Int) ((2 : Nat) : Int) from rfl, s2]
  by_cases c2 : 2 ≤ i ∧ gsz ((p.take i).drop (i - 2)) = 2
  · rw [if_pos c2, if_pos c2]
  · rw [if_neg c2, if_neg c2]
    by_cases d2 : 2 ≤ i
    · rw [if_pos d2, show platenref01_Last.l0 (k + 6) p (i : Int) ((2 + 1 : Nat) : Int) = platenref01_Last.l0 (k + 4 + 2) p (i : Int) ((3 : Nat) : Int) from rfl, s3]
      by_cases c3 : 3 ≤ i ∧ gsz ((p.take i).drop (i - 3)) = 3
      · rw [if_pos c3, if_pos c3]
      · rw [if_neg c3, if_neg c3]
        by_cases d3 : 3 ≤ i
        · rw [if_pos d3, show platenref01_Last.l0 (k + 4) p (i : Int) ((3 + 1 : Nat) : Int) = platenref01_Last.l0 (k + 2 + 2) p (i : Int) ((4 : Nat) : Int) from rfl, s4]
          by_cases c4 : 4 ≤ i ∧ gsz ((p.take i).drop (i - 4)) = 4
          · rw [if_pos c4, if_pos c4]
          · rw [if_neg c4, if_neg c4]
            by_cases d4 : 4 ≤ i
            · rw [if_pos d4, platenref01_Last.l0, if_neg (by omega), platenref01_Last.j2, if_neg (by simp)]; rfl
            · rw [if_neg d4]; rfl
        · rw [if_neg d3, if_neg (fun e => d3 (by omega))]; rfl
    · rw [if_neg d2, if_neg (fun e => d2 (by omega)), if_neg (fun e => d2 (by omega))]; rfl
theorem platenref01_Last_out (p : List Int) (a : Int) (h : a ≤ 0 ∨ a > (p.length : Int)) (k : Nat) (hk : 0 < k) : platenref01_Last.f k p a = some 0 := by
  obtain ⟨k, rfl⟩ := ex_succ1 hk
  unfold platenref01_Last.f
  by_cases h1 : a ≤ 0
  · rw [if_pos h1, platenref01_Last.j0, if_pos rfl]
  · rw [if_neg h1, decide_eq_true (by omega), platenref01_Last.j0, if_pos rfl]

end Go.Proofs.YtkdecmgockgmkaaDoor.Ad
