/- Proved: a place carried to the same pieces with other blanks lies within the text, at the very byte of its piece, at the next piece's first byte, or at the end, for any bytes. -/
import Derived.Test.YtemmalkgjfdlcaaAdKeep
import Derived.Test.YtemmalkgjfdlcaaAdKeep2
import Derived.Test.YtemmalkgjfdlcaaAdSolid
import Derived.Test.YtemmalkgjfdlcaaGenBase
import Derived.Test.YtemmalkgjfdlcaaGenKeep
import Derived.Test.YtemmalkgjfdlcaaPax6
namespace Go.Proofs.Ytemmalkgjfdlcaa.Pure
open Go Go.RowKit Go.Proofs.Ytemmalkgjfdlcaa.Pa Go.Proofs.YtemmalkgjfdlcaaW.PrintWords Go.Proofs.YtemmalkgjfdlcaaW.PrintLast Go.Proofs.YtemmalkgjfdlcaaW.PrintMore Go.Proofs.Ytemmalkgjfdlcaa.Gen Go.Proofs.Ytemmalkgjfdlcaa.Ad
set_option linter.unusedVariables false
set_option linter.unusedSimpArgs false

theorem KeepBytes_l0 (p q : List Int) (h : texts p = texts q) (hp : p.length ≤ 200) (hq : q.length ≤ 42300) (m : Nat) (hmp : m < p.length) (n : Nat) : ∀ (k i : Nat), i + n = (sol p).length → n < k →
    platenlaw18_KeepBytes.l0 k p q (m : Int) (place (m : Int) ((sol p).drop i) ((sol q).drop i) (q.length : Int)) ((sol p).map mk) ((sol q).map mk) (i : Int) = some true := by
  have hlen : (sol p).length = (sol q).length := by have := congrArg List.length h; simpa [texts] using this
  have hsl := sol_length p
  induction n with
  | zero =>
    intro k i hi hk
    obtain ⟨k, rfl⟩ := ex_succ hk
    simp only [platenlaw18_KeepBytes.l0, List.length_map]
    rw [if_neg (by omega), List.drop_eq_nil_of_le (by omega)]
    simp [place]
  | succ n ih =>
    intro k i hi hk
    obtain ⟨k, rfl⟩ := ex_succ hk
    have h1 : i < (sol p).length := by omega
    have h2 : i < (sol q).length := by omega
    have hnext := ih k (i + 1) (by omega) (by omega)
    have hcut : cut p (sol p)[i] = cut q (sol q)[i] := by
      rw [← texts_at p i h1, ← texts_at q i h2]
      simp only [h]
    have wp := sol_within p _ (List.getElem_mem h1)
    have wq := sol_within q _ (List.getElem_mem h2)
    have lp := cut_len p _ wp
    have lq := cut_len q _ wq
    rw [hcut] at lp
    have hcb := cut_rd p (sol p)[i] wp
    have hcq := cut_rd q (sol q)[i] wq
    simp only [hcut] at hcb
    simp only [platenlaw18_KeepBytes.l0, List.length_map]
    rw [if_pos (by omega), if_pos (by omega), rd_mk _ i h1, rd_mk _ i h2, drop_at (sol p) i h1, drop_at (sol q) i h2]
    have hi9 : i < 1000 := by omega
    generalize (sol p)[i] = x at *
    generalize (sol q)[i] = y at *
    obtain ⟨a, l⟩ := x
    obtain ⟨b, l'⟩ := y
    simp only [mk, place] at *
    have hw1 : wrap64 ((a : Int) + (l : Int)) = (a : Int) + (l : Int) := wid (by omega) (by omega)
    have hw0 : wrap64 ((i : Int) + 1) = ((i + 1 : Nat) : Int) := by clear hw1; exact wnat (by omega)
    simp only [hw1, hw0]
    clear hw1 hw0
    have c1 : (i : Int) < ((sol q).length : Int) := by omega
    simp only [if_pos c1]
    by_cases g1 : (m : Int) < (a : Int)
    · have g2 : (m : Int) < (a : Int) + (l : Int) := by omega
      simp only [if_pos g1, if_pos g2]
      simp
    · by_cases g2 : (m : Int) < (a : Int) + (l : Int)
      · simp only [if_neg g1, if_pos g2]
        have e1 : (b : Int) + (m : Int) - (a : Int) - (b : Int) = (m : Int) - (a : Int) := by omega
        have e2 : (b : Int) + (m : Int) - (a : Int) = ((b + (m - a) : Nat) : Int) := by omega
        have hlt : b + (m - a) < q.length := by omega
        rw [e1, if_pos rfl, e2, if_pos (by omega), if_pos (by omega), if_pos (by omega), if_pos (by omega), rd_nat q _ hlt, rd_nat p m hmp]
        have v1 := hcb (m - a) (by omega)
        have v2 := hcq (m - a) (by omega)
        rw [v1] at v2
        have v3 := Option.some.inj v2
        simp only [show a + (m - a) = m by omega] at v3
        simp [v3]
      · simp only [if_neg g1, if_neg g2]
        exact hnext

theorem KeepBytes : platenlaw18_KeepBytes.Pure := by
  intro a b x _ _ ha _ _ hb hx
  have ba := bytes_of ha
  have bb := bytes_of hb
  have bx := u8_of hx
  refine ⟨100002, ?_⟩
  unfold platenlaw18_KeepBytes.f
  rw [platenlaw18_kept_spec 100002 (by omega), Option.bind_some, if_pos rfl]
  have hguard : platenlaw18_KeepBytes.j0 100002 a b x true = some true := by
    simp only [platenlaw18_KeepBytes.j0]
    simp only [platenlaw18_kept_spec 100001 (by omega), Option.bind_some, if_true]
  by_cases h1 : (a.length : Int) > 200
  · rw [if_pos h1, hguard]
  · rw [if_neg h1]
    by_cases h2 : (b.length : Int) > 100
    · rw [if_pos h2, hguard]
    · rw [if_neg h2]
      by_cases h3 : (a.length : Int) = 0
      · rw [show (((a.length : Int) == 0) = true) from by simp [h3], hguard]
      · rw [show (((a.length : Int) == 0) = false) from by simpa using h3]
        obtain ⟨q, e1, e2, bq, hq⟩ := platenlaw18_blanks_spec a b ba bb (by omega) 100001 (by omega)
        obtain ⟨m, hm, hml⟩ : ∃ m : Nat, Int.tmod (wrap64 x) (a.length : Int) = (m : Int) ∧ m < a.length := by
          have w1 : wrap64 x = x := wid (by omega) (by omega)
          rw [w1]
          clear w1
          have n1 := Int.tmod_nonneg (a.length : Int) bx.1
          have n2 := Int.tmod_lt_of_pos x (b := (a.length : Int)) (by omega)
          exact ⟨(Int.tmod x (a.length : Int)).toNat, by omega, by omega⟩
        simp only [platenlaw18_KeepBytes.j0]
        have hbd := alike_bd e2.symm (m : Int)
        have hsl := sol_length a
        rw [if_neg (by simp), e1, Option.bind_some, if_neg h3, hm]
        clear hm
        rw [keep_Solid_spec _ _ _ (by omega) (by omega) 100001 (by omega) (by omega), Option.bind_some, keep_Alike_spec _ _ ba bq (by omega) (by omega) 100001 (by omega) (by omega), Option.bind_some,
          if_pos (decide_eq_true e2.symm), if_neg (by omega), decide_eq_false (by omega)]
        simp only [platenlaw18_KeepBytes.j1]
        rw [if_neg (by simp), platenref05_Solid_spec _ (by omega) 100000 (by omega), Option.bind_some, platenref05_Solid_spec _ (by omega) 100000 (by omega), Option.bind_some]
        exact KeepBytes_l0 a q e2.symm (by omega) hq m hml (sol a).length 100000 0 (by omega) (by omega)

end Go.Proofs.Ytemmalkgjfdlcaa.Pure
