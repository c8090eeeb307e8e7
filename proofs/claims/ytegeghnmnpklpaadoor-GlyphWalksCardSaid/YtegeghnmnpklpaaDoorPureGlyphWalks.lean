/- Proved: walked forward and walked backward the characters start at the same places, each its own floor and as many as are counted, for any bytes. -/
import Derived.Test.YtegeghnmnpklpaaDoorAdGlyphcount
import Derived.Test.YtegeghnmnpklpaaDoorAdGlyphfloor
import Derived.Test.YtegeghnmnpklpaaDoorAdGlyphprev
import Derived.Test.YtegeghnmnpklpaaDoorAdRef01starts
import Derived.Test.YtegeghnmnpklpaaDoorAdSigns01
import Derived.Test.YtegeghnmnpklpaaDoorAdUtf8
import Derived.Test.YtegeghnmnpklpaaDoorGenBase
import Derived.Test.YtegeghnmnpklpaaDoorGenCols
import Derived.Test.YtegeghnmnpklpaaDoorGenGlyph
import Derived.Test.YtegeghnmnpklpaaDoorPax5
namespace Go.Proofs.YtegeghnmnpklpaaDoor.Pure
open Go Go.RowKit Go.Proofs.YtegeghnmnpklpaaDoor.Pa Go.Proofs.YtegeghnmnpklpaaDoorW.PrintWords Go.Proofs.YtegeghnmnpklpaaDoorW.PrintLast Go.Proofs.YtegeghnmnpklpaaDoorW.PrintMore Go.Proofs.YtegeghnmnpklpaaDoor.Gen Go.Proofs.YtegeghnmnpklpaaDoor.Ad
set_option linter.unusedVariables false
set_option linter.unusedSimpArgs false

theorem startsF_next (p : List Int) (n x : Nat) (h : x < p.length) : startsF (n + 1) p x = x :: startsF n p (x + gsz (p.drop x)) := by simp only [startsF]; rw [if_pos h]
/-- The starts ahead of a start. -/
theorem starts_pre (p : List Int) : ∀ x, Bd p x → ∃ S : List Nat, starts p = S ++ startsF (p.length - x) p x ∧ S.length ≤ x := by
  intro x hx
  induction hx with
  | zero => exact ⟨[], rfl, by simp⟩
  | @next y hy hl ih =>
    obtain ⟨S, h1, h2⟩ := ih
    have hg := gd_pos p y hl
    obtain ⟨n, hn⟩ : ∃ n, p.length - y = n + 1 := ⟨p.length - y - 1, by omega⟩
    refine ⟨S ++ [y], ?_, by simp only [List.length_append, List.length_cons, List.length_nil]; omega⟩
    rw [h1, hn, startsF_next p n y hl, startsF_fuel p n (p.length - (y + gsz (p.drop y))) _ (by omega) (by omega)]
    simp
theorem walks_l2 (S : List Nat) (hS : S.length ≤ 1000000) (n : Nat) : ∀ (k i : Nat), i + n = S.length → n < k → platenlaw01_GlyphWalks.l2 k (zs S) (zs S.reverse) (i : Int) = some true := by
  induction n with
  | zero =>
    intro k i hi hk
    obtain ⟨k, rfl⟩ := ex_succ' hk
    rw [platenlaw01_GlyphWalks.l2, zs_len, if_neg (by omega)]
  | succ n ih =>
    intro k i hi hk
    obtain ⟨k, rfl⟩ := ex_succ' hk
    have hlt : i < S.length := by omega
    have hnext := ih k (i + 1) (by omega) (by omega)
    have hr : S.length - 1 - i < S.reverse.length := by rw [List.length_reverse]; omega
    have w1 : wrap64 ((S.length : Int) - 1) = ((S.length - 1 : Nat) : Int) := by
      rw [show (S.length : Int) - 1 = ((S.length - 1 : Nat) : Int) by omega]; exact wid (by omega) (by omega)
    have w2 : wrap64 (((S.length - 1 : Nat) : Int) - (i : Int)) = ((S.length - 1 - i : Nat) : Int) := by
      clear w1
      rw [show ((S.length - 1 : Nat) : Int) - (i : Int) = ((S.length - 1 - i : Nat) : Int) by omega]; exact wid (by omega) (by omega)
    have w3 : wrap64 ((i : Int) + 1) = ((i + 1 : Nat) : Int) := by clear w1 w2; exact wnat (by omega)
    rw [platenlaw01_GlyphWalks.l2, zs_len, zs_len, List.length_reverse, w1, w2, w3]
    clear w1 w2 w3
    rw [if_pos (by omega), if_pos (by omega), if_pos (by omega), if_pos (by omega), rd_zs S i hlt, rd_zs _ _ hr, hnext]
    rw [if_pos]
    rw [List.getElem_reverse]
    simp only [show S.length - 1 - (S.length - 1 - i) = i by omega]
theorem walks_l1 (p : List Int) (bp : Bytes p) (hp : p.length ≤ 300) : ∀ x, Bd p x → ∀ (k : Nat) (acc : List Int) (R S : List Nat), starts p = S ++ R → startsF (p.length - x) p x = R → acc = zs R.reverse → x + 700 < k →
    platenlaw01_GlyphWalks.l1 k p (zs (starts p)) acc (x : Int) = some true := by
  intro x hx
  induction hx with
  | zero =>
    intro k acc R S h1 h2 h3 hk
    obtain ⟨k, rfl⟩ := ex_succ' (n := 0) (k := k) (by omega)
    obtain ⟨k, rfl⟩ := ex_succ' (n := 0) (k := k) (by omega)
    have hR : R = starts p := by rw [← h2]; rfl
    have hsl := startsF_len p p.length 0
    have hcn : (starts p).length = cnt p := by
      have := starts_cnt p p.length 0 (by omega) (by omega)
      simpa [starts] using this
    rw [platenlaw01_GlyphWalks.l1, if_neg (by omega), h3, hR, zs_len, zs_len, List.length_reverse, if_pos rfl, glyph_Count_spec p bp (by omega) _ (by omega), Option.bind_some, hcn,
      show (((cnt p : Int)) != (cnt p : Int)) = false by simp, platenlaw01_GlyphWalks.j3, if_neg (by simp)]
    exact walks_l2 (starts p) (by unfold starts; omega) (starts p).length _ 0 (by omega) (by unfold starts; omega)
  | @next y hy hl ih =>
    intro k acc R S h1 h2 h3 hk
    obtain ⟨k, rfl⟩ := ex_succ' (n := 0) (k := k) (by omega)
    have hg := gd_pos p y hl
    have h4 := gd_four p y
    have hle := gd_le p y (by omega)
    have hpre := starts_pre p y hy
    obtain ⟨S', e1, e2⟩ := hpre
    obtain ⟨n, hn⟩ : ∃ n, p.length - y = n + 1 := ⟨p.length - y - 1, by omega⟩
    have hR : startsF (p.length - y) p y = y :: R := by
      rw [hn, startsF_next p n y hl, startsF_fuel p n (p.length - (y + gsz (p.drop y))) _ (by omega) (by omega), h2]
    have hsl := startsF_len p (p.length - (y + gsz (p.drop y))) (y + gsz (p.drop y))
    rw [h2] at hsl
    have hal : acc.length < 17592186044416 := by rw [h3, zs_len, List.length_reverse]; omega
    have hnext := ih k (acc ++ [(y : Int)]) (y :: R) S' (by rw [e1, hR]) hR (by rw [h3]; simp [zs]) (by omega)
    have w1 : wrap64 (((y + gsz (p.drop y) : Nat) : Int) - (gsz (p.drop y) : Int)) = (y : Int) := by
      rw [show ((y + gsz (p.drop y) : Nat) : Int) - (gsz (p.drop y) : Int) = (y : Int) by omega]; exact wid (by omega) (by omega)
    rw [platenlaw01_GlyphWalks.l1, glyph_Prev_spec p bp (by clear w1; omega) _ hle k (by clear w1; omega), lsz_bd hy hl, Option.bind_some, w1, hnext, if_pos (by clear w1; omega), if_neg (by clear w1; omega), if_neg (by clear w1; omega), if_pos hal]
theorem walks_l0 (p : List Int) (bp : Bytes p) (hp : p.length ≤ 300) (n : Nat) : ∀ (k x : Nat) (S : List Nat), Bd p x → p.length ≤ x + n → starts p = S ++ startsF (p.length - x) p x → n + 1500 < k →
    platenlaw01_GlyphWalks.l0 k p (zs S) (x : Int) = some true := by
  have done : ∀ (k : Nat) (S : List Nat), starts p = S ++ startsF (p.length - p.length) p p.length → 1500 < k → platenlaw01_GlyphWalks.l0 k p (zs S) (p.length : Int) = some true := by
    intro k S hS hk
    obtain ⟨k, rfl⟩ := ex_succ' (n := 0) (k := k) (by omega)
    have e : startsF (p.length - p.length) p p.length = [] := by rw [Nat.sub_self]; rfl
    rw [e, List.append_nil] at hS
    rw [platenlaw01_GlyphWalks.l0, if_neg (by omega), ← hS]
    exact walks_l1 p bp hp p.length (Bd.end_ p) k [] [] (starts p) (by simp) e rfl (by omega)
  induction n with
  | zero =>
    intro k x S hx h1 hS hk
    have : x = p.length := by have := hx.le; omega
    subst this
    exact done k S hS (by omega)
  | succ n ih =>
    intro k x S hx h1 hS hk
    by_cases h : x < p.length
    · obtain ⟨k, rfl⟩ := ex_succ' (n := 0) (k := k) (by omega)
      have hg := gd_pos p x h
      have h4 := gd_four p x
      have hle := gd_le p x (by omega)
      obtain ⟨m, hm⟩ : ∃ m, p.length - x = m + 1 := ⟨p.length - x - 1, by omega⟩
      have hS' : starts p = (S ++ [x]) ++ startsF (p.length - (x + gsz (p.drop x))) p (x + gsz (p.drop x)) := by
        rw [hS, hm, startsF_next p m x h, startsF_fuel p m (p.length - (x + gsz (p.drop x))) _ (by omega) (by omega)]
        simp
      have hnext := ih k (x + gsz (p.drop x)) (S ++ [x]) (hx.next h) (by omega) hS' (by omega)
      have hzs : zs (S ++ [x]) = zs S ++ [(x : Int)] := by simp [zs]
      have hsl := startsF_len p p.length 0
      have hl2 := congrArg List.length hS
      rw [List.length_append] at hl2
      have hal : (zs S).length < 17592186044416 := by rw [zs_len]; unfold starts at hl2; omega
      have hcl : clip p (x : Int) = x := by unfold clip; omega
      have w1 : wrap64 ((x : Int) + (gsz (p.drop x) : Int)) = ((x + gsz (p.drop x) : Nat) : Int) := by
        rw [← Int.natCast_add]; exact wid (by omega) (by omega)
      rw [platenlaw01_GlyphWalks.l0, glyph_Next_spec p bp x h k (by clear w1; omega), Option.bind_some, w1, ← hzs, hnext, glyph_Floor_spec p bp (by clear w1; omega) _ k (by clear w1; omega), hcl, flo_self hx, Option.bind_some,
        if_pos (by clear w1; omega), if_pos hal, if_neg (by clear w1; omega), if_neg (by clear w1; omega), if_pos rfl]
    · have : x = p.length := by have := hx.le; omega
      subst this
      exact done k S hS (by omega)
theorem GlyphWalks : platenlaw01_GlyphWalks.Pure := by
  intro p _ _ hp
  have bp := bytes_of hp
  refine ⟨5001, ?_⟩
  unfold platenlaw01_GlyphWalks.f
  rw [platenlaw01_signs_spec 5001 (by omega), Option.bind_some, if_pos rfl]
  by_cases h : (p.length : Int) > 300
  · rw [decide_eq_true h, platenlaw01_GlyphWalks.j0, if_pos rfl, platenlaw01_signs_spec 5000 (by omega), Option.bind_some]
  · rw [decide_eq_false h, platenlaw01_GlyphWalks.j0, if_neg (by simp)]
    exact walks_l0 p bp (by omega) p.length 5000 0 [] .zero (by omega) rfl (by omega)

end Go.Proofs.YtegeghnmnpklpaaDoor.Pure
