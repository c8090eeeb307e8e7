/- Proved: a text's pieces without blanks stay where its lines are shifted, and so do its lines, for any bytes, times and settings. -/
import Derived.Test.YtdaodcdbfaikjaaDoorExtBytes
import Derived.Test.YtdaodcdbfaikjaaDoorExtSplit
import Derived.Test.YtdaodcdbfaikjaaDoorExtTabs
import Derived.Test.YtdaodcdbfaikjaaDoorPax0
import Derived.Test.YtdaodcdbfaikjaaDoorPax1
import Derived.Test.YtdaodcdbfaikjaaDoorPax12
import Derived.Test.YtdaodcdbfaikjaaDoorPax13
import Derived.Test.YtdaodcdbfaikjaaDoorPax15
import Derived.Test.YtdaodcdbfaikjaaDoorPax16
import Derived.Test.YtdaodcdbfaikjaaDoorPax17
import Derived.Test.YtdaodcdbfaikjaaDoorPax2
import Derived.Test.YtdaodcdbfaikjaaDoorPax3
import Derived.Test.YtdaodcdbfaikjaaDoorGenShiftStays
namespace Go.Proofs.YtdaodcdbfaikjaaDoor.Ad
open Go Go.RowKit Go.Proofs.YtdaodcdbfaikjaaDoor.Pa Go.Proofs.YtdaodcdbfaikjaaDoorW.PrintWords Go.Proofs.YtdaodcdbfaikjaaDoorW.PrintLast Go.Proofs.YtdaodcdbfaikjaaDoorW.PrintMore Go.Proofs.YtdaodcdbfaikjaaDoor.Gen
set_option linter.unusedVariables false
set_option linter.unusedSimpArgs false

def mk (x : NN) : S65 := ⟨(x.1 : Int), (x.2 : Int)⟩
theorem rd_mk (l : List NN) (i : Nat) (h : i < l.length) : rd_T65 (l.map mk) (i : Int) = mk l[i] := by
  simp [rd_T65, h]

end Go.Proofs.YtdaodcdbfaikjaaDoor.Ad
namespace Go.Proofs.YtdaodcdbfaikjaaDoor.Ad
open Go Go.RowKit Go.Proofs.YtdaodcdbfaikjaaDoor.Pa Go.Proofs.YtdaodcdbfaikjaaDoorW.PrintWords Go.Proofs.YtdaodcdbfaikjaaDoorW.PrintLast Go.Proofs.YtdaodcdbfaikjaaDoorW.PrintMore Go.Proofs.YtdaodcdbfaikjaaDoor.Gen
set_option linter.unusedVariables false
set_option linter.unusedSimpArgs false

theorem platenref05_Texts_l0 (p : List Int) (hp : p.length ≤ 1000000) (l : List NN) (hl : Within l p.length) (hll : l.length ≤ 1000000) (m : Nat) : ∀ (k i : Nat), i + m = l.length → m < k →
    platenref05_Texts.l0 k p (l.map mk) ((l.take i).map fun x => strOfNums (cut p x)) (i : Int) = some (l.map fun x => strOfNums (cut p x)) := by
  induction m with
  | zero =>
    intro k i hi hk
    obtain ⟨k, rfl⟩ := ex_succ hk
    simp only [platenref05_Texts.l0, List.length_map]
    rw [if_neg (by omega), List.take_of_length_le (by omega)]
  | succ m ih =>
    intro k i hi hk
    obtain ⟨k, rfl⟩ := ex_succ hk
    have hlt : i < l.length := by omega
    have hw := hl l[i] (List.getElem_mem hlt)
    have hnext := ih k (i + 1) (by omega) (by omega)
    rw [List.take_succ_eq_append_getElem hlt, List.map_append, List.map_cons, List.map_nil] at hnext
    simp only [platenref05_Texts.l0, List.length_map, List.length_take]
    rw [if_pos (by omega), if_pos (by omega), rd_mk l i hlt, ← hnext]
    simp only [cut]
    generalize l[i] = x at hw
    obtain ⟨a, n⟩ := x
    simp only at hw
    have c1 : 0 ≤ (a : Int) := by omega
    have c2 : (a : Int) ≤ (a : Int) + (n : Int) := by omega
    have c3 : (a : Int) + (n : Int) ≤ (p.length : Int) := by omega
    have c4 : min i l.length < 8796093022208 := by omega
    have c5 : ((a : Int) + (n : Int)).toNat = a + n := by omega
    have hw0 : wrap64 ((i : Int) + 1) = ((i + 1 : Nat) : Int) := wnat (by omega)
    have hw1 : wrap64 ((a : Int) + (n : Int)) = (a : Int) + (n : Int) := wid (by clear hw0; omega) (by clear hw0; omega)
    simp only [mk, hw0, hw1, c1, c2, c3, c4, c5, if_true, Int.toNat_natCast]
theorem platenref05_Texts_spec (p : List Int) (hp : p.length ≤ 1000000) (k : Nat) (hk : p.length < k) : platenref05_Texts.f k p ((sol p).map mk) = some ((texts p).map strOfNums) := by
  unfold platenref05_Texts.f texts
  have hl := sol_length p
  have := platenref05_Texts_l0 p hp (sol p) (sol_within p) (by omega) (sol p).length k 0 (by omega) (by omega)
  simp only [List.take_zero, List.map_nil, Int.natCast_zero] at this
  rw [List.map_map]
  exact this
theorem platenref05_SameTexts_l0 (a b : List (List Int)) (ha : ∀ x ∈ a, Bytes x) (hb : ∀ x ∈ b, Bytes x) (hl : a.length = b.length) (hn : a.length ≤ 1000000) (m : Nat) : ∀ (k i : Nat), i + m = a.length → m < k →
    platenref05_SameTexts.l0 k (a.map strOfNums) (b.map strOfNums) (i : Int) = some (decide (a.drop i = b.drop i)) := by
  induction m with
  | zero =>
    intro k i hi hk
    obtain ⟨k, rfl⟩ := ex_succ hk
    simp only [platenref05_SameTexts.l0, List.length_map]
    rw [if_neg (by omega), List.drop_eq_nil_of_le (by omega), List.drop_eq_nil_of_le (by omega)]
    simp
  | succ m ih =>
    intro k i hi hk
    obtain ⟨k, rfl⟩ := ex_succ hk
    have h1 : i < a.length := by omega
    have h2 : i < b.length := by omega
    simp only [platenref05_SameTexts.l0, List.length_map]
    rw [if_pos (by omega), if_pos (by omega), if_pos (by omega), wnat (by omega), ih k (i + 1) (by omega) (by omega)]
    have hda : a.drop i = a[i] :: a.drop (i + 1) := drop_at a i h1
    have hdb : b.drop i = b[i] :: b.drop (i + 1) := drop_at b i h2
    rw [hda, hdb]
    have e1 : rdOf ByteArray.empty (a.map strOfNums) (i : Int) = strOfNums a[i] := by simp [rdOf, h1]
    have e2 : rdOf ByteArray.empty (b.map strOfNums) (i : Int) = strOfNums b[i] := by simp [rdOf, h2]
    rw [e1, e2]
    by_cases e : a[i] = b[i]
    · rw [if_pos (by rw [e]), e]
      simp only [List.cons.injEq, true_and]
    · rw [if_neg (fun h => e (strOfNums_inj (ha _ (List.getElem_mem h1)) (hb _ (List.getElem_mem h2)) h)), decide_eq_false]
      intro h
      exact e (List.cons.inj h).1
theorem platenref05_SameTexts_spec (a b : List (List Int)) (ha : ∀ x ∈ a, Bytes x) (hb : ∀ x ∈ b, Bytes x) (hn : a.length ≤ 1000000) (k : Nat) (hk : a.length < k) :
    platenref05_SameTexts.f k (a.map strOfNums) (b.map strOfNums) = some (decide (a = b)) := by
  unfold platenref05_SameTexts.f
  by_cases hl : a.length = b.length
  · rw [if_pos (by simp [hl])]
    have := platenref05_SameTexts_l0 a b ha hb hl hn a.length k 0 (by omega) hk
    simpa using this
  · rw [if_neg (by simp; omega)]
    have : a ≠ b := fun e => hl (by rw [e])
    simp [this]
theorem texts_bytes {p : List Int} (hb : Bytes p) : ∀ x ∈ texts p, Bytes x := by
  intro x hx
  simp only [texts, List.mem_map] at hx
  obtain ⟨y, _, rfl⟩ := hx
  exact bytes_cut hb y
theorem texts_length (p : List Int) : (texts p).length ≤ p.length := by
  have := sol_length p
  simpa [texts] using this

end Go.Proofs.YtdaodcdbfaikjaaDoor.Ad
namespace Go.Proofs.YtdaodcdbfaikjaaDoor.Ad
open Go Go.RowKit Go.Proofs.YtdaodcdbfaikjaaDoor.Pa Go.Proofs.YtdaodcdbfaikjaaDoorW.PrintWords Go.Proofs.YtdaodcdbfaikjaaDoorW.PrintLast Go.Proofs.YtdaodcdbfaikjaaDoorW.PrintMore Go.Proofs.YtdaodcdbfaikjaaDoor.Gen
set_option linter.unusedVariables false
set_option linter.unusedSimpArgs false

theorem platenref01_Blank_spec (c : Int) : platenref01_Blank.f c = some (decide (c = 32 ∨ c = 9)) := by
  unfold platenref01_Blank.f
  split
  · simp [*]
  · rw [Option.some_inj, Bool.eq_iff_iff]; simp; omega

end Go.Proofs.YtdaodcdbfaikjaaDoor.Ad
namespace Go.Proofs.YtdaodcdbfaikjaaDoor.Ad
open Go Go.RowKit Go.Proofs.YtdaodcdbfaikjaaDoor.Pa Go.Proofs.YtdaodcdbfaikjaaDoorW.PrintWords Go.Proofs.YtdaodcdbfaikjaaDoorW.PrintLast Go.Proofs.YtdaodcdbfaikjaaDoorW.PrintMore Go.Proofs.YtdaodcdbfaikjaaDoor.Gen
set_option linter.unusedVariables false
set_option linter.unusedSimpArgs false

theorem platenref05_Class_spec (c : Int) : platenref05_Class.f c = some (cls c) := by
  unfold platenref05_Class.f cls
  rw [platenref01_Blank_spec, Option.bind_some]
  simp only [decide_eq_true_eq]
  repeat' split
  all_goals first | rfl | (exfalso; omega)

end Go.Proofs.YtdaodcdbfaikjaaDoor.Ad
namespace Go.Proofs.YtdaodcdbfaikjaaDoor.Ad
open Go Go.RowKit Go.Proofs.YtdaodcdbfaikjaaDoor.Pa Go.Proofs.YtdaodcdbfaikjaaDoorW.PrintWords Go.Proofs.YtdaodcdbfaikjaaDoorW.PrintLast Go.Proofs.YtdaodcdbfaikjaaDoorW.PrintMore Go.Proofs.YtdaodcdbfaikjaaDoor.Gen
set_option linter.unusedVariables false
set_option linter.unusedSimpArgs false

theorem platenref05_Solid_l (p : List Int) (hp : p.length ≤ 1000000) (m : Nat) : ∀ (k : Nat) (l : List NN) (i : Nat), i + m = p.length → l.length ≤ i → 2 * m + 1 < k →
    (EndsB l i ∨ (∀ h : i < p.length, ws p[i]) → Within l i → platenref05_Solid.l0 k p (l.map mk) (i : Int) = some ((solG l i (p.drop i)).map mk)) ∧
    (∀ a : Nat, a < i → EndsB l a → Within l a → l.length ≤ a → platenref05_Solid.l1 k p (l.map mk) (i : Int) (a : Int) = some ((solG (l ++ [(a, i - a)]) i (p.drop i)).map mk)) := by
  induction m using Nat.strongRecOn with
  | _ m ih =>
    intro k l i hi hll hk
    obtain ⟨k, rfl⟩ := ex_succ hk
    constructor
    · intro he hwi
      simp only [platenref05_Solid.l0]
      by_cases hlt : i < p.length
      · rw [if_pos (by omega), if_pos (by omega), rd_nat p i hlt, platenref05_Class_spec, Option.bind_some, drop_at p i hlt]
        simp only [solG]
        by_cases hws : ws p[i]
        · rw [if_pos (by have := cls_ws.2 hws; omega), stepS_ws hws, wnat (by omega)]
          exact (ih (m - 1) (by omega) k l (i + 1) (by omega) (by omega) (by omega)).1 (.inl (fun l' a n e => by have := hwi (a, n) (by simp [e]); simp at this; omega)) (fun x hx => by have := hwi x hx; omega)
        · rw [if_neg (by have := cls_big hws; omega)]
          have he' : EndsB l i := by
            rcases he with he | he
            · exact he
            · exact absurd (he hlt) hws
          -- the inner loop's first round is at this very place
          obtain ⟨k, rfl⟩ := ex_succ (n := 0) (k := k) (by omega)
          simp only [platenref05_Solid.l1]
          rw [if_pos (by omega), if_pos (by omega), rd_nat p i hlt, platenref05_Class_spec, Option.bind_some, if_pos (by have := cls_big hws; omega), wnat (by omega)]
          have := (ih (m - 1) (by omega) k l (i + 1) (by omega) (by omega) (by omega)).2 i (by omega) he' hwi hll
          rw [this]
          rcases List.eq_nil_or_concat l with rfl | ⟨l', ⟨a, n⟩, rfl⟩
          · rw [stepS_nil hws]; simp
          · simp only [List.concat_eq_append] at *
            have := he' l' a n rfl
            rw [stepS_new hws (by omega)]; simp
      · rw [if_neg (by omega), List.drop_eq_nil_of_le (by omega)]
        simp [solG]
    · intro a ha he hwa hla
      have hrow : (l.map mk ++ [(⟨(a : Int), wrap64 ((i : Int) - (a : Int))⟩ : S65)]) = (l ++ [(a, i - a)]).map mk := by
        rw [wid (by omega) (by omega)]
        have : ((i - a : Nat) : Int) = (i : Int) - (a : Int) := by omega
        simp [mk, this]
      simp only [platenref05_Solid.l1]
      by_cases hlt : i < p.length
      · rw [if_pos (by omega), if_pos (by omega), rd_nat p i hlt, platenref05_Class_spec, Option.bind_some, wnat (by omega), drop_at p i hlt]
        simp only [solG]
        by_cases hws : ws p[i]
        · rw [if_neg (by have := cls_ws.2 hws; omega), if_pos (by simp; omega), hrow, stepS_ws hws]
          exact (ih (m - 1) (by omega) k (l ++ [(a, i - a)]) (i + 1) (by omega) (by simp; omega) (by omega)).1 (.inl (Ends_snoc (by omega))) (fun x hx => by
            rcases List.mem_append.1 hx with hx | hx
            · have := hwa x hx; omega
            · simp at hx; subst hx; simp; omega)
        · rw [if_pos (by have := cls_big hws; omega)]
          have := (ih (m - 1) (by omega) k l (i + 1) (by omega) (by omega) (by omega)).2 a (by omega) he hwa hla
          rw [this, stepS_last hws (by omega), show i + 1 - a = i - a + 1 by omega]
      · rw [if_neg (by omega), List.drop_eq_nil_of_le (by omega), if_pos (by simp; omega), hrow, wnat (by omega)]
        obtain ⟨k, rfl⟩ := ex_succ (n := 0) (k := k) (by omega)
        simp only [solG, platenref05_Solid.l0]
        rw [if_neg (by omega)]
theorem platenref05_Solid_spec (p : List Int) (hp : p.length ≤ 1000000) (k : Nat) (hk : 2 * p.length + 1 < k) : platenref05_Solid.f k p = some ((sol p).map mk) := by
  have := (platenref05_Solid_l p hp p.length k [] 0 (by simp) (by simp) hk).1 (.inl (fun l' a n e => by simp at e)) (fun x hx => by simp at hx)
  simpa [platenref05_Solid.f, sol] using this

end Go.Proofs.YtdaodcdbfaikjaaDoor.Ad
namespace Go.Proofs.YtdaodcdbfaikjaaDoor.Ad
open Go Go.RowKit Go.Proofs.YtdaodcdbfaikjaaDoor.Pa Go.Proofs.YtdaodcdbfaikjaaDoorW.PrintWords Go.Proofs.YtdaodcdbfaikjaaDoorW.PrintLast Go.Proofs.YtdaodcdbfaikjaaDoorW.PrintMore Go.Proofs.YtdaodcdbfaikjaaDoor.Gen
set_option linter.unusedVariables false
set_option linter.unusedSimpArgs false

theorem platenref05_Alike_spec (p q : List Int) (bp : Bytes p) (bq : Bytes q) (hp : p.length ≤ 1000000) (hq : q.length ≤ 1000000) (k : Nat) (hkp : 2 * p.length + 1 < k) (hkq : 2 * q.length + 1 < k) :
    platenref05_Alike.f k p q = some (decide (texts p = texts q)) := by
  unfold platenref05_Alike.f
  have := texts_length p
  rw [platenref05_Solid_spec p hp k hkp, Option.bind_some, platenref05_Texts_spec p hp k (by omega), Option.bind_some, platenref05_Solid_spec q hq k hkq, Option.bind_some, platenref05_Texts_spec q hq k (by omega), Option.bind_some,
    platenref05_SameTexts_spec _ _ (texts_bytes bp) (texts_bytes bq) (by omega) k (by omega), Option.bind_some]

end Go.Proofs.YtdaodcdbfaikjaaDoor.Ad
namespace Go.Proofs.YtdaodcdbfaikjaaDoor.Ad
open Go Go.RowKit Go.Proofs.YtdaodcdbfaikjaaDoor.Pa Go.Proofs.YtdaodcdbfaikjaaDoorW.PrintWords Go.Proofs.YtdaodcdbfaikjaaDoorW.PrintLast Go.Proofs.YtdaodcdbfaikjaaDoorW.PrintMore Go.Proofs.YtdaodcdbfaikjaaDoor.Gen
set_option linter.unusedVariables false
set_option linter.unusedSimpArgs false

theorem platenref03_Ends_l0 (p : List Int) (hp : p.length ≤ 1000000000) (m : Nat) : ∀ (k i : Nat) (acc : List Int), i + m = p.length → acc.length ≤ i → m < k →
    platenref03_Ends.l0 k p acc (i : Int) = some (acc ++ zs (endsF i (p.drop i))) := by
  induction m with
  | zero =>
    intro k i acc hi ha hk
    obtain ⟨k, rfl⟩ := ex_succ hk
    rw [platenref03_Ends.l0, if_neg (by omega), List.drop_eq_nil_of_le (by omega)]
    simp [endsF, zs]
  | succ m ih =>
    intro k i acc hi ha hk
    obtain ⟨k, rfl⟩ := ex_succ hk
    have hlt : i < p.length := by omega
    have hw : wrap64 ((i : Int) + 1) = ((i + 1 : Nat) : Int) := wnat (by omega)
    have h1 := ih k (i + 1) acc (by omega) (by omega) (by omega)
    have h2 := ih k (i + 1) (acc ++ [(i : Int)]) (by omega) (by simp only [List.length_append, List.length_cons, List.length_nil]; omega) (by omega)
    rw [platenref03_Ends.l0, hw, h1, h2]
    clear hw h1 h2
    rw [if_pos (by omega), if_pos (by omega), rd_nat p i hlt, if_pos (show acc.length < 17592186044416 by omega), drop_at p i hlt]
    simp only [endsF]
    by_cases h : p[i] = 10
    · rw [if_pos h, if_pos h]; simp [zs]
    · rw [if_neg h, if_neg h]
theorem platenref03_Ends_spec (p : List Int) (hp : p.length ≤ 1000000000) (k : Nat) (hk : p.length < k) : platenref03_Ends.f k p = some (zs (endsF 0 p)) := by
  have := platenref03_Ends_l0 p hp p.length k 0 [] (by omega) (by simp) hk
  simpa [platenref03_Ends.f] using this

end Go.Proofs.YtdaodcdbfaikjaaDoor.Ad
namespace Go.Proofs.YtdaodcdbfaikjaaDoor.Ad
open Go Go.RowKit Go.Proofs.YtdaodcdbfaikjaaDoor.Pa Go.Proofs.YtdaodcdbfaikjaaDoorW.PrintWords Go.Proofs.YtdaodcdbfaikjaaDoorW.PrintLast Go.Proofs.YtdaodcdbfaikjaaDoorW.PrintMore Go.Proofs.YtdaodcdbfaikjaaDoor.Gen
set_option linter.unusedVariables false
set_option linter.unusedSimpArgs false

theorem glyph_Step_spec (c b t : Nat) (x : Int) (hx : x = (b : Int)) (hc : c ≤ 1000000000) (ht : t ≤ 1000000000) (h0 : 0 < t) : glyph_Step.f (c : Int) x (t : Int) = some (stp c b t : Int) := by
  subst hx
  unfold glyph_Step.f stp
  by_cases h : b = 9
  · have e1 : Int.tmod (c : Int) (t : Int) = ((c % t : Nat) : Int) := by rw [Int.tmod_eq_emod_of_nonneg (by omega)]; rfl
    have hm := Nat.mod_lt c h0
    have hl := Nat.mod_le c t
    have w1 : wrap64 ((c : Int) + (t : Int)) = (c : Int) + (t : Int) := wid (by omega) (by omega)
    have w2 : wrap64 ((c : Int) + (t : Int) - ((c % t : Nat) : Int)) = (c : Int) + (t : Int) - ((c % t : Nat) : Int) := by clear w1; exact wid (by omega) (by omega)
    rw [if_pos (by omega), if_neg (by omega), w1, e1, w2, if_pos h]
    clear w1 w2
    congr 1; omega
  · have w1 : wrap64 ((c : Int) + 1) = ((c + 1 : Nat) : Int) := wnat (by omega)
    rw [if_neg (by omega), w1, if_neg h]
theorem byte_nat {p : List Int} (hb : Bytes p) (i : Nat) (h : i < p.length) : p[i] = ((p[i]).toNat : Int) := by
  have := hb p[i] (List.getElem_mem h); omega

end Go.Proofs.YtdaodcdbfaikjaaDoor.Ad
namespace Go.Proofs.YtdaodcdbfaikjaaDoor.Ad
open Go Go.RowKit Go.Proofs.YtdaodcdbfaikjaaDoor.Pa Go.Proofs.YtdaodcdbfaikjaaDoorW.PrintWords Go.Proofs.YtdaodcdbfaikjaaDoorW.PrintLast Go.Proofs.YtdaodcdbfaikjaaDoorW.PrintMore Go.Proofs.YtdaodcdbfaikjaaDoor.Gen
set_option linter.unusedVariables false
set_option linter.unusedSimpArgs false

theorem ex_succ' {k n : Nat} (h : n < k) : ∃ m, k = m + 1 := ⟨k - 1, by omega⟩
theorem slow_sz (n b0 b1 b2 b3 sz lo hi : Nat) : (Lib.slowN n b0 b1 b2 b3 sz lo hi).2 =
    if n < sz ∨ (b1 < lo ∨ hi < b1) then 1 else if sz ≤ 2 then 2 else if b2 < 128 ∨ 191 < b2 then 1 else if sz ≤ 3 then 3 else if b3 < 128 ∨ 191 < b3 then 1 else 4 := by
  unfold Lib.slowN
  by_cases h1 : n < sz
  · simp [h1]
  · by_cases h2 : b1 < lo ∨ hi < b1
    · simp [h1, h2]
    · simp only [h1, h2, if_false, or_self]
      (repeat' split) <;> rfl

/-- One character's size, by the bytes' numbers. -/
def szN (n b0 b1 b2 b3 : Nat) : Nat :=
  if need (b0 : Int) = 2 ∧ 2 ≤ n ∧ lo2 (b0 : Int) ≤ (b1 : Int) ∧ (b1 : Int) ≤ hi2 (b0 : Int) then 2
  else if need (b0 : Int) = 3 ∧ 3 ≤ n ∧ lo2 (b0 : Int) ≤ (b1 : Int) ∧ (b1 : Int) ≤ hi2 (b0 : Int) ∧ cont (b2 : Int) then 3
  else if need (b0 : Int) = 4 ∧ 4 ≤ n ∧ lo2 (b0 : Int) ≤ (b1 : Int) ∧ (b1 : Int) ≤ hi2 (b0 : Int) ∧ cont (b2 : Int) ∧ cont (b3 : Int) then 4 else 1

set_option maxHeartbeats 4000000 in
theorem decN_sz (n b0 b1 b2 b3 : Nat) (hn : 1 ≤ n) (h0 : b0 < 256) (h1 : b1 < 256) (h2 : b2 < 256) (h3 : b3 < 256) : (Lib.decodeN n b0 b1 b2 b3).2 = szN n b0 b1 b2 b3 := by
  have one : ∀ b : Nat, need (b : Int) = 1 → szN n b b1 b2 b3 = 1 := by
    intro b hb; simp [szN, hb]
  have slow : Lib.firstT b0 < 240 → (Lib.decodeN n b0 b1 b2 b3).2 = szN n b0 b1 b2 b3 := by
    intro hx
    rw [← Lib.slow_eq n b0 b1 b2 b3 hn h1 h2 h3 hx, slow_sz]
    rcases Lib.firstT_low hx with h | h | h | h | h | h | h
    · rw [Lib.firstT_C2 h]
      have e : need (b0 : Int) = 2 := by unfold need; rw [if_pos (by omega)]
      have el : lo2 (b0 : Int) = 128 := by unfold lo2; rw [if_neg (by omega), if_neg (by omega)]
      have eh : hi2 (b0 : Int) = 191 := by unfold hi2; rw [if_neg (by omega), if_neg (by omega)]
      simp only [szN, e, el, eh, Lib.accLo, Lib.accHi, cont]
      simp (decide := true) only [if_true, if_false, true_and, false_and, Nat.reduceDiv, Nat.reduceMod]
      (repeat' split) <;> omega
    · subst h
      simp only [szN, show need ((224 : Nat) : Int) = 3 by decide, show lo2 ((224 : Nat) : Int) = 160 by decide, show hi2 ((224 : Nat) : Int) = 191 by decide, show Lib.firstT 224 = 19 by decide, Lib.accLo, Lib.accHi, cont]
      simp (decide := true) only [if_true, if_false, true_and, false_and, Nat.reduceDiv, Nat.reduceMod]
      (repeat' split) <;> omega
    · rw [Lib.firstT_E1 h]
      have e : need (b0 : Int) = 3 := by unfold need; rw [if_neg (by omega), if_pos (by omega)]
      have el : lo2 (b0 : Int) = 128 := by unfold lo2; rw [if_neg (by omega), if_neg (by omega)]
      have eh : hi2 (b0 : Int) = 191 := by unfold hi2; rw [if_neg (by omega), if_neg (by omega)]
      simp only [szN, e, el, eh, Lib.accLo, Lib.accHi, cont]
      simp (decide := true) only [if_true, if_false, true_and, false_and, Nat.reduceDiv, Nat.reduceMod]
      (repeat' split) <;> omega
    · subst h
      simp only [szN, show need ((237 : Nat) : Int) = 3 by decide, show lo2 ((237 : Nat) : Int) = 128 by decide, show hi2 ((237 : Nat) : Int) = 159 by decide, show Lib.firstT 237 = 35 by decide, Lib.accLo, Lib.accHi, cont]
      simp (decide := true) only [if_true, if_false, true_and, false_and, Nat.reduceDiv, Nat.reduceMod]
      (repeat' split) <;> omega
    · subst h
      simp only [szN, show need ((240 : Nat) : Int) = 4 by decide, show lo2 ((240 : Nat) : Int) = 144 by decide, show hi2 ((240 : Nat) : Int) = 191 by decide, show Lib.firstT 240 = 52 by decide, Lib.accLo, Lib.accHi, cont]
      simp (decide := true) only [if_true, if_false, true_and, false_and, Nat.reduceDiv, Nat.reduceMod]
      (repeat' split) <;> omega
    · rw [Lib.firstT_F1 h]
      have e : need (b0 : Int) = 4 := by unfold need; rw [if_neg (by omega), if_neg (by omega), if_pos (by omega)]
      have el : lo2 (b0 : Int) = 128 := by unfold lo2; rw [if_neg (by omega), if_neg (by omega)]
      have eh : hi2 (b0 : Int) = 191 := by unfold hi2; rw [if_neg (by omega), if_neg (by omega)]
      simp only [szN, e, el, eh, Lib.accLo, Lib.accHi, cont]
      simp (decide := true) only [if_true, if_false, true_and, false_and, Nat.reduceDiv, Nat.reduceMod]
      (repeat' split) <;> omega
    · subst h
      simp only [szN, show need ((244 : Nat) : Int) = 4 by decide, show lo2 ((244 : Nat) : Int) = 128 by decide, show hi2 ((244 : Nat) : Int) = 143 by decide, show Lib.firstT 244 = 68 by decide, Lib.accLo, Lib.accHi, cont]
      simp (decide := true) only [if_true, if_false, true_and, false_and, Nat.reduceDiv, Nat.reduceMod]
      (repeat' split) <;> omega
  by_cases ha : b0 < 128
  · have hx : Lib.firstT b0 = 240 := by unfold Lib.firstT; rw [if_pos ha]
    rw [Lib.ascii_eq n b0 b1 b2 b3 hx, one b0 (by unfold need; rw [if_neg (by omega), if_neg (by omega), if_neg (by omega)])]
  · by_cases hb : b0 < 194 ∨ 244 < b0
    · have hx : Lib.firstT b0 = 241 := by unfold Lib.firstT; (repeat' split) <;> omega
      rw [Lib.bad_eq n b0 b1 b2 b3 h0 hx, one b0 (by unfold need; rw [if_neg (by omega), if_neg (by omega), if_neg (by omega)])]
    · have hx : Lib.firstT b0 < 240 := by
        clear slow one
        have e1 : 194 ≤ b0 := by omega
        have e2 : b0 ≤ 244 := by omega
        clear hb
        unfold Lib.firstT
        (repeat' split) <;> omega
      exact slow hx

theorem decL_sz (l : List Int) (hb : Bytes l) : (decL l).2 = gsz l := by
  have nat : ∀ x ∈ l, ∃ n : Nat, n < 256 ∧ x = (n : Int) := fun x hx => ⟨x.toNat, by have := hb x hx; omega, by have := hb x hx; omega⟩
  match l, nat with
  | [], _ => rfl
  | [b], nat =>
    obtain ⟨b0, h0, rfl⟩ := nat b (by simp)
    simp only [decL, List.length_cons, List.length_nil, List.getD_cons_zero, List.getD_cons_succ, List.getD_nil, Int.toNat_natCast]
    rw [if_neg (by omega), decN_sz _ _ _ _ _ (by omega) h0 (by simp) (by simp) (by simp)]
    simp [szN, gsz]
  | [b, c], nat =>
    obtain ⟨b0, h0, rfl⟩ := nat b (by simp)
    obtain ⟨b1, h1, rfl⟩ := nat c (by simp)
    simp only [decL, List.length_cons, List.length_nil, List.getD_cons_zero, List.getD_cons_succ, List.getD_nil, Int.toNat_natCast]
    rw [if_neg (by omega), decN_sz _ _ _ _ _ (by omega) h0 h1 (by simp) (by simp)]
    simp [szN, gsz]
  | [b, c, d], nat =>
    obtain ⟨b0, h0, rfl⟩ := nat b (by simp)
    obtain ⟨b1, h1, rfl⟩ := nat c (by simp)
    obtain ⟨b2, h2, rfl⟩ := nat d (by simp)
    simp only [decL, List.length_cons, List.length_nil, List.getD_cons_zero, List.getD_cons_succ, List.getD_nil, Int.toNat_natCast]
    rw [if_neg (by omega), decN_sz _ _ _ _ _ (by omega) h0 h1 h2 (by simp)]
    simp [szN, gsz]
  | b :: c :: d :: e :: t, nat =>
    obtain ⟨b0, h0, rfl⟩ := nat b (by simp)
    obtain ⟨b1, h1, rfl⟩ := nat c (by simp)
    obtain ⟨b2, h2, rfl⟩ := nat d (by simp)
    obtain ⟨b3, h3, rfl⟩ := nat e (by simp)
    simp only [decL, List.length_cons, List.length_nil, List.getD_cons_zero, List.getD_cons_succ, List.getD_nil, Int.toNat_natCast]
    rw [if_neg (by omega), decN_sz _ _ _ _ _ (by omega) h0 h1 h2 h3]
    simp [szN, gsz]

theorem bytes_take {l : List Int} (h : Bytes l) (n : Nat) : Bytes (l.take n) := fun x hx => h x (List.mem_of_mem_take hx)
theorem bytes_drop {l : List Int} (h : Bytes l) (n : Nat) : Bytes (l.drop n) := fun x hx => h x (List.mem_of_mem_drop hx)
theorem slow_f (l : List Int) (hb : Bytes l) : utf8_decodeRuneSlow.f l = some (((decL l).1 : Int), ((decL l).2 : Int)) := by
  unfold utf8_decodeRuneSlow.f
  rw [if_pos]
  rw [List.all_eq_true]
  intro x hx
  have := hb x (List.mem_of_mem_take hx)
  simp only [byteB, Bool.and_eq_true, decide_eq_true_eq]
  omega

/-- The character that the decoder tells. -/
def runeOf (l : List Int) : Int := if 0 < l.length ∧ l.getD 0 0 < 128 then wrap32 (l.getD 0 0) else ((decL l).1 : Int)

theorem utf8_DecodeRune_spec (l : List Int) (hb : Bytes l) (k : Nat) (hk : 0 < k) : utf8_DecodeRune.f k l = some (runeOf l, (gsz l : Int)) := by
  obtain ⟨k, rfl⟩ := ex_succ' hk
  unfold utf8_DecodeRune.f
  simp only [utf8_DecodeRune.l0]
  by_cases h : 0 < l.length
  · rw [if_pos (by omega), if_pos (by omega), if_pos (by omega)]
    have e : rd l 0 = l.getD 0 0 := by simp [rd]
    have e2 : l.getD 0 0 = l[0] := by simp [h]
    by_cases h1 : rd l 0 < 128
    · rw [if_pos h1]
      have : gsz l = 1 := by
        rcases Nat.lt_or_ge (gsz l) 2 with h2 | h2
        · have := gsz_pos (q := l) (by intro e; rw [e] at h; simp at h); omega
        · exfalso
          have hn : need l[0] = 1 := by
            unfold need; rw [e, e2] at h1
            rw [if_neg (by omega), if_neg (by omega), if_neg (by omega)]
          match l, h with
          | [_], _ => simp [gsz] at h2
          | [b, c], _ => simp at hn; simp [gsz, hn] at h2
          | [b, c, d], _ => simp at hn; simp [gsz, hn] at h2
          | b :: c :: d :: e :: t, _ => simp at hn; simp [gsz, hn] at h2
      rw [this, e, runeOf, if_pos ⟨h, by rw [← e]; exact h1⟩]; rfl
    · rw [if_neg h1, slow_f l hb, Option.bind_some, decL_sz l hb, runeOf, if_neg (fun c => h1 (by rw [e]; exact c.2))]
  · rw [if_neg (by omega), slow_f l hb, Option.bind_some, decL_sz l hb, runeOf, if_neg (fun c => h c.1)]

end Go.Proofs.YtdaodcdbfaikjaaDoor.Ad
namespace Go.Proofs.YtdaodcdbfaikjaaDoor.Ad
open Go Go.RowKit Go.Proofs.YtdaodcdbfaikjaaDoor.Pa Go.Proofs.YtdaodcdbfaikjaaDoorW.PrintWords Go.Proofs.YtdaodcdbfaikjaaDoorW.PrintLast Go.Proofs.YtdaodcdbfaikjaaDoorW.PrintMore Go.Proofs.YtdaodcdbfaikjaaDoor.Gen
set_option linter.unusedVariables false
set_option linter.unusedSimpArgs false

theorem glyph_Fill_l0 (w t : Nat) (sp : Bool) (h0 : 0 < t) (ht : t ≤ 1000) (hw : w ≤ 100000000) (n : Nat) : ∀ (k c : Nat) (acc : List Int), w ≤ c + n → c ≤ 100000000 → acc.length + n ≤ 200000000 → n < k →
    glyph_Fill.l0 k (c : Int) (w : Int) (t : Int) sp acc = some (acc ++ fillF n c w t sp) := by
  induction n with
  | zero =>
    intro k c acc h1 h2 _ hk
    obtain ⟨k, rfl⟩ := ex_succ' hk
    simp only [glyph_Fill.l0, fillF]
    rw [if_neg (by omega), List.append_nil]
  | succ n ih =>
    intro k c acc h1 h2 ha hk
    obtain ⟨k, rfl⟩ := ex_succ' hk
    have hg := stp_gt c 9 t h0
    have hs := stp_le c 9 t h0
    have e9 := glyph_Step_spec c 9 t 9 rfl (by omega) (by omega) h0
    have e32 : glyph_Step.f (c : Int) 32 (t : Int) = some ((c + 1 : Nat) : Int) := glyph_Step_spec c 32 t 32 rfl (by omega) (by omega) h0
    have hal : acc.length < 140737488355328 := by omega
    have hn32 : c < w → glyph_Fill.l0 k ((c + 1 : Nat) : Int) (w : Int) (t : Int) sp (acc ++ [32]) = some (acc ++ 32 :: fillF n (c + 1) w t sp) := by
      intro hcw
      rw [ih k (c + 1) (acc ++ [32]) (by omega) (by omega) (by simp only [List.length_append, List.length_cons, List.length_nil]; omega) (by omega), List.append_assoc]
      rfl
    simp only [glyph_Fill.l0, fillF]
    by_cases h : c < w
    · have hw1 : wrap64 ((stp c 9 t : Int) - (c : Int)) = (stp c 9 t : Int) - (c : Int) := wid (by omega) (by omega)
      rw [if_pos (by omega), if_pos h, e9, Option.bind_some, hw1, e32]
      simp only [Option.bind_some, if_pos hal]
      clear hw1
      cases sp with
      | true =>
        rw [if_pos rfl, if_neg (by simp)]
        exact hn32 h
      | false =>
        rw [if_neg (by simp)]
        by_cases g1 : stp c 9 t ≤ w
        · rw [if_pos (by omega)]
          by_cases g2 : c + 1 < stp c 9 t
          · rw [if_pos (by omega), if_pos ⟨rfl, g1, g2⟩, ih k (stp c 9 t) (acc ++ [9]) (by omega) (by omega) (by simp only [List.length_append, List.length_cons, List.length_nil]; omega) (by omega), List.append_assoc]
            rfl
          · rw [if_neg (by omega), if_neg (fun e => g2 e.2.2)]
            exact hn32 h
        · rw [if_neg (by omega), if_neg (fun e => g1 e.2.1)]
          exact hn32 h
    · rw [if_neg (by omega), if_neg h, List.append_nil]
theorem glyph_Fill_spec (c w t : Nat) (sp : Bool) (h0 : 0 < t) (ht : t ≤ 1000) (hc : c ≤ 10000000) (hw : w ≤ 10000000) (k : Nat) (hk : w < k + c) (hk0 : 0 < k) : glyph_Fill.f k (c : Int) (w : Int) (t : Int) sp = some (fill c w t sp) := by
  have := glyph_Fill_l0 w t sp h0 ht (by omega) (w - c) k c [] (by omega) (by omega) (by simp; omega) (by omega)
  simpa [glyph_Fill.f, fill] using this

end Go.Proofs.YtdaodcdbfaikjaaDoor.Ad
namespace Go.Proofs.YtdaodcdbfaikjaaDoor.Ad
open Go Go.RowKit Go.Proofs.YtdaodcdbfaikjaaDoor.Pa Go.Proofs.YtdaodcdbfaikjaaDoorW.PrintWords Go.Proofs.YtdaodcdbfaikjaaDoorW.PrintLast Go.Proofs.YtdaodcdbfaikjaaDoorW.PrintMore Go.Proofs.YtdaodcdbfaikjaaDoor.Gen
set_option linter.unusedVariables false
set_option linter.unusedSimpArgs false

theorem glyph_Next_spec (p : List Int) (hb : Bytes p) (i : Nat) (hi : i < p.length) (k : Nat) (hk : 0 < k) : glyph_Next.f k p (i : Int) = some (gsz (p.drop i) : Int) := by
  unfold glyph_Next.f
  rw [if_neg (by omega), if_neg (by omega), if_pos (by omega), if_pos (by omega), Int.toNat_natCast, utf8_DecodeRune_spec _ (bytes_drop hb i) k hk, Option.bind_some]

end Go.Proofs.YtdaodcdbfaikjaaDoor.Ad
namespace Go.Proofs.YtdaodcdbfaikjaaDoor.Ad
open Go Go.RowKit Go.Proofs.YtdaodcdbfaikjaaDoor.Pa Go.Proofs.YtdaodcdbfaikjaaDoorW.PrintWords Go.Proofs.YtdaodcdbfaikjaaDoorW.PrintLast Go.Proofs.YtdaodcdbfaikjaaDoorW.PrintMore Go.Proofs.YtdaodcdbfaikjaaDoor.Gen
set_option linter.unusedVariables false
set_option linter.unusedSimpArgs false

theorem glyph_Wide_l0 (p : List Int) (hb : Bytes p) (t : Nat) (h0 : 0 < t) (ht : t ≤ 1000) (hp : p.length ≤ 100000000) (n : Nat) : ∀ (k x c : Nat), x ≤ p.length → p.length ≤ x + n → c + (p.length - x) * t ≤ 900000000 → n + 1 < k →
    glyph_Wide.l0 k p (c : Int) (t : Int) (x : Int) = some (wid_ (p.drop x) c t : Int) := by
  induction n with
  | zero =>
    intro k x c h1 h2 _ hk
    obtain ⟨k, rfl⟩ := ex_succ' hk
    simp only [glyph_Wide.l0]
    rw [if_neg (by omega), List.drop_eq_nil_of_le (by omega), wid_nil]
  | succ n ih =>
    intro k x c h1 h2 hc hk
    obtain ⟨k, rfl⟩ := ex_succ' hk
    simp only [glyph_Wide.l0]
    by_cases h : x < p.length
    · have hg := gd_pos p x h
      have hle := gd_le p x h1
      have hs := stp_le c p[x].toNat t h0
      have hmul : (p.length - (x + gsz (p.drop x))) * t + t ≤ (p.length - x) * t := by
        have := Nat.mul_le_mul_right t (show (p.length - (x + gsz (p.drop x))) + 1 ≤ p.length - x by omega)
        rw [Nat.add_mul, Nat.one_mul] at this; exact this
      have hnext := ih k (x + gsz (p.drop x)) (stp c p[x].toNat t) (by omega) (by omega) (by omega) (by omega)
      have hnx := glyph_Next_spec p hb x h k (by omega)
      rw [if_pos (by omega), if_pos (by omega), rd_nat p x h, glyph_Step_spec c p[x].toNat t _ (byte_nat hb x h) (by omega) (by omega) h0, Option.bind_some]
      have hw : wrap64 ((x : Int) + (gsz (p.drop x) : Int)) = ((x + gsz (p.drop x) : Nat) : Int) := by
        rw [← Int.natCast_add]
        exact wid (by omega) (by omega)
      rw [hnx, Option.bind_some, hw, hnext, wid_at p x h]
    · rw [if_neg (by omega), List.drop_eq_nil_of_le (by omega), wid_nil]
theorem glyph_Wide_long (p : List Int) (hb : Bytes p) (c t : Nat) (h0 : 0 < t) (ht : t ≤ 1000) (hp : p.length ≤ 100000000) (hm : p.length * t ≤ 100000000) (hc : c ≤ 1000000) (k : Nat) (hk : p.length + 1 < k) :
    glyph_Wide.f k p (c : Int) (t : Int) = some (wid_ p c t : Int) := by
  have := glyph_Wide_l0 p hb t h0 ht hp p.length k 0 c (by omega) (by omega) (by simp only [Nat.sub_zero]; omega) hk
  simpa [glyph_Wide.f] using this

end Go.Proofs.YtdaodcdbfaikjaaDoor.Ad
namespace Go.Proofs.YtdaodcdbfaikjaaDoor.Ad
open Go Go.RowKit Go.Proofs.YtdaodcdbfaikjaaDoor.Pa Go.Proofs.YtdaodcdbfaikjaaDoorW.PrintWords Go.Proofs.YtdaodcdbfaikjaaDoorW.PrintLast Go.Proofs.YtdaodcdbfaikjaaDoorW.PrintMore Go.Proofs.YtdaodcdbfaikjaaDoor.Gen
set_option linter.unusedVariables false
set_option linter.unusedSimpArgs false

theorem glyph_Blank_spec (c : Int) : glyph_Blank.f c = some (decide (c = 32 ∨ c = 9)) := by
  unfold glyph_Blank.f
  split
  · simp [*]
  · rw [Option.some_inj, Bool.eq_iff_iff]; simp; omega

end Go.Proofs.YtdaodcdbfaikjaaDoor.Ad
namespace Go.Proofs.YtdaodcdbfaikjaaDoor.Ad
open Go Go.RowKit Go.Proofs.YtdaodcdbfaikjaaDoor.Pa Go.Proofs.YtdaodcdbfaikjaaDoorW.PrintWords Go.Proofs.YtdaodcdbfaikjaaDoorW.PrintLast Go.Proofs.YtdaodcdbfaikjaaDoorW.PrintMore Go.Proofs.YtdaodcdbfaikjaaDoor.Gen
set_option linter.unusedVariables false
set_option linter.unusedSimpArgs false

theorem bl_dec (c : Int) : decide (c = 32 ∨ c = 9) = bl c := rfl
theorem lines_Indent_l0 (s : ByteArray) (hs : s.size ≤ 1000000000) (m : Nat) : ∀ (k i : Nat), i + m = s.size → m < k →
    lines_Indent.l0 k s (s.size : Int) (i : Int) = some ((i + ind ((bytesOf s).drop i) : Nat) : Int) := by
  have hl := bytesOf_length s
  induction m with
  | zero =>
    intro k i hi hk
    obtain ⟨k, rfl⟩ := ex_succ hk
    rw [lines_Indent.l0, if_neg (by omega), List.drop_eq_nil_of_le (by omega), ind_nil, Nat.add_zero, show i = s.size by omega]
  | succ m ih =>
    intro k i hi hk
    obtain ⟨k, rfl⟩ := ex_succ hk
    have hlt : i < (bytesOf s).length := by omega
    have hw : wrap64 ((i : Int) + 1) = ((i + 1 : Nat) : Int) := wnat (by omega)
    rw [lines_Indent.l0, hw, ih k (i + 1) (by omega) (by omega)]
    clear hw
    rw [if_pos (by omega), if_pos (by omega), if_pos (by omega), bt_get s i hlt, glyph_Blank_spec, Option.bind_some, bl_dec, drop_at _ i hlt]
    by_cases h : bl (bytesOf s)[i] = true
    · rw [if_pos h, ind_cons_pos h, show i + 1 + ind ((bytesOf s).drop (i + 1)) = i + (1 + ind ((bytesOf s).drop (i + 1))) by omega]
    · rw [if_neg h, ind_cons_neg (by simpa using h)]; rfl
theorem lines_Indent_spec (s : ByteArray) (hs : s.size ≤ 1000000000) (k : Nat) (hk : s.size < k) : lines_Indent.f k s = some (ind (bytesOf s) : Int) := by
  have := lines_Indent_l0 s hs s.size k 0 (by omega) hk
  rw [List.drop_zero, Nat.zero_add] at this
  exact this
theorem lines_Bare_spec (s : ByteArray) (hs : s.size ≤ 1000000000) (k : Nat) (hk : s.size < k) : lines_Bare.f k s = some (decide (ind (bytesOf s) = (bytesOf s).length)) := by
  unfold lines_Bare.f
  rw [lines_Indent_spec s hs k hk, Option.bind_some, bytesOf_length, Option.some_inj, Bool.eq_iff_iff]
  simp
  omega

end Go.Proofs.YtdaodcdbfaikjaaDoor.Ad
namespace Go.Proofs.YtdaodcdbfaikjaaDoor.Ad
open Go Go.RowKit Go.Proofs.YtdaodcdbfaikjaaDoor.Pa Go.Proofs.YtdaodcdbfaikjaaDoorW.PrintWords Go.Proofs.YtdaodcdbfaikjaaDoorW.PrintLast Go.Proofs.YtdaodcdbfaikjaaDoorW.PrintMore Go.Proofs.YtdaodcdbfaikjaaDoor.Gen
set_option linter.unusedVariables false
set_option linter.unusedSimpArgs false

theorem lim_mm (x : Int) : mn (mx x (-9999)) 9999 = lim x := by
  unfold mn mx lim; (repeat' split) <;> omega
theorem lim_bd (x : Int) : -9999 ≤ lim x ∧ lim x ≤ 9999 := by unfold lim; (repeat' split) <;> omega
theorem lim_mul (x : Int) (sh : Nat) (h : sh ≤ 16) : -159984 ≤ lim x * (sh : Int) ∧ lim x * (sh : Int) ≤ 159984 := by
  have hb := lim_bd x
  have h1 := Int.mul_le_mul_of_nonneg_right hb.2 (show (0 : Int) ≤ (sh : Int) by omega)
  have h2 := Int.mul_le_mul_of_nonneg_right hb.1 (show (0 : Int) ≤ (sh : Int) by omega)
  omega
theorem cut_str (s : ByteArray) (n : Nat) : s.extract n s.size = strOfNums ((bytesOf s).drop n) := by
  have h := bytesOf_length s
  rw [← str_bytesOf (s.extract n s.size), bytesOf_extract, List.take_of_length_le (by omega)]
theorem wid_ind (l : List Int) (t : Nat) (h0 : 0 < t) (ht : t ≤ 16) : wid_ (l.take (ind l)) 0 t ≤ l.length * 16 ∧ (l.take (ind l)).length * t ≤ l.length * 16 := by
  have h1 := (wid_le _ (l.take (ind l)) 0 t (Nat.le_refl _) h0).2.1
  have h2 := Nat.mul_le_mul (show (l.take (ind l)).length ≤ l.length by simp only [List.length_take]; omega) ht
  omega
theorem shift_Line_spec (s : ByteArray) (hs : s.size ≤ 200000) (x W tab : Int) (ht : tab ≤ 16) (sh : Nat) (hsh : sh ≤ 16) (ex b : Bool) (k : Nat) (hk : 4000000 < k) :
    shift_Line.f k s x W tab (sh : Int) ex b = some (strOfNums (shf (bytesOf s) (lim x * (sh : Int)) (tb tab) ex)) := by
  have hl := bytesOf_length s
  have hb := bytesOf_bytes s
  have hm := lim_mul x sh hsh
  have htb : tb tab ≤ 16 := by unfold tb; omega
  have h0 := tb_pos tab
  have hi := ind_le (bytesOf s)
  unfold shift_Line.f
  rw [lines_Bare_spec s (by omega) k (by omega), Option.bind_some]
  by_cases h : ind (bytesOf s) = (bytesOf s).length
  · rw [if_pos (by simpa using h), shf_bare h, str_bytesOf]
  · have hw := wid_ind (bytesOf s) (tb tab) h0 htb
    have hn : (s.extract 0 (ind (bytesOf s))).size ≤ 9223372036854775807 := by
      rw [← bytesOf_length, bytesOf_extract]; simp only [List.length_drop, List.length_take]; omega
    rw [if_neg (by simpa using h), lines_Indent_spec s (by omega) k (by omega), Option.bind_some, if_pos (by omega), if_pos (by omega), Int.toNat_natCast, if_pos hn, bytesOf_extract, List.drop_zero, mx_tb, lim_mm]
    have hg := glyph_Wide_long ((bytesOf s).take (ind (bytesOf s))) (bytes_take hb _) 0 (tb tab) h0 (by omega) (by simp only [List.length_take]; omega) (by omega) (by omega) k (by simp only [List.length_take]; omega)
    rw [show ((0 : Nat) : Int) = 0 from rfl] at hg
    rw [hg, Option.bind_some]
    unfold shf
    rw [if_neg h]
    generalize wid_ ((bytesOf s).take (ind (bytesOf s))) 0 (tb tab) = w at *
    have e : mx (wrap64 ((w : Int) + wrap64 (lim x * (sh : Int)))) 0 = ((((w : Int) + lim x * (sh : Int)).toNat : Nat) : Int) := by
      generalize lim x * (sh : Int) = d at *
      rw [wid (x := d) (by omega) (by omega), wid (by omega) (by omega)]
      unfold mx; split <;> omega
    rw [e]
    clear e
    have hf := glyph_Fill_spec 0 ((w : Int) + lim x * (sh : Int)).toNat (tb tab) ex h0 (by omega) (by omega) (by omega) k (by omega) (by omega)
    rw [show ((0 : Nat) : Int) = 0 from rfl] at hf
    have hlen := fill_len ((w : Int) + lim x * (sh : Int)).toNat (tb tab) ex 0
    rw [hf, Option.bind_some, cut_str, str_append, strOfNums_size, strOfNums_size, if_pos (by simp only [List.length_drop]; omega)]
theorem shift_Canonical_spec (s : ByteArray) (hs : s.size ≤ 200000) (W tab sh : Int) (ht : tab ≤ 16) (ex b : Bool) (k : Nat) (hk : 4000000 < k) :
    shift_Canonical.f k s W tab sh ex b = some (decide (canon (bytesOf s) (tb tab) ex)) := by
  have hl := bytesOf_length s
  have hb := bytesOf_bytes s
  have htb : tb tab ≤ 16 := by unfold tb; omega
  have h0 := tb_pos tab
  have hi := ind_le (bytesOf s)
  unfold shift_Canonical.f
  rw [lines_Indent_spec s (by omega) k (by omega), Option.bind_some, lines_Bare_spec s (by omega) k (by omega), Option.bind_some]
  by_cases h : ind (bytesOf s) = (bytesOf s).length
  · rw [if_pos (by simpa using h), decide_eq_true (show canon (bytesOf s) (tb tab) ex from .inl h)]
  · have hw := wid_ind (bytesOf s) (tb tab) h0 htb
    have hx : s.extract 0 (ind (bytesOf s)) = strOfNums ((bytesOf s).take (ind (bytesOf s))) := by
      rw [← str_bytesOf (s.extract 0 (ind (bytesOf s))), bytesOf_extract, List.drop_zero]
    have hn : (s.extract 0 (ind (bytesOf s))).size ≤ 9223372036854775807 := by
      rw [← bytesOf_length, bytesOf_extract]; simp only [List.length_drop, List.length_take]; omega
    rw [if_neg (by simpa using h), if_pos (by omega), if_pos (by omega), Int.toNat_natCast, if_pos hn, bytesOf_extract, List.drop_zero, mx_tb]
    have hg := glyph_Wide_long ((bytesOf s).take (ind (bytesOf s))) (bytes_take hb _) 0 (tb tab) h0 (by omega) (by simp only [List.length_take]; omega) (by omega) (by omega) k (by simp only [List.length_take]; omega)
    rw [show ((0 : Nat) : Int) = 0 from rfl] at hg
    rw [hg, Option.bind_some]
    have hf := glyph_Fill_spec 0 (wid_ ((bytesOf s).take (ind (bytesOf s))) 0 (tb tab)) (tb tab) ex h0 (by omega) (by omega) (by omega) k (by omega) (by omega)
    rw [show ((0 : Nat) : Int) = 0 from rfl] at hf
    rw [hf, Option.bind_some, hx, Option.some_inj, Bool.eq_iff_iff, beq_iff_eq, decide_eq_true_eq]
    constructor
    · intro e
      exact .inr (strOfNums_inj (bytes_fill _ _ _ _) (bytes_take hb _) e)
    · intro e
      rcases e with e | e
      · exact absurd e h
      · rw [e]

end Go.Proofs.YtdaodcdbfaikjaaDoor.Ad
namespace Go.Proofs.YtdaodcdbfaikjaaDoor.Ad
open Go Go.RowKit Go.Proofs.YtdaodcdbfaikjaaDoor.Pa Go.Proofs.YtdaodcdbfaikjaaDoorW.PrintWords Go.Proofs.YtdaodcdbfaikjaaDoorW.PrintLast Go.Proofs.YtdaodcdbfaikjaaDoorW.PrintMore Go.Proofs.YtdaodcdbfaikjaaDoor.Gen
set_option linter.unusedVariables false
set_option linter.unusedSimpArgs false

theorem u8_inj {a b : Int} (ha : 0 ≤ a ∧ a ≤ 255) (hb : 0 ≤ b ∧ b ≤ 255) : (UInt8.ofNat a.toNat = UInt8.ofNat b.toNat) ↔ a = b := by
  constructor
  · intro h
    have h3 := congrArg UInt8.toNat h
    rw [UInt8.toNat_ofNat', UInt8.toNat_ofNat'] at h3
    omega
  · intro h; rw [h]
theorem countByte_nl (p : List Int) (hb : Bytes p) : Lib.countByte (Lib.bytesOf p) (10 : Int).toNat.toUInt8 = nls p := by
  induction p with
  | nil => rfl
  | cons c t ih =>
    have hc := hb c (by simp)
    have := ih fun x hx => hb x (by simp [hx])
    rw [nls_cons, ← this]
    unfold Lib.countByte Lib.bytesOf
    rw [List.map_cons, List.count_cons]
    have e := u8_inj hc (show 0 ≤ (10 : Int) ∧ (10 : Int) ≤ 255 by omega)
    by_cases h : c = 10
    · subst h; simp; omega
    · rw [if_neg h, if_neg (by intro hh; exact h (e.1 (by simpa using hh)))]; omega
theorem bytes_Count_spec (p : List Int) (hb : Bytes p) : bytes_Count.f p [10] = some (nls p : Int) := by
  unfold bytes_Count.f
  rw [if_pos (show ([10] : List Int).length = 1 from rfl), show ([10] : List Int).getD 0 0 = 10 from rfl, countByte_nl p hb]
theorem indexByte_fb (p : List Int) (hb : Bytes p) (c : Int) (hc : 0 ≤ c ∧ c ≤ 255) : Lib.indexByte (Lib.bytesOf p) c.toNat.toUInt8 = fb p c := by
  induction p with
  | nil => rfl
  | cons b t ih =>
    have hbb := hb b (by simp)
    have := ih fun x hx => hb x (by simp [hx])
    have e := u8_inj hbb hc
    have e' : Lib.bytesOf (b :: t) = UInt8.ofNat b.toNat :: Lib.bytesOf t := rfl
    rw [e', Lib.indexByte, fb, this]
    by_cases h : b = c
    · subst h; simp
    · rw [if_neg h, if_neg (by intro hh; exact h (e.1 (by simpa using hh)))]
      by_cases h2 : fb t c = -1
      · rw [if_pos h2, if_pos (by simp [h2])]
      · rw [if_neg h2, if_neg (by simp [h2])]

end Go.Proofs.YtdaodcdbfaikjaaDoor.Ad
namespace Go.Proofs.YtdaodcdbfaikjaaDoor.Ad
open Go Go.RowKit Go.Proofs.YtdaodcdbfaikjaaDoor.Pa Go.Proofs.YtdaodcdbfaikjaaDoorW.PrintWords Go.Proofs.YtdaodcdbfaikjaaDoorW.PrintLast Go.Proofs.YtdaodcdbfaikjaaDoorW.PrintMore Go.Proofs.YtdaodcdbfaikjaaDoor.Gen
set_option linter.unusedVariables false
set_option linter.unusedSimpArgs false

theorem bytes_Index_spec (p : List Int) (hb : Bytes p) : bytes_Index.f p [10] = some (fb p 10) := by
  unfold bytes_Index.f
  rw [if_pos (show ([10] : List Int).length = 1 from rfl), show ([10] : List Int).getD 0 0 = 10 from rfl, indexByte_fb p hb 10 (by omega)]
theorem set_next (L : List (List Int)) (i : Nat) (h : i < L.length) : (L.take i ++ List.replicate (L.length - i) []).set i L[i] = L.take (i + 1) ++ List.replicate (L.length - (i + 1)) [] := by
  have e : List.replicate (L.length - i) ([] : List Int) = [] :: List.replicate (L.length - (i + 1)) [] := by
    rw [show L.length - i = (L.length - (i + 1)) + 1 by omega, List.replicate_succ]
  rw [e, List.set_append_right _ _ (by simp only [List.length_take]; omega), List.length_take, show i - min i L.length = 0 by omega, List.set_cons_zero, List.take_succ_eq_append_getElem h, List.append_assoc]
  rfl
theorem genSplit_l0 (p : List Int) (hb : Bytes p) (hp : p.length ≤ 1000000000) (m : Nat) : ∀ (k i : Nat), i + m + 1 = (lns p).length → m < k →
    bytes_genSplit.l0 k (jn ((lns p).drop i)) [10] 0 (((lns p).length : Int) - 1) ((lns p).take i ++ List.replicate ((lns p).length - i) []) (i : Int) = some (lns p) := by
  have hcnt := lns_count p
  have hnl := nls_le p
  induction m with
  | zero =>
    intro k i hi hk
    obtain ⟨k, rfl⟩ := ex_succ hk
    have hlt : i < (lns p).length := by omega
    have hlen : ((lns p).take i ++ List.replicate ((lns p).length - i) ([] : List Int)).length = (lns p).length := by simp only [List.length_append, List.length_take, List.length_replicate]; omega
    have e1 : jn ((lns p).drop i) = (lns p)[i] := by
      rw [List.drop_eq_getElem_cons hlt, List.drop_eq_nil_of_le (by omega)]; rfl
    have e2 : ((lns p).take i ++ List.replicate ((lns p).length - i) ([] : List Int)).set i (lns p)[i] = lns p := by
      rw [set_next _ i hlt, show (lns p).length - (i + 1) = 0 by omega, List.take_of_length_le (by omega)]; simp
    rw [bytes_genSplit.l0, if_neg (by omega), if_pos (by omega), hlen, if_pos (by omega), wnat (by omega), if_pos (by omega), if_pos (by omega), Int.toNat_natCast, Int.toNat_natCast, e1, e2, List.take_of_length_le (by omega)]
  | succ m ih =>
    intro k i hi hk
    obtain ⟨k, rfl⟩ := ex_succ hk
    have hlt : i < (lns p).length := by omega
    have hlen : ((lns p).take i ++ List.replicate ((lns p).length - i) ([] : List Int)).length = (lns p).length := by simp only [List.length_append, List.length_take, List.length_replicate]; omega
    have hd := List.drop_eq_getElem_cons hlt
    have hne : (lns p).drop (i + 1) ≠ [] := by
      intro e; have := congrArg List.length e; simp only [List.length_drop, List.length_nil] at this; omega
    have hj : jn ((lns p).drop i) = (lns p)[i] ++ 10 :: jn ((lns p).drop (i + 1)) := by rw [hd, jn_cons _ hne]
    have hnd : (lns p).drop i ≠ [] := by intro e; have := congrArg List.length e; simp only [List.length_drop, List.length_nil] at this; omega
    have hll : lns (jn ((lns p).drop i)) = (lns p)[i] :: (lns p).drop (i + 1) := (lns_jn hnd (fun l hl => lns_free p l (List.mem_of_mem_drop hl))).trans hd
    have hbj : Bytes (jn ((lns p).drop i)) := fun c hc => hb c (by
      rw [← line_drop hlt] at hc; exact List.mem_of_mem_drop hc)
    have hfb := fb_line _ hll
    rw [if_neg hne] at hfb
    have hjl : (jn ((lns p).drop i)).length = (lns p)[i].length + 1 + (jn ((lns p).drop (i + 1))).length := by rw [hj]; simp only [List.length_append, List.length_cons]; omega
    have hle := off_le hlt
    have hjp : (jn ((lns p).drop i)).length ≤ p.length := by rw [← line_drop hlt]; simp only [List.length_drop]; omega
    have ht : (jn ((lns p).drop i)).take (lns p)[i].length = (lns p)[i] := by rw [hj, List.take_left]
    have hdr : (jn ((lns p).drop i)).drop ((lns p)[i].length + 1) = jn ((lns p).drop (i + 1)) := by
      rw [hj, ← List.drop_drop, List.drop_left, List.drop_succ_cons, List.drop_zero]
    have hnext := ih k (i + 1) (by omega) (by omega)
    rw [bytes_genSplit.l0, if_pos (by omega), bytes_Index_spec _ hbj, Option.bind_some, hfb, if_neg (by omega)]
    have w0 : wrap64 (((lns p)[i].length : Int) + 0) = ((lns p)[i].length : Int) := by rw [Int.add_zero]; exact wid (by omega) (by omega)
    have w1 : wrap64 (((lns p)[i].length : Int) + ((([10] : List Int).length : Nat) : Int)) = (((lns p)[i].length + 1 : Nat) : Int) := by clear w0; exact wnat (by omega)
    have w2 : wrap64 ((i : Int) + 1) = ((i + 1 : Nat) : Int) := by clear w0 w1; exact wnat (by omega)
    rw [w0, w1, w2]
    clear w0 w1 w2
    rw [if_pos (by omega), if_pos (by omega), if_pos (by omega), hlen, if_pos (by omega), if_pos (by omega), if_pos (by omega), Int.toNat_natCast, Int.toNat_natCast, Int.toNat_natCast, ht, hdr, set_next _ i hlt, hnext]
theorem bytes_Split_spec (p : List Int) (hb : Bytes p) (hp : p.length ≤ 1000000000) (k : Nat) (hk : p.length + 2 < k) : bytes_Split.f k p [10] = some (lns p) := by
  have hcnt := lns_count p
  have hnl := nls_le p
  obtain ⟨k, rfl⟩ := ex_succ (n := 0) (k := k) (by omega)
  have w1 : wrap64 ((nls p : Int) + 1) = ((lns p).length : Int) := by rw [hcnt]; exact wnat (by omega)
  have w2 : wrap64 ((p.length : Int) + 1) = ((p.length + 1 : Nat) : Int) := by clear w1; exact wnat (by omega)
  have em : mn ((lns p).length : Int) ((p.length + 1 : Nat) : Int) = ((lns p).length : Int) := by clear w1 w2; unfold mn; split <;> omega
  have w3 : wrap64 (((lns p).length : Int) - 1) = ((lns p).length : Int) - 1 := by clear w1 w2; exact wid (by omega) (by omega)
  have := genSplit_l0 p hb hp (nls p) k 0 (by clear w1 w2 w3; omega) (by clear w1 w2 w3; omega)
  rw [List.drop_zero, jn_lns, List.take_zero, List.nil_append, Nat.sub_zero] at this
  unfold bytes_Split.f bytes_genSplit.f
  rw [if_neg (by decide), if_neg (by decide), if_pos (by decide), bytes_Count_spec p hb, Option.bind_some, w1, bytes_genSplit.j0, w2, em, w3, if_pos (by clear w1 w2 w3; omega), Int.toNat_natCast, if_pos (by clear w1 w2 w3; omega)]
  rw [show ((0 : Nat) : Int) = 0 from rfl] at this
  rw [this, Option.bind_some]
theorem lines_Split_l0 (L : List (List Int)) (hL : L.length ≤ 2000000000) (m : Nat) : ∀ (k i : Nat), i + m = L.length → m < k →
    lines_Split.l0 k ((L.take i).map strOfNums) L (L.length : Int) (i : Int) = some (L.map strOfNums) := by
  induction m with
  | zero =>
    intro k i hi hk
    obtain ⟨k, rfl⟩ := ex_succ hk
    rw [lines_Split.l0, if_neg (by omega), List.take_of_length_le (by omega)]
  | succ m ih =>
    intro k i hi hk
    obtain ⟨k, rfl⟩ := ex_succ hk
    have hlt : i < L.length := by omega
    have hnext := ih k (i + 1) (by omega) (by omega)
    have hrd : rd_L2 L (i : Int) = L[i] := by simp [rd_L2, hlt]
    rw [List.take_succ_eq_append_getElem hlt, List.map_append, List.map_cons, List.map_nil] at hnext
    rw [lines_Split.l0, if_pos (by omega), if_pos (by omega), if_pos (by omega), if_pos (by simp only [List.length_map, List.length_take]; omega), hrd, wnat (by omega), hnext]
theorem lines_Split_spec (p : List Int) (hb : Bytes p) (hp : p.length ≤ 1000000000) (k : Nat) (hk : p.length + 2 < k) : lines_Split.f k p = some ((lns p).map strOfNums) := by
  have hcnt := lns_count p
  have hnl := nls_le p
  unfold lines_Split.f
  rw [bytes_Split_spec p hb hp k hk, Option.bind_some]
  have := lines_Split_l0 (lns p) (by omega) (lns p).length k 0 (by omega) (by omega)
  simpa using this

end Go.Proofs.YtdaodcdbfaikjaaDoor.Ad
namespace Go.Proofs.YtdaodcdbfaikjaaDoor.Ad
open Go Go.RowKit Go.Proofs.YtdaodcdbfaikjaaDoor.Pa Go.Proofs.YtdaodcdbfaikjaaDoorW.PrintWords Go.Proofs.YtdaodcdbfaikjaaDoorW.PrintLast Go.Proofs.YtdaodcdbfaikjaaDoorW.PrintMore Go.Proofs.YtdaodcdbfaikjaaDoor.Gen
set_option linter.unusedVariables false
set_option linter.unusedSimpArgs false

theorem shift_Shift_l0 (p : List Int) (hb : Bytes p) (hp : p.length ≤ 10000) (x W tab : Int) (ht : tab ≤ 16) (sh : Nat) (hsh : sh ≤ 16) (ex b : Bool) (m : Nat) : ∀ (k i : Nat), i + m = (lns p).length → (jn (((lns p).map fun l => shf l (lim x * (sh : Int)) (tb tab) ex).take i)).length ≤ 65536 → m + 4000010 < k →
    shift_Shift.l0 k x (jn (((lns p).map fun l => shf l (lim x * (sh : Int)) (tb tab) ex).take i)) ((lns p).map strOfNums) ((lns p).length : Int) (i : Int) W tab (sh : Int) ex b
      = some (if (shs p (lim x * (sh : Int)) (tb tab) ex).length ≤ 65536 then (shs p (lim x * (sh : Int)) (tb tab) ex, 0) else ([], 4)) := by
  have hcnt := lns_count p
  have hnl := nls_le p
  have hm := lim_mul x sh hsh
  have h0 := tb_pos tab
  have htb : tb tab ≤ 16 := by unfold tb; omega
  induction m with
  | zero =>
    intro k i hi hlen hk
    obtain ⟨k, rfl⟩ := ex_succ (n := 0) (k := k) (by omega)
    have e : ((lns p).map fun l => shf l (lim x * (sh : Int)) (tb tab) ex).take i = (lns p).map fun l => shf l (lim x * (sh : Int)) (tb tab) ex := List.take_of_length_le (by simp only [List.length_map]; omega)
    rw [e] at hlen ⊢
    have e2 : jn ((lns p).map fun l => shf l (lim x * (sh : Int)) (tb tab) ex) = shs p (lim x * (sh : Int)) (tb tab) ex := rfl
    rw [e2] at hlen ⊢
    rw [shift_Shift.l0, if_neg (by omega), if_pos hlen]
  | succ m ih =>
    intro k i hi hlen hk
    obtain ⟨k, rfl⟩ := ex_succ (n := 0) (k := k) (by omega)
    have hlt : i < (lns p).length := by omega
    have hlt2 : i < ((lns p).map fun l => shf l (lim x * (sh : Int)) (tb tab) ex).length := by simp only [List.length_map]; exact hlt
    have hnext := ih k (i + 1) (by omega)
    have hmono := jn_mono _ i hlt2
    have hsucc := jn_succ _ i hlt2
    have hgi : ((lns p).map fun l => shf l (lim x * (sh : Int)) (tb tab) ex)[i] = shf (lns p)[i] (lim x * (sh : Int)) (tb tab) ex := by simp
    have hlp : (lns p)[i].length ≤ p.length := by have := off_le hlt; omega
    have bl_ : Bytes (lns p)[i] := fun c hc => by
      have h2 := line_cut hlt
      rw [← h2] at hc
      exact hb c (List.mem_of_mem_take (List.mem_of_mem_drop hc))
    have hsm := shf_small (lns p)[i] (lim x * (sh : Int)) (tb tab) ex h0 htb 159984 (by omega)
    have bsh := bytes_shf bl_ (lim x * (sh : Int)) (tb tab) ex
    have hrd : rdOf ByteArray.empty ((lns p).map strOfNums) (i : Int) = strOfNums (lns p)[i] := by simp [rdOf, hlt]
    have hline : shift_Line.f k (strOfNums (lns p)[i]) x W tab (sh : Int) ex b = some (strOfNums (shf (lns p)[i] (lim x * (sh : Int)) (tb tab) ex)) := by
      have := shift_Line_spec (strOfNums (lns p)[i]) (by rw [strOfNums_size]; omega) x W tab ht sh hsh ex b k (by omega)
      rwa [bytesOf_str bl_] at this
    rw [hgi] at hsucc
    have e2 : jn ((lns p).map fun l => shf l (lim x * (sh : Int)) (tb tab) ex) = shs p (lim x * (sh : Int)) (tb tab) ex := rfl
    rw [e2] at hmono
    rw [shift_Shift.l0, List.length_map, hrd, hline, if_pos (by omega), if_pos (by omega), if_pos (by omega), wnat (by omega)]
    -- behind one line more
    have key : ∀ acc : List Int, acc = jn (((lns p).map fun l => shf l (lim x * (sh : Int)) (tb tab) ex).take (i + 1)) → (if (acc.length : Int) > 65536 then some (([] : List Int), (4 : Int)) else shift_Shift.l0 k x acc ((lns p).map strOfNums) ((lns p).length : Int) ((i + 1 : Nat) : Int) W tab (sh : Int) ex b)
        = some (if (shs p (lim x * (sh : Int)) (tb tab) ex).length ≤ 65536 then (shs p (lim x * (sh : Int)) (tb tab) ex, 0) else ([], 4)) := by
      intro acc hacc
      subst hacc
      by_cases hbig : ((jn (((lns p).map fun l => shf l (lim x * (sh : Int)) (tb tab) ex).take (i + 1))).length : Int) > 65536
      · rw [if_pos hbig, if_neg (by omega)]
      · rw [if_neg hbig]
        exact hnext (by omega) (by omega)
    by_cases h : i = 0
    · rw [if_pos h] at hsucc
      have he : jn (((lns p).map fun l => shf l (lim x * (sh : Int)) (tb tab) ex).take i) = [] := by rw [h]; rfl
      rw [if_neg (by omega), Option.bind_some, he, strOfNums_size, if_pos (by simp only [List.length_nil]; omega), Option.bind_some, bytesOf_str bsh, List.nil_append]
      exact key _ hsucc.symm
    · rw [if_neg h] at hsucc
      rw [if_pos (by omega), if_pos (by omega), Option.bind_some, Option.bind_some, strOfNums_size, if_pos (by simp only [List.length_append, List.length_cons, List.length_nil]; omega), Option.bind_some, bytesOf_str bsh]
      exact key _ (by rw [hsucc]; simp)
theorem shift_Shift_spec (p : List Int) (hb : Bytes p) (hp : p.length ≤ 10000) (x W tab : Int) (ht : tab ≤ 16) (sh : Nat) (hsh : sh ≤ 16) (ex b : Bool) (k : Nat) (hk : 4100000 < k) :
    shift_Shift.f k p x W tab (sh : Int) ex b = some (if (shs p (lim x * (sh : Int)) (tb tab) ex).length ≤ 65536 then (shs p (lim x * (sh : Int)) (tb tab) ex, 0) else ([], 4)) := by
  have hcnt := lns_count p
  have hnl := nls_le p
  unfold shift_Shift.f
  rw [lines_Split_spec p hb (by omega) k (by omega), Option.bind_some, List.length_map]
  have := shift_Shift_l0 p hb hp x W tab ht sh hsh ex b (lns p).length k 0 (by omega) (by simp [jn]) (by omega)
  simpa [jn] using this
/-- A text's length behind a shift. -/
theorem shs_len (p : List Int) (d : Int) (t : Nat) (ex : Bool) (h0 : 0 < t) (ht : t ≤ 16) (N : Nat) (hd : d ≤ N) : (shs p d t ex).length ≤ 17 * (p.length + 1) + N * (p.length + 1) := by
  have hcnt := lns_count p
  have hnl := nls_le p
  have ho := off_lns p
  have h1 := jn_length (L := (lns p).map fun l => shf l d t ex) (by simpa using lns_ne p)
  have h2 := off_map_le (fun l => shf l d t ex) N (lns p) (fun l _ => shf_small l d t ex h0 ht N hd)
  have h3 := Nat.mul_le_mul_left N (show (lns p).length ≤ p.length + 1 by omega)
  unfold shs
  omega

end Go.Proofs.YtdaodcdbfaikjaaDoor.Ad
namespace Go.Proofs.YtdaodcdbfaikjaaDoor.Ad
open Go Go.RowKit Go.Proofs.YtdaodcdbfaikjaaDoor.Pa Go.Proofs.YtdaodcdbfaikjaaDoorW.PrintWords Go.Proofs.YtdaodcdbfaikjaaDoorW.PrintLast Go.Proofs.YtdaodcdbfaikjaaDoorW.PrintMore Go.Proofs.YtdaodcdbfaikjaaDoor.Gen
set_option linter.unusedVariables false
set_option linter.unusedSimpArgs false

theorem toList_lit (l : List Int) (u : List UInt8) (h : (l.map fun n => UInt8.ofNat n.toNat) = u) : (strOfNums l).toList = u := by
  rw [ByteArray.toList_eq, strOfNums_data, h]
theorem deeper_spec (k : Nat) (hk : 4000000 < k) : platenlaw16_deeper.f k = some true := by
  have l1 := shift_Line_spec ⟨#[97]⟩ (by decide) 2 0 8 (by omega) 4 (by omega) false false k hk
  have l2 := shift_Line_spec ⟨#[9, 97]⟩ (by decide) (-1) 0 8 (by omega) 4 (by omega) false false k hk
  have l3 := shift_Line_spec ⟨#[32]⟩ (by decide) 3 0 8 (by omega) 4 (by omega) false false k hk
  have c1 := shift_Canonical_spec ⟨#[9, 97]⟩ (by decide) 0 8 4 (by omega) false false k hk
  have c2 := shift_Canonical_spec ⟨#[32, 32, 32, 32, 32, 32, 32, 32, 97]⟩ (by decide) 0 8 4 (by omega) false false k hk
  rw [show shf (bytesOf ⟨#[97]⟩) (lim 2 * ((4 : Nat) : Int)) (tb 8) false = [9, 97] by decide] at l1
  rw [show shf (bytesOf ⟨#[9, 97]⟩) (lim (-1) * ((4 : Nat) : Int)) (tb 8) false = [32, 32, 32, 32, 97] by decide] at l2
  rw [show shf (bytesOf ⟨#[32]⟩) (lim 3 * ((4 : Nat) : Int)) (tb 8) false = [32] by decide] at l3
  rw [show decide (canon (bytesOf ⟨#[9, 97]⟩) (tb 8) false) = true by decide] at c1
  rw [show decide (canon (bytesOf ⟨#[32, 32, 32, 32, 32, 32, 32, 32, 97]⟩) (tb 8) false) = false by decide] at c2
  unfold platenlaw16_deeper.f
  rw [show shift_Line.f k (⟨#[97]⟩ : ByteArray) 2 0 8 4 false false = _ from l1, Option.bind_some, if_pos (show (strOfNums [9, 97]).toList = ([9, 97] : List UInt8) from toList_lit _ _ rfl),
    show shift_Line.f k (⟨#[9, 97]⟩ : ByteArray) (-1) 0 8 4 false false = _ from l2, Option.bind_some, if_pos (show (strOfNums [32, 32, 32, 32, 97]).toList = ([32, 32, 32, 32, 97] : List UInt8) from toList_lit _ _ rfl),
    show shift_Line.f k (⟨#[32]⟩ : ByteArray) 3 0 8 4 false false = _ from l3, Option.bind_some, if_pos (show (strOfNums [32]).toList = ([32] : List UInt8) from toList_lit _ _ rfl), c1, Option.bind_some, if_pos rfl, c2, Option.bind_some]
  rfl
theorem tmod17 (x : Int) (h0 : 0 ≤ x) (h1 : x ≤ 255) : Int.tmod (wrap64 x) 17 = ((x.toNat % 17 : Nat) : Int) := by
  rw [wid (by omega) (by omega), Int.tmod_eq_emod_of_nonneg h0]; omega
theorem set16_spec (x y : Int) (hx0 : 0 ≤ x) (hx1 : x ≤ 255) (hy0 : 0 ≤ y) (hy1 : y ≤ 255) (e : Bool) : platenlaw16_set.f x y e = some ((1 : Int), (((x.toNat % 17 : Nat) : Int), (((y.toNat % 17 : Nat) : Int), (e, false)))) := by
  unfold platenlaw16_set.f
  rw [tmod17 x hx0 hx1, tmod17 y hy0 hy1]

end Go.Proofs.YtdaodcdbfaikjaaDoor.Ad
namespace Go.Proofs.YtdaodcdbfaikjaaDoor.Pure
open Go Go.RowKit Go.Proofs.YtdaodcdbfaikjaaDoor.Pa Go.Proofs.YtdaodcdbfaikjaaDoorW.PrintWords Go.Proofs.YtdaodcdbfaikjaaDoorW.PrintLast Go.Proofs.YtdaodcdbfaikjaaDoorW.PrintMore Go.Proofs.YtdaodcdbfaikjaaDoor.Gen Go.Proofs.YtdaodcdbfaikjaaDoor.Ad
set_option linter.unusedVariables false
set_option linter.unusedSimpArgs false

theorem tmod10' (x : Int) (h0 : -128 ≤ x) (h1 : x ≤ 127) : -9 ≤ Int.tmod (wrap64 x) 10 ∧ Int.tmod (wrap64 x) 10 ≤ 9 := by
  rw [wid (by omega) (by omega)]
  have h1 := Int.tmod_lt_of_pos x (show (0 : Int) < 10 by decide)
  have h2 := Int.tmod_lt_of_pos (-x) (show (0 : Int) < 10 by decide)
  rw [Int.neg_tmod] at h2
  omega
theorem bytes_shs {p : List Int} (h : Bytes p) (d : Int) (t : Nat) (ex : Bool) : Bytes (shs p d t ex) := by
  have : ∀ (L : List (List Int)), (∀ l ∈ L, Bytes l) → Bytes (jn L) := by
    intro L
    induction L with
    | nil => intro _ c hc; simp [jn] at hc
    | cons l r ih =>
      intro hL
      cases r with
      | nil => exact hL l (by simp)
      | cons m r =>
        rw [jn_cons _ (by simp)]
        intro c hc
        rcases List.mem_append.1 hc with hc | hc
        · exact hL l (by simp) c hc
        · rcases List.mem_cons.1 hc with rfl | hc
          · omega
          · exact ih (fun x hx => hL x (by simp [hx])) c hc
  refine this _ fun l hl => ?_
  obtain ⟨x, hx, rfl⟩ := List.mem_map.1 hl
  obtain ⟨i, hi, rfl⟩ := List.mem_iff_getElem.1 hx
  refine bytes_shf (fun c hc => ?_) d t ex
  rw [← line_cut hi] at hc
  exact h c (List.mem_of_mem_take (List.mem_of_mem_drop hc))
theorem ShiftStays : platenlaw16_ShiftStays.Pure := by
  intro p x a b e _ _ hp hx ha hb
  have bp := bytes_of hp
  have ba := u8_of ha
  have bb := u8_of hb
  have bx : -128 ≤ x ∧ x ≤ 127 := by
    simp [Lit.wf, IntKind.min, IntKind.max, IntKind.bits, IntKind.signed] at hx
    omega
  clear ha hb hx
  refine ⟨4200002, ?_⟩
  unfold platenlaw16_ShiftStays.f
  rw [deeper_spec 4200002 (by omega), Option.bind_some, if_pos rfl]
  by_cases h : (p.length : Int) > 100
  · rw [decide_eq_true h, platenlaw16_ShiftStays.j0, if_pos rfl, deeper_spec 4200001 (by omega), Option.bind_some]
  · rw [decide_eq_false h, platenlaw16_ShiftStays.j0, if_neg (by simp), set16_spec a b ba.1 ba.2 bb.1 bb.2, Option.bind_some]
    dsimp only
    have hta : a.toNat % 17 < 17 := Nat.mod_lt _ (by omega)
    have htb : b.toNat % 17 < 17 := Nat.mod_lt _ (by omega)
    have ht10 := tmod10' x bx.1 bx.2
    generalize a.toNat % 17 = t at *
    generalize b.toNat % 17 = sh at *
    generalize Int.tmod (wrap64 x) 10 = z at *
    have htp := tb_pos (t : Int)
    have htl : tb (t : Int) ≤ 16 := by unfold tb; omega
    have lz : lim z = z := by unfold lim; rw [if_neg (by omega), if_neg (by omega)]
    have hd : lim z * (sh : Int) ≤ ((144 : Nat) : Int) := by
      rw [lz]
      have h1 := Int.mul_le_mul_of_nonneg_right ht10.2 (show (0 : Int) ≤ (sh : Int) by omega)
      omega
    have hlen := shs_len p (lim z * (sh : Int)) (tb (t : Int)) e htp htl 144 hd
    have bq := bytes_shs bp (lim z * (sh : Int)) (tb (t : Int)) e
    have htx := texts_shs p (lim z * (sh : Int)) (tb (t : Int)) e
    have hnl := nls_shs p (lim z * (sh : Int)) (tb (t : Int)) e
    have e1 := endsF_length p 0
    have e2 := endsF_length (shs p (lim z * (sh : Int)) (tb (t : Int)) e) 0
    have hsol : (sol (shs p (lim z * (sh : Int)) (tb (t : Int)) e)).length = (sol p).length := by
      have := congrArg List.length htx
      unfold texts at this
      rwa [List.length_map, List.length_map] at this
    rw [shift_Shift_spec p bp (by omega) z 1 (t : Int) (by omega) sh (by omega) e false 4200001 (by omega), Option.bind_some, if_pos (show (shs p (lim z * (sh : Int)) (tb (t : Int)) e).length ≤ 65536 by omega)]
    refine (if_pos rfl).trans ?_
    dsimp only
    rw [platenref05_Alike_spec p _ bp bq (by omega) (by omega) 4200001 (by omega) (by omega), Option.bind_some, htx, if_pos (by simp), platenref03_Ends_spec p (by omega) 4200001 (by omega), Option.bind_some, platenref03_Ends_spec _ (by omega) 4200001 (by omega), Option.bind_some,
      zs_len, zs_len, e1, e2, hnl, if_pos rfl, platenref05_Solid_spec _ (by omega) 4200001 (by omega), Option.bind_some, platenref05_Solid_spec p (by omega) 4200001 (by omega), Option.bind_some, List.length_map, List.length_map, hsol]
    simp

end Go.Proofs.YtdaodcdbfaikjaaDoor.Pure
