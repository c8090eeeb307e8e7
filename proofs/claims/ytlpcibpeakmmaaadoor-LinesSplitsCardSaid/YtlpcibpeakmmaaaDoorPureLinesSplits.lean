/- Proved: the lines of a text, joined by line ends, are the text; each is its span's bytes, and none has an end in it, for any bytes. -/
import Derived.Test.YtlpcibpeakmmaaaDoorExtBytes
import Derived.Test.YtlpcibpeakmmaaaDoorExtSplit
import Derived.Test.YtlpcibpeakmmaaaDoorExtTabs
import Derived.Test.YtlpcibpeakmmaaaDoorPax0
import Derived.Test.YtlpcibpeakmmaaaDoorPax12
import Derived.Test.YtlpcibpeakmmaaaDoorPax18
import Derived.Test.YtlpcibpeakmmaaaDoorPax19
import Derived.Test.YtlpcibpeakmmaaaDoorPax2
import Derived.Test.YtlpcibpeakmmaaaDoorPax3
import Derived.Test.YtlpcibpeakmmaaaDoorGenLinesSplits
namespace Go.Proofs.YtlpcibpeakmmaaaDoor.Ad
open Go Go.RowKit Go.Proofs.YtlpcibpeakmmaaaDoor.Pa Go.Proofs.YtlpcibpeakmmaaaDoorW.PrintWords Go.Proofs.YtlpcibpeakmmaaaDoorW.PrintLast Go.Proofs.YtlpcibpeakmmaaaDoorW.PrintMore Go.Proofs.YtlpcibpeakmmaaaDoor.Gen
set_option linter.unusedVariables false
set_option linter.unusedSimpArgs false

theorem u8_inj {a b : Int} (ha : 0 ≤ a ∧ a ≤ 255) (hb : 0 ≤ b ∧ b ≤ 255) : (UInt8.ofNat a.toNat = UInt8.ofNat b.toNat) ↔ a = b := by
  constructor
  · intro h
    have h3 := congrArg UInt8.toNat h
    rw [UInt8.toNat_ofNat', UInt8.toNat_ofNat'] at h3
    omega
  · intro h; rw [h]
theorem countByte_nl (p : List Int) (hb : Bytes p) : Lib.countByte (Lib.bytesOf p) (10 : Int).toNat.toUInt8 = nls p := by
  induction p with
  | nil => rfl
  | cons c t ih =>
    have hc := hb c (by simp)
    have := ih fun x hx => hb x (by simp [hx])
    rw [nls_cons, ← this]
    unfold Lib.countByte Lib.bytesOf
    rw [List.map_cons, List.count_cons]
    have e := u8_inj hc (show 0 ≤ (10 : Int) ∧ (10 : Int) ≤ 255 by omega)
    by_cases h : c = 10
    · subst h; simp; omega
    · rw [if_neg h, if_neg (by intro hh; exact h (e.1 (by simpa using hh)))]; omega
theorem bytes_Count_spec (p : List Int) (hb : Bytes p) : bytes_Count.f p [10] = some (nls p : Int) := by
  unfold bytes_Count.f
  rw [if_pos (show ([10] : List Int).length = 1 from rfl), show ([10] : List Int).getD 0 0 = 10 from rfl, countByte_nl p hb]
theorem indexByte_fb (p : List Int) (hb : Bytes p) (c : Int) (hc : 0 ≤ c ∧ c ≤ 255) : Lib.indexByte (Lib.bytesOf p) c.toNat.toUInt8 = fb p c := by
  induction p with
  | nil => rfl
  | cons b t ih =>
    have hbb := hb b (by simp)
    have := ih fun x hx => hb x (by simp [hx])
    have e := u8_inj hbb hc
    have e' : Lib.bytesOf (b :: t) = UInt8.ofNat b.toNat :: Lib.bytesOf t := rfl
    rw [e', Lib.indexByte, fb, this]
    by_cases h : b = c
    · subst h; simp
    · rw [if_neg h, if_neg (by intro hh; exact h (e.1 (by simpa using hh)))]
      by_cases h2 : fb t c = -1
      · rw [if_pos h2, if_pos (by simp [h2])]
      · rw [if_neg h2, if_neg (by simp [h2])]

end Go.Proofs.YtlpcibpeakmmaaaDoor.Ad
namespace Go.Proofs.YtlpcibpeakmmaaaDoor.Ad
open Go Go.RowKit Go.Proofs.YtlpcibpeakmmaaaDoor.Pa Go.Proofs.YtlpcibpeakmmaaaDoorW.PrintWords Go.Proofs.YtlpcibpeakmmaaaDoorW.PrintLast Go.Proofs.YtlpcibpeakmmaaaDoorW.PrintMore Go.Proofs.YtlpcibpeakmmaaaDoor.Gen
set_option linter.unusedVariables false
set_option linter.unusedSimpArgs false

theorem lines_Count_spec (p : List Int) (hb : Bytes p) (hp : p.length ≤ 1000000000) : lines_Count.f p = some ((nls p + 1 : Nat) : Int) := by
  have := nls_le p
  unfold lines_Count.f
  rw [bytes_Count_spec p hb, Option.bind_some, wnat (by omega)]

end Go.Proofs.YtlpcibpeakmmaaaDoor.Ad
namespace Go.Proofs.YtlpcibpeakmmaaaDoor.Ad
open Go Go.RowKit Go.Proofs.YtlpcibpeakmmaaaDoor.Pa Go.Proofs.YtlpcibpeakmmaaaDoorW.PrintWords Go.Proofs.YtlpcibpeakmmaaaDoorW.PrintLast Go.Proofs.YtlpcibpeakmmaaaDoorW.PrintMore Go.Proofs.YtlpcibpeakmmaaaDoor.Gen
set_option linter.unusedVariables false
set_option linter.unusedSimpArgs false

theorem platenref03_Ends_l0 (p : List Int) (hp : p.length ≤ 1000000000) (m : Nat) : ∀ (k i : Nat) (acc : List Int), i + m = p.length → acc.length ≤ i → m < k →
    platenref03_Ends.l0 k p acc (i : Int) = some (acc ++ zs (endsF i (p.drop i))) := by
  induction m with
  | zero =>
    intro k i acc hi ha hk
    obtain ⟨k, rfl⟩ := ex_succ hk
    rw [platenref03_Ends.l0, if_neg (by omega), List.drop_eq_nil_of_le (by omega)]
    simp [endsF, zs]
  | succ m ih =>
    intro k i acc hi ha hk
    obtain ⟨k, rfl⟩ := ex_succ hk
    have hlt : i < p.length := by omega
    have hw : wrap64 ((i : Int) + 1) = ((i + 1 : Nat) : Int) := wnat (by omega)
    have h1 := ih k (i + 1) acc (by omega) (by omega) (by omega)
    have h2 := ih k (i + 1) (acc ++ [(i : Int)]) (by omega) (by simp only [List.length_append, List.length_cons, List.length_nil]; omega) (by omega)
    rw [platenref03_Ends.l0, hw, h1, h2]
    clear hw h1 h2
    rw [if_pos (by omega), if_pos (by omega), rd_nat p i hlt, if_pos (show acc.length < 17592186044416 by omega), drop_at p i hlt]
    simp only [endsF]
    by_cases h : p[i] = 10
    · rw [if_pos h, if_pos h]; simp [zs]
    · rw [if_neg h, if_neg h]
theorem platenref03_Ends_spec (p : List Int) (hp : p.length ≤ 1000000000) (k : Nat) (hk : p.length < k) : platenref03_Ends.f k p = some (zs (endsF 0 p)) := by
  have := platenref03_Ends_l0 p hp p.length k 0 [] (by omega) (by simp) hk
  simpa [platenref03_Ends.f] using this

end Go.Proofs.YtlpcibpeakmmaaaDoor.Ad
namespace Go.Proofs.YtlpcibpeakmmaaaDoor.Ad
open Go Go.RowKit Go.Proofs.YtlpcibpeakmmaaaDoor.Pa Go.Proofs.YtlpcibpeakmmaaaDoorW.PrintWords Go.Proofs.YtlpcibpeakmmaaaDoorW.PrintLast Go.Proofs.YtlpcibpeakmmaaaDoorW.PrintMore Go.Proofs.YtlpcibpeakmmaaaDoor.Gen
set_option linter.unusedVariables false
set_option linter.unusedSimpArgs false

theorem ex_succS {k n : Nat} (h : n < k) : ∃ m, k = m + 1 := ⟨k - 1, by omega⟩
theorem platenref01_Same_l0 (a b : List Int) (hl : a.length = b.length) (hn : a.length ≤ 1000000000) (m : Nat) : ∀ (k i : Nat), i + m = a.length → m < k →
    platenref01_Same.l0 k a b (i : Int) = some (decide (a.drop i = b.drop i)) := by
  induction m with
  | zero =>
    intro k i hi hk
    obtain ⟨k, rfl⟩ := ex_succS hk
    rw [platenref01_Same.l0, if_neg (by omega), List.drop_eq_nil_of_le (by omega), List.drop_eq_nil_of_le (by omega)]
    simp
  | succ m ih =>
    intro k i hi hk
    obtain ⟨k, rfl⟩ := ex_succS hk
    have h1 : i < a.length := by omega
    have h2 : i < b.length := by omega
    have hnext := ih k (i + 1) (by omega) (by omega)
    rw [platenref01_Same.l0, if_pos (by omega), if_pos (by omega), if_pos (by omega), rd_nat a i h1, rd_nat b i h2]
    have hw : wrap64 ((i : Int) + 1) = ((i + 1 : Nat) : Int) := wnat (by omega)
    rw [hw, hnext, drop_at a i h1, drop_at b i h2]
    clear hw
    by_cases e : a[i] = b[i]
    · rw [if_pos e, e]
      simp only [List.cons.injEq, true_and]
    · rw [if_neg e, decide_eq_false]
      intro h
      exact e (List.cons.inj h).1
theorem platenref01_Same_spec (a b : List Int) (hn : a.length ≤ 1000000000) (k : Nat) (hk : a.length < k) : platenref01_Same.f k a b = some (decide (a = b)) := by
  unfold platenref01_Same.f
  by_cases hl : a.length = b.length
  · rw [if_pos (by omega)]
    have := platenref01_Same_l0 a b hl hn a.length k 0 (by omega) hk
    simpa using this
  · rw [if_neg (by omega)]
    have : a ≠ b := fun e => hl (by rw [e])
    simp [this]

end Go.Proofs.YtlpcibpeakmmaaaDoor.Ad
namespace Go.Proofs.YtlpcibpeakmmaaaDoor.Ad
open Go Go.RowKit Go.Proofs.YtlpcibpeakmmaaaDoor.Pa Go.Proofs.YtlpcibpeakmmaaaDoorW.PrintWords Go.Proofs.YtlpcibpeakmmaaaDoorW.PrintLast Go.Proofs.YtlpcibpeakmmaaaDoorW.PrintMore Go.Proofs.YtlpcibpeakmmaaaDoor.Gen
set_option linter.unusedVariables false
set_option linter.unusedSimpArgs false

theorem glyph_Blank_spec (c : Int) : glyph_Blank.f c = some (decide (c = 32 ∨ c = 9)) := by
  unfold glyph_Blank.f
  split
  · simp [*]
  · rw [Option.some_inj, Bool.eq_iff_iff]; simp; omega

end Go.Proofs.YtlpcibpeakmmaaaDoor.Ad
namespace Go.Proofs.YtlpcibpeakmmaaaDoor.Ad
open Go Go.RowKit Go.Proofs.YtlpcibpeakmmaaaDoor.Pa Go.Proofs.YtlpcibpeakmmaaaDoorW.PrintWords Go.Proofs.YtlpcibpeakmmaaaDoorW.PrintLast Go.Proofs.YtlpcibpeakmmaaaDoorW.PrintMore Go.Proofs.YtlpcibpeakmmaaaDoor.Gen
set_option linter.unusedVariables false
set_option linter.unusedSimpArgs false

theorem bl_dec (c : Int) : decide (c = 32 ∨ c = 9) = bl c := rfl
theorem lines_Indent_l0 (s : ByteArray) (hs : s.size ≤ 1000000000) (m : Nat) : ∀ (k i : Nat), i + m = s.size → m < k →
    lines_Indent.l0 k s (s.size : Int) (i : Int) = some ((i + ind ((bytesOf s).drop i) : Nat) : Int) := by
  have hl := bytesOf_length s
  induction m with
  | zero =>
    intro k i hi hk
    obtain ⟨k, rfl⟩ := ex_succ hk
    rw [lines_Indent.l0, if_neg (by omega), List.drop_eq_nil_of_le (by omega), ind_nil, Nat.add_zero, show i = s.size by omega]
  | succ m ih =>
    intro k i hi hk
    obtain ⟨k, rfl⟩ := ex_succ hk
    have hlt : i < (bytesOf s).length := by omega
    have hw : wrap64 ((i : Int) + 1) = ((i + 1 : Nat) : Int) := wnat (by omega)
    rw [lines_Indent.l0, hw, ih k (i + 1) (by omega) (by omega)]
    clear hw
    rw [if_pos (by omega), if_pos (by omega), if_pos (by omega), bt_get s i hlt, glyph_Blank_spec, Option.bind_some, bl_dec, drop_at _ i hlt]
    by_cases h : bl (bytesOf s)[i] = true
    · rw [if_pos h, ind_cons_pos h, show i + 1 + ind ((bytesOf s).drop (i + 1)) = i + (1 + ind ((bytesOf s).drop (i + 1))) by omega]
    · rw [if_neg h, ind_cons_neg (by simpa using h)]; rfl
theorem lines_Indent_spec (s : ByteArray) (hs : s.size ≤ 1000000000) (k : Nat) (hk : s.size < k) : lines_Indent.f k s = some (ind (bytesOf s) : Int) := by
  have := lines_Indent_l0 s hs s.size k 0 (by omega) hk
  rw [List.drop_zero, Nat.zero_add] at this
  exact this
theorem lines_Bare_spec (s : ByteArray) (hs : s.size ≤ 1000000000) (k : Nat) (hk : s.size < k) : lines_Bare.f k s = some (decide (ind (bytesOf s) = (bytesOf s).length)) := by
  unfold lines_Bare.f
  rw [lines_Indent_spec s hs k hk, Option.bind_some, bytesOf_length, Option.some_inj, Bool.eq_iff_iff]
  simp
  omega

end Go.Proofs.YtlpcibpeakmmaaaDoor.Ad
namespace Go.Proofs.YtlpcibpeakmmaaaDoor.Ad
open Go Go.RowKit Go.Proofs.YtlpcibpeakmmaaaDoor.Pa Go.Proofs.YtlpcibpeakmmaaaDoorW.PrintWords Go.Proofs.YtlpcibpeakmmaaaDoorW.PrintLast Go.Proofs.YtlpcibpeakmmaaaDoorW.PrintMore Go.Proofs.YtlpcibpeakmmaaaDoor.Gen
set_option linter.unusedVariables false
set_option linter.unusedSimpArgs false

theorem glyph_Step_spec (c b t : Nat) (x : Int) (hx : x = (b : Int)) (hc : c ≤ 1000000000) (ht : t ≤ 1000000000) (h0 : 0 < t) : glyph_Step.f (c : Int) x (t : Int) = some (stp c b t : Int) := by
  subst hx
  unfold glyph_Step.f stp
  by_cases h : b = 9
  · have e1 : Int.tmod (c : Int) (t : Int) = ((c % t : Nat) : Int) := by rw [Int.tmod_eq_emod_of_nonneg (by omega)]; rfl
    have hm := Nat.mod_lt c h0
    have hl := Nat.mod_le c t
    have w1 : wrap64 ((c : Int) + (t : Int)) = (c : Int) + (t : Int) := wid (by omega) (by omega)
    have w2 : wrap64 ((c : Int) + (t : Int) - ((c % t : Nat) : Int)) = (c : Int) + (t : Int) - ((c % t : Nat) : Int) := by clear w1; exact wid (by omega) (by omega)
    rw [if_pos (by omega), if_neg (by omega), w1, e1, w2, if_pos h]
    clear w1 w2
    congr 1; omega
  · have w1 : wrap64 ((c : Int) + 1) = ((c + 1 : Nat) : Int) := wnat (by omega)
    rw [if_neg (by omega), w1, if_neg h]
theorem byte_nat {p : List Int} (hb : Bytes p) (i : Nat) (h : i < p.length) : p[i] = ((p[i]).toNat : Int) := by
  have := hb p[i] (List.getElem_mem h); omega

end Go.Proofs.YtlpcibpeakmmaaaDoor.Ad
namespace Go.Proofs.YtlpcibpeakmmaaaDoor.Ad
open Go Go.RowKit Go.Proofs.YtlpcibpeakmmaaaDoor.Pa Go.Proofs.YtlpcibpeakmmaaaDoorW.PrintWords Go.Proofs.YtlpcibpeakmmaaaDoorW.PrintLast Go.Proofs.YtlpcibpeakmmaaaDoorW.PrintMore Go.Proofs.YtlpcibpeakmmaaaDoor.Gen
set_option linter.unusedVariables false
set_option linter.unusedSimpArgs false

theorem ex_succ' {k n : Nat} (h : n < k) : ∃ m, k = m + 1 := ⟨k - 1, by omega⟩
theorem slow_sz (n b0 b1 b2 b3 sz lo hi : Nat) : (Lib.slowN n b0 b1 b2 b3 sz lo hi).2 =
    if n < sz ∨ (b1 < lo ∨ hi < b1) then 1 else if sz ≤ 2 then 2 else if b2 < 128 ∨ 191 < b2 then 1 else if sz ≤ 3 then 3 else if b3 < 128 ∨ 191 < b3 then 1 else 4 := by
  unfold Lib.slowN
  by_cases h1 : n < sz
  · simp [h1]
  · by_cases h2 : b1 < lo ∨ hi < b1
    · simp [h1, h2]
    · simp only [h1, h2, if_false, or_self]
      (repeat' split) <;> rfl

/-- One character's size, by the bytes' numbers. -/
def szN (n b0 b1 b2 b3 : Nat) : Nat :=
  if need (b0 : Int) = 2 ∧ 2 ≤ n ∧ lo2 (b0 : Int) ≤ (b1 : Int) ∧ (b1 : Int) ≤ hi2 (b0 : Int) then 2
  else if need (b0 : Int) = 3 ∧ 3 ≤ n ∧ lo2 (b0 : Int) ≤ (b1 : Int) ∧ (b1 : Int) ≤ hi2 (b0 : Int) ∧ cont (b2 : Int) then 3
  else if need (b0 : Int) = 4 ∧ 4 ≤ n ∧ lo2 (b0 : Int) ≤ (b1 : Int) ∧ (b1 : Int) ≤ hi2 (b0 : Int) ∧ cont (b2 : Int) ∧ cont (b3 : Int) then 4 else 1

set_option maxHeartbeats 4000000 in
theorem decN_sz (n b0 b1 b2 b3 : Nat) (hn : 1 ≤ n) (h0 : b0 < 256) (h1 : b1 < 256) (h2 : b2 < 256) (h3 : b3 < 256) : (Lib.decodeN n b0 b1 b2 b3).2 = szN n b0 b1 b2 b3 := by
  have one : ∀ b : Nat, need (b : Int) = 1 → szN n b b1 b2 b3 = 1 := by
    intro b hb; simp [szN, hb]
  have slow : Lib.firstT b0 < 240 → (Lib.decodeN n b0 b1 b2 b3).2 = szN n b0 b1 b2 b3 := by
    intro hx
    rw [← Lib.slow_eq n b0 b1 b2 b3 hn h1 h2 h3 hx, slow_sz]
    rcases Lib.firstT_low hx with h | h | h | h | h | h | h
    · rw [Lib.firstT_C2 h]
      have e : need (b0 : Int) = 2 := by unfold need; rw [if_pos (by omega)]
      have el : lo2 (b0 : Int) = 128 := by unfold lo2; rw [if_neg (by omega), if_neg (by omega)]
      have eh : hi2 (b0 : Int) = 191 := by unfold hi2; rw [if_neg (by omega), if_neg (by omega)]
      simp only [szN, e, el, eh, Lib.accLo, Lib.accHi, cont]
      simp (decide := true) only [if_true, if_false, true_and, false_and, Nat.reduceDiv, Nat.reduceMod]
      (repeat' split) <;> omega
    · subst h
      simp only [szN, show need ((224 : Nat) : Int) = 3 by decide, show lo2 ((224 : Nat) : Int) = 160 by decide, show hi2 ((224 : Nat) : Int) = 191 by decide, show Lib.firstT 224 = 19 by decide, Lib.accLo, Lib.accHi, cont]
      simp (decide := true) only [if_true, if_false, true_and, false_and, Nat.reduceDiv, Nat.reduceMod]
      (repeat' split) <;> omega
    · rw [Lib.firstT_E1 h]
      have e : need (b0 : Int) = 3 := by unfold need; rw [if_neg (by omega), if_pos (by omega)]
      have el : lo2 (b0 : Int) = 128 := by unfold lo2; rw [if_neg (by omega), if_neg (by omega)]
      have eh : hi2 (b0 : Int) = 191 := by unfold hi2; rw [if_neg (by omega), if_neg (by omega)]
      simp only [szN, e, el, eh, Lib.accLo, Lib.accHi, cont]
      simp (decide := true) only [if_true, if_false, true_and, false_and, Nat.reduceDiv, Nat.reduceMod]
      (repeat' split) <;> omega
    · subst h
      simp only [szN, show need ((237 : Nat) : Int) = 3 by decide, show lo2 ((237 : Nat) : Int) = 128 by decide, show hi2 ((237 : Nat) : Int) = 159 by decide, show Lib.firstT 237 = 35 by decide, Lib.accLo, Lib.accHi, cont]
      simp (decide := true) only [if_true, if_false, true_and, false_and, Nat.reduceDiv, Nat.reduceMod]
      (repeat' split) <;> omega
    · subst h
      simp only [szN, show need ((240 : Nat) : Int) = 4 by decide, show lo2 ((240 : Nat) : Int) = 144 by decide, show hi2 ((240 : Nat) : Int) = 191 by decide, show Lib.firstT 240 = 52 by decide, Lib.accLo, Lib.accHi, cont]
      simp (decide := true) only [if_true, if_false, true_and, false_and, Nat.reduceDiv, Nat.reduceMod]
      (repeat' split) <;> omega
    · rw [Lib.firstT_F1 h]
      have e : need (b0 : Int) = 4 := by unfold need; rw [if_neg (by omega), if_neg (by omega), if_pos (by omega)]
      have el : lo2 (b0 : Int) = 128 := by unfold lo2; rw [if_neg (by omega), if_neg (by omega)]
      have eh : hi2 (b0 : Int) = 191 := by unfold hi2; rw [if_neg (by omega), if_neg (by omega)]
      simp only [szN, e, el, eh, Lib.accLo, Lib.accHi, cont]
      simp (decide := true) only [if_true, if_false, true_and, false_and, Nat.reduceDiv, Nat.reduceMod]
      (repeat' split) <;> omega
    · subst h
      simp only [szN, show need ((244 : Nat) : Int) = 4 by decide, show lo2 ((244 : Nat) : Int) = 128 by decide, show hi2 ((244 : Nat) : Int) = 143 by decide, show Lib.firstT 244 = 68 by decide, Lib.accLo, Lib.accHi, cont]
      simp (decide := true) only [if_true, if_false, true_and, false_and, Nat.reduceDiv, Nat.reduceMod]
      (repeat' split) <;> omega
  by_cases ha : b0 < 128
  · have hx : Lib.firstT b0 = 240 := by unfold Lib.firstT; rw [if_pos ha]
    rw [Lib.ascii_eq n b0 b1 b2 b3 hx, one b0 (by unfold need; rw [if_neg (by omega), if_neg (by omega), if_neg (by omega)])]
  · by_cases hb : b0 < 194 ∨ 244 < b0
    · have hx : Lib.firstT b0 = 241 := by unfold Lib.firstT; (repeat' split) <;> omega
      rw [Lib.bad_eq n b0 b1 b2 b3 h0 hx, one b0 (by unfold need; rw [if_neg (by omega), if_neg (by omega), if_neg (by omega)])]
    · have hx : Lib.firstT b0 < 240 := by
        clear slow one
        have e1 : 194 ≤ b0 := by omega
        have e2 : b0 ≤ 244 := by omega
        clear hb
        unfold Lib.firstT
        (repeat' split) <;> omega
      exact slow hx

theorem decL_sz (l : List Int) (hb : Bytes l) : (decL l).2 = gsz l := by
  have nat : ∀ x ∈ l, ∃ n : Nat, n < 256 ∧ x = (n : Int) := fun x hx => ⟨x.toNat, by have := hb x hx; omega, by have := hb x hx; omega⟩
  match l, nat with
  | [], _ => rfl
  | [b], nat =>
    obtain ⟨b0, h0, rfl⟩ := nat b (by simp)
    simp only [decL, List.length_cons, List.length_nil, List.getD_cons_zero, List.getD_cons_succ, List.getD_nil, Int.toNat_natCast]
    rw [if_neg (by omega), decN_sz _ _ _ _ _ (by omega) h0 (by simp) (by simp) (by simp)]
    simp [szN, gsz]
  | [b, c], nat =>
    obtain ⟨b0, h0, rfl⟩ := nat b (by simp)
    obtain ⟨b1, h1, rfl⟩ := nat c (by simp)
    simp only [decL, List.length_cons, List.length_nil, List.getD_cons_zero, List.getD_cons_succ, List.getD_nil, Int.toNat_natCast]
    rw [if_neg (by omega), decN_sz _ _ _ _ _ (by omega) h0 h1 (by simp) (by simp)]
    simp [szN, gsz]
  | [b, c, d], nat =>
    obtain ⟨b0, h0, rfl⟩ := nat b (by simp)
    obtain ⟨b1, h1, rfl⟩ := nat c (by simp)
    obtain ⟨b2, h2, rfl⟩ := nat d (by simp)
    simp only [decL, List.length_cons, List.length_nil, List.getD_cons_zero, List.getD_cons_succ, List.getD_nil, Int.toNat_natCast]
    rw [if_neg (by omega), decN_sz _ _ _ _ _ (by omega) h0 h1 h2 (by simp)]
    simp [szN, gsz]
  | b :: c :: d :: e :: t, nat =>
    obtain ⟨b0, h0, rfl⟩ := nat b (by simp)
    obtain ⟨b1, h1, rfl⟩ := nat c (by simp)
    obtain ⟨b2, h2, rfl⟩ := nat d (by simp)
    obtain ⟨b3, h3, rfl⟩ := nat e (by simp)
    simp only [decL, List.length_cons, List.length_nil, List.getD_cons_zero, List.getD_cons_succ, List.getD_nil, Int.toNat_natCast]
    rw [if_neg (by omega), decN_sz _ _ _ _ _ (by omega) h0 h1 h2 h3]
    simp [szN, gsz]

theorem bytes_take {l : List Int} (h : Bytes l) (n : Nat) : Bytes (l.take n) := fun x hx => h x (List.mem_of_mem_take hx)
theorem bytes_drop {l : List Int} (h : Bytes l) (n : Nat) : Bytes (l.drop n) := fun x hx => h x (List.mem_of_mem_drop hx)
theorem bytes_append {a b : List Int} (ha : Bytes a) (hb : Bytes b) : Bytes (a ++ b) := fun x hx => by
  rcases List.mem_append.1 hx with h | h
  · exact ha x h
  · exact hb x h

theorem slow_f (l : List Int) (hb : Bytes l) : utf8_decodeRuneSlow.f l = some (((decL l).1 : Int), ((decL l).2 : Int)) := by
  unfold utf8_decodeRuneSlow.f
  rw [if_pos]
  rw [List.all_eq_true]
  intro x hx
  have := hb x (List.mem_of_mem_take hx)
  simp only [byteB, Bool.and_eq_true, decide_eq_true_eq]
  omega

/-- The character that the decoder tells. -/
def runeOf (l : List Int) : Int := if 0 < l.length ∧ l.getD 0 0 < 128 then wrap32 (l.getD 0 0) else ((decL l).1 : Int)

theorem utf8_DecodeRune_spec (l : List Int) (hb : Bytes l) (k : Nat) (hk : 0 < k) : utf8_DecodeRune.f k l = some (runeOf l, (gsz l : Int)) := by
  obtain ⟨k, rfl⟩ := ex_succ' hk
  unfold utf8_DecodeRune.f
  simp only [utf8_DecodeRune.l0]
  by_cases h : 0 < l.length
  · rw [if_pos (by omega), if_pos (by omega), if_pos (by omega)]
    have e : rd l 0 = l.getD 0 0 := by simp [rd]
    have e2 : l.getD 0 0 = l[0] := by simp [h]
    by_cases h1 : rd l 0 < 128
    · rw [if_pos h1]
      have : gsz l = 1 := by
        rcases Nat.lt_or_ge (gsz l) 2 with h2 | h2
        · have := gsz_pos (q := l) (by intro e; rw [e] at h; simp at h); omega
        · exfalso
          have hn : need l[0] = 1 := by
            unfold need; rw [e, e2] at h1
            rw [if_neg (by omega), if_neg (by omega), if_neg (by omega)]
          match l, h with
          | [_], _ => simp [gsz] at h2
          | [b, c], _ => simp at hn; simp [gsz, hn] at h2
          | [b, c, d], _ => simp at hn; simp [gsz, hn] at h2
          | b :: c :: d :: e :: t, _ => simp at hn; simp [gsz, hn] at h2
      rw [this, e, runeOf, if_pos ⟨h, by rw [← e]; exact h1⟩]; rfl
    · rw [if_neg h1, slow_f l hb, Option.bind_some, decL_sz l hb, runeOf, if_neg (fun c => h1 (by rw [e]; exact c.2))]
  · rw [if_neg (by omega), slow_f l hb, Option.bind_some, decL_sz l hb, runeOf, if_neg (fun c => h c.1)]

end Go.Proofs.YtlpcibpeakmmaaaDoor.Ad
namespace Go.Proofs.YtlpcibpeakmmaaaDoor.Ad
open Go Go.RowKit Go.Proofs.YtlpcibpeakmmaaaDoor.Pa Go.Proofs.YtlpcibpeakmmaaaDoorW.PrintWords Go.Proofs.YtlpcibpeakmmaaaDoorW.PrintLast Go.Proofs.YtlpcibpeakmmaaaDoorW.PrintMore Go.Proofs.YtlpcibpeakmmaaaDoor.Gen
set_option linter.unusedVariables false
set_option linter.unusedSimpArgs false

theorem glyph_Next_spec (p : List Int) (hb : Bytes p) (i : Nat) (hi : i < p.length) (k : Nat) (hk : 0 < k) : glyph_Next.f k p (i : Int) = some (gsz (p.drop i) : Int) := by
  unfold glyph_Next.f
  rw [if_neg (by omega), if_neg (by omega), if_pos (by omega), if_pos (by omega), Int.toNat_natCast, utf8_DecodeRune_spec _ (bytes_drop hb i) k hk, Option.bind_some]
theorem glyph_Next_out (p : List Int) (a : Int) (h : a < 0 ∨ a ≥ (p.length : Int)) (k : Nat) : glyph_Next.f k p a = some 0 := by
  unfold glyph_Next.f
  by_cases h1 : a < 0
  · rw [if_pos h1]
  · rw [if_neg h1, if_pos (by omega)]

end Go.Proofs.YtlpcibpeakmmaaaDoor.Ad
namespace Go.Proofs.YtlpcibpeakmmaaaDoor.Ad
open Go Go.RowKit Go.Proofs.YtlpcibpeakmmaaaDoor.Pa Go.Proofs.YtlpcibpeakmmaaaDoorW.PrintWords Go.Proofs.YtlpcibpeakmmaaaDoorW.PrintLast Go.Proofs.YtlpcibpeakmmaaaDoorW.PrintMore Go.Proofs.YtlpcibpeakmmaaaDoor.Gen
set_option linter.unusedVariables false
set_option linter.unusedSimpArgs false

theorem glyph_Wide_l0 (p : List Int) (hb : Bytes p) (t : Nat) (h0 : 0 < t) (ht : t ≤ 1000) (hp : p.length ≤ 100000000) (n : Nat) : ∀ (k x c : Nat), x ≤ p.length → p.length ≤ x + n → c + (p.length - x) * t ≤ 900000000 → n + 1 < k →
    glyph_Wide.l0 k p (c : Int) (t : Int) (x : Int) = some (wid_ (p.drop x) c t : Int) := by
  induction n with
  | zero =>
    intro k x c h1 h2 _ hk
    obtain ⟨k, rfl⟩ := ex_succ' hk
    simp only [glyph_Wide.l0]
    rw [if_neg (by omega), List.drop_eq_nil_of_le (by omega), wid_nil]
  | succ n ih =>
    intro k x c h1 h2 hc hk
    obtain ⟨k, rfl⟩ := ex_succ' hk
    simp only [glyph_Wide.l0]
    by_cases h : x < p.length
    · have hg := gd_pos p x h
      have hle := gd_le p x h1
      have hs := stp_le c p[x].toNat t h0
      have hmul : (p.length - (x + gsz (p.drop x))) * t + t ≤ (p.length - x) * t := by
        have := Nat.mul_le_mul_right t (show (p.length - (x + gsz (p.drop x))) + 1 ≤ p.length - x by omega)
        rw [Nat.add_mul, Nat.one_mul] at this; exact this
      have hnext := ih k (x + gsz (p.drop x)) (stp c p[x].toNat t) (by omega) (by omega) (by omega) (by omega)
      have hnx := glyph_Next_spec p hb x h k (by omega)
      rw [if_pos (by omega), if_pos (by omega), rd_nat p x h, glyph_Step_spec c p[x].toNat t _ (byte_nat hb x h) (by omega) (by omega) h0, Option.bind_some]
      have hw : wrap64 ((x : Int) + (gsz (p.drop x) : Int)) = ((x + gsz (p.drop x) : Nat) : Int) := by
        rw [← Int.natCast_add]
        exact wid (by omega) (by omega)
      rw [hnx, Option.bind_some, hw, hnext, wid_at p x h]
    · rw [if_neg (by omega), List.drop_eq_nil_of_le (by omega), wid_nil]
theorem glyph_Wide_long (p : List Int) (hb : Bytes p) (c t : Nat) (h0 : 0 < t) (ht : t ≤ 1000) (hp : p.length ≤ 100000000) (hm : p.length * t ≤ 100000000) (hc : c ≤ 1000000) (k : Nat) (hk : p.length + 1 < k) :
    glyph_Wide.f k p (c : Int) (t : Int) = some (wid_ p c t : Int) := by
  have := glyph_Wide_l0 p hb t h0 ht hp p.length k 0 c (by omega) (by omega) (by simp only [Nat.sub_zero]; omega) hk
  simpa [glyph_Wide.f] using this
theorem glyph_Wide_spec (p : List Int) (hb : Bytes p) (c t : Nat) (h0 : 0 < t) (ht : t ≤ 1000) (hp : p.length ≤ 10000) (hc : c ≤ 1000000) (k : Nat) (hk : p.length + 1 < k) :
    glyph_Wide.f k p (c : Int) (t : Int) = some (wid_ p c t : Int) := by
  have hm : p.length * t ≤ 10000 * 1000 := Nat.mul_le_mul hp ht
  exact glyph_Wide_long p hb c t h0 ht (by omega) (by omega) hc k hk

end Go.Proofs.YtlpcibpeakmmaaaDoor.Ad
namespace Go.Proofs.YtlpcibpeakmmaaaDoor.Ad
open Go Go.RowKit Go.Proofs.YtlpcibpeakmmaaaDoor.Pa Go.Proofs.YtlpcibpeakmmaaaDoorW.PrintWords Go.Proofs.YtlpcibpeakmmaaaDoorW.PrintLast Go.Proofs.YtlpcibpeakmmaaaDoorW.PrintMore Go.Proofs.YtlpcibpeakmmaaaDoor.Gen
set_option linter.unusedVariables false
set_option linter.unusedSimpArgs false

theorem lastIndex_l0 (q : List Int) (hq : q.length ≤ 1000000000) {A : List (List Int)} {x : List Int} (hx : lns q = A ++ [x]) (m : Nat) : ∀ (k : Nat) (i : Int), i + 1 = (m : Int) → m ≤ q.length → (∀ c ∈ q.drop m, c ≠ 10) → m < k →
    bytealg_LastIndexByte.l0 k q 10 i = some ((q.length : Int) - (x.length : Int) - 1) := by
  induction m with
  | zero =>
    intro k i hi hm hf hk
    obtain ⟨k, rfl⟩ := ex_succ hk
    rw [bytealg_LastIndexByte.l0, if_neg (by omega)]
    rw [List.drop_zero] at hf
    have := lns_one hf
    rw [hx] at this
    have e : A = [] ∧ x = q := by
      cases A with
      | nil => exact ⟨rfl, by simpa using this⟩
      | cons a A => simp at this
    rw [e.2]; congr 1; omega
  | succ m ih =>
    intro k i hi hm hf hk
    obtain ⟨k, rfl⟩ := ex_succ hk
    obtain rfl : i = (m : Int) := by omega
    have hlt : m < q.length := by omega
    rw [bytealg_LastIndexByte.l0, if_pos (by omega), if_pos (by omega), if_pos (by omega), rd_nat q m hlt]
    by_cases h : q[m] = 10
    · rw [if_pos h]
      have e1 : q = q.take m ++ 10 :: q.drop (m + 1) := by
        rw [← h, ← drop_at q m hlt, List.take_append_drop]
      have e2 : lns q = lns (q.take m) ++ [q.drop (m + 1)] := by
        conv => lhs; rw [e1]
        rw [lns_mid, lns_one hf]
      rw [hx] at e2
      have e3 := (List.append_inj' e2 rfl).2
      have e4 : x = q.drop (m + 1) := by simpa using e3
      rw [e4, List.length_drop]; congr 1; omega
    · have hw : wrap64 ((m : Int) - 1) = (m : Int) - 1 := wid (by omega) (by omega)
      rw [if_neg h, hw]
      clear hw
      exact ih k ((m : Int) - 1) (by omega) (by omega) (fun c hc => by
        rw [drop_at q m hlt] at hc
        rcases List.mem_cons.1 hc with rfl | hc
        · exact h
        · exact hf c hc) (by omega)
theorem lastIndex_spec (q : List Int) (hq : q.length ≤ 1000000000) {A : List (List Int)} {x : List Int} (hx : lns q = A ++ [x]) (k : Nat) (hk : q.length < k) : bytes_LastIndexByte.f k q 10 = some ((q.length : Int) - (x.length : Int) - 1) := by
  unfold bytes_LastIndexByte.f bytealg_LastIndexByte.f
  rw [wid (by omega) (by omega), lastIndex_l0 q hq hx q.length k _ (by omega) (Nat.le_refl _) (by simp) hk, Option.bind_some]
theorem lines_Column_spec (p : List Int) (hb : Bytes p) (hp : p.length ≤ 10000) (a t : Int) (ht : t ≤ 1000) (k : Nat) (hk : p.length + 1 < k) : lines_Column.f k p a t = some (wid_ (ahd p (clip p a)) 0 (tb t) : Int) := by
  have hc := clip_le p a
  unfold lines_Column.f
  rw [mn_clip, mx_tb, if_pos (by omega), if_pos (by omega), Int.toNat_natCast]
  generalize clip p a = c at *
  obtain ⟨A, x, h1⟩ := lns_last (p.take c)
  have hl := last_line h1
  have ha := ahead_last hc h1
  have hlen : (p.take c).length = c := by simp only [List.length_take]; omega
  rw [hlen] at hl
  rw [lastIndex_spec (p.take c) (by omega) h1 k (by omega), Option.bind_some, hlen, ha]
  have hw : wrap64 ((c : Int) - (x.length : Int) - 1 + 1) = (off A : Int) := by rw [wid (by omega) (by omega)]; omega
  rw [hw]
  clear hw
  have hxl : x.length ≤ p.length := by omega
  have bx : Bytes x := fun z hz => hb z (by
    rw [← hl.1] at hz
    exact List.mem_of_mem_take (List.mem_of_mem_drop hz))
  have htb := tb_pos t
  rw [if_pos (by omega), if_pos (by omega), Int.toNat_natCast, hl.1]
  rw [show glyph_Wide.f k x 0 (tb t : Int) = some (wid_ x 0 (tb t) : Int) from glyph_Wide_spec x bx 0 (tb t) htb (by unfold tb; omega) (by omega) (by omega) k (by omega), Option.bind_some]

end Go.Proofs.YtlpcibpeakmmaaaDoor.Ad
namespace Go.Proofs.YtlpcibpeakmmaaaDoor.Ad
open Go Go.RowKit Go.Proofs.YtlpcibpeakmmaaaDoor.Pa Go.Proofs.YtlpcibpeakmmaaaDoorW.PrintWords Go.Proofs.YtlpcibpeakmmaaaDoorW.PrintLast Go.Proofs.YtlpcibpeakmmaaaDoorW.PrintMore Go.Proofs.YtlpcibpeakmmaaaDoor.Gen
set_option linter.unusedVariables false
set_option linter.unusedSimpArgs false

theorem lines_Of_spec (p : List Int) (hb : Bytes p) (a : Int) : lines_Of.f p a = some (row p (clip p a) : Int) := by
  have := clip_le p a
  unfold lines_Of.f
  rw [mn_clip, if_pos (by omega), if_pos (by omega), Int.toNat_natCast, bytes_Count_spec _ (fun x hx => hb x (List.mem_of_mem_take hx)), Option.bind_some]
  rfl

end Go.Proofs.YtlpcibpeakmmaaaDoor.Ad
namespace Go.Proofs.YtlpcibpeakmmaaaDoor.Ad
open Go Go.RowKit Go.Proofs.YtlpcibpeakmmaaaDoor.Pa Go.Proofs.YtlpcibpeakmmaaaDoorW.PrintWords Go.Proofs.YtlpcibpeakmmaaaDoorW.PrintLast Go.Proofs.YtlpcibpeakmmaaaDoorW.PrintMore Go.Proofs.YtlpcibpeakmmaaaDoor.Gen
set_option linter.unusedVariables false
set_option linter.unusedSimpArgs false

theorem bytes_IndexByte_spec (p : List Int) (hb : Bytes p) (c : Int) (hc : 0 ≤ c ∧ c ≤ 255) : bytes_IndexByte.f p c = some (fb p c) := by
  unfold bytes_IndexByte.f
  rw [indexByte_fb p hb c hc]

end Go.Proofs.YtlpcibpeakmmaaaDoor.Ad
namespace Go.Proofs.YtlpcibpeakmmaaaDoor.Ad
open Go Go.RowKit Go.Proofs.YtlpcibpeakmmaaaDoor.Pa Go.Proofs.YtlpcibpeakmmaaaDoorW.PrintWords Go.Proofs.YtlpcibpeakmmaaaDoorW.PrintLast Go.Proofs.YtlpcibpeakmmaaaDoorW.PrintMore Go.Proofs.YtlpcibpeakmmaaaDoor.Gen
set_option linter.unusedVariables false
set_option linter.unusedSimpArgs false

/-- A span, if it is there. -/
def spr : Option NN → Int × Int × Bool
  | some x => ((x.1 : Int), (x.2 : Int), true)
  | none => (0, 0, false)
theorem fb_at {p : List Int} {i : Nat} (h : i < (lns p).length) : fb (p.drop (off ((lns p).take i))) 10 = if i + 1 = (lns p).length then -1 else ((lns p)[i].length : Int) := by
  have h1 : lns (p.drop (off ((lns p).take i))) = (lns p).drop i := by
    rw [line_drop h, lns_jn (by intro e; have := congrArg List.length e; simp only [List.length_drop, List.length_nil] at this; omega) (fun l hl => lns_free p l (List.mem_of_mem_drop hl))]
  rw [List.drop_eq_getElem_cons h] at h1
  rw [fb_line _ h1]
  by_cases e : i + 1 = (lns p).length
  · rw [if_pos e, if_pos (List.drop_eq_nil_of_le (by omega))]
  · rw [if_neg e, if_neg]
    intro hn
    have := congrArg List.length hn
    simp only [List.length_drop, List.length_nil] at this
    omega
theorem lines_Span_l0 (p : List Int) (hb : Bytes p) (hp : p.length ≤ 1000000000) (line : Int) (m : Nat) : ∀ (k i : Nat), i + m = (lns p).length → (i = 0 ∨ (i : Int) ≤ line) → i < (lns p).length → 2 * m + 1 < k →
    lines_Span.l0 k p line (off ((lns p).take i) : Int) (i : Int) = some (spr (sp p line)) := by
  have hc10 : 0 ≤ (10 : Int) ∧ (10 : Int) ≤ 255 := by omega
  have hcnt := lns_count p
  have hnl := nls_le p
  induction m with
  | zero => intro k i hi _ hlt _; omega
  | succ m ih =>
    intro k i hi hl hlt hk
    obtain ⟨k, rfl⟩ := ex_succ (n := 0) (k := k) (by omega)
    obtain ⟨k, rfl⟩ := ex_succ (n := 0) (k := k) (by omega)
    have hol := off_last hlt
    have hf := fb_at hlt
    have bd : Bytes (p.drop (off ((lns p).take i))) := fun x hx => hb x (List.mem_of_mem_drop hx)
    rw [lines_Span.l0]
    by_cases h : (i : Int) < line
    · rw [if_pos h, decide_eq_true (by omega), lines_Span.j1, if_pos rfl, if_pos (by omega), if_pos (by omega), Int.toNat_natCast, bytes_IndexByte_spec _ bd 10 hc10, Option.bind_some, hf]
      by_cases e : i + 1 = (lns p).length
      · rw [if_pos e, if_pos (by omega), sp_out (.inr (by omega))]; rfl
      · have hw1 : wrap64 (((lns p)[i].length : Int) + 1) = (((lns p)[i].length + 1 : Nat) : Int) := wnat (by omega)
        have hw2 : wrap64 ((off ((lns p).take i) : Int) + (((lns p)[i].length + 1 : Nat) : Int)) = (off ((lns p).take (i + 1)) : Int) := by
          clear hw1
          rw [off_take hlt, wid (by omega) (by omega)]; omega
        have hw3 : wrap64 ((i : Int) + 1) = ((i + 1 : Nat) : Int) := by clear hw1 hw2; exact wnat (by omega)
        rw [if_neg e, if_neg (by clear hw1 hw2 hw3; omega), hw1, hw2, hw3]
        clear hw1 hw2 hw3
        exact ih k (i + 1) (by omega) (.inr (by omega)) (by omega) (by omega)
    · rw [if_neg h, lines_Span.j1, if_neg (by simp)]
      by_cases hn : line < 0
      · rw [if_pos hn, sp_out (.inl hn)]; rfl
      · have hli : line = (i : Int) := by omega
        subst hli
        have hs := sp_in (p := p) (line := (i : Int)) (by omega) (by rw [Int.toNat_natCast]; exact hlt)
        simp only [Int.toNat_natCast] at hs
        rw [if_neg hn, if_pos (by omega), if_pos (by omega), Int.toNat_natCast, bytes_IndexByte_spec _ bd 10 hc10, Option.bind_some, hf, hs]
        by_cases e : i + 1 = (lns p).length
        · have hw1 : wrap64 ((p.length : Int) - (off ((lns p).take i) : Int)) = ((lns p)[i].length : Int) := by
            rw [wid (by omega) (by omega)]; omega
          rw [if_pos e, if_pos (by omega), hw1]; rfl
        · rw [if_neg e, if_neg (by omega)]; rfl
theorem lines_Span_spec (p : List Int) (hb : Bytes p) (hp : p.length ≤ 1000000000) (line : Int) (k : Nat) (hk : 2 * p.length + 4 < k) : lines_Span.f k p line = some (spr (sp p line)) := by
  have hcnt := lns_count p
  have hnl := nls_le p
  have := lines_Span_l0 p hb hp line (lns p).length k 0 (by omega) (.inl rfl) (by omega) (by omega)
  simpa [lines_Span.f, off] using this

end Go.Proofs.YtlpcibpeakmmaaaDoor.Ad
namespace Go.Proofs.YtlpcibpeakmmaaaDoor.Ad
open Go Go.RowKit Go.Proofs.YtlpcibpeakmmaaaDoor.Pa Go.Proofs.YtlpcibpeakmmaaaDoorW.PrintWords Go.Proofs.YtlpcibpeakmmaaaDoorW.PrintLast Go.Proofs.YtlpcibpeakmmaaaDoorW.PrintMore Go.Proofs.YtlpcibpeakmmaaaDoor.Gen
set_option linter.unusedVariables false
set_option linter.unusedSimpArgs false

theorem rows_spec (k : Nat) (hk : 100 < k) : platenlaw03_rows.f k = some true := by
  have b1 : Bytes [97, 10, 9, 98] := by intro x hx; simp at hx; omega
  have b0 : Bytes [] := by intro x hx; simp at hx
  have l1 := lines_Span_spec [97, 10, 9, 98] b1 (by decide) 1 k (by simp only [List.length_cons, List.length_nil]; omega)
  have l2 := lines_Count_spec [] b0 (by decide)
  have l3 := lines_Of_spec [97, 10, 9, 98] b1 2
  have l4 := lines_Indent_spec ⟨#[9, 98]⟩ (by decide) k (by have : (⟨#[9, 98]⟩ : ByteArray).size = 2 := rfl; omega)
  have l5 := lines_Column_spec [97, 10, 9, 98] b1 (by decide) 3 8 (by omega) k (by simp only [List.length_cons, List.length_nil]; omega)
  rw [show spr (sp [97, 10, 9, 98] 1) = (2, 2, true) by decide] at l1
  rw [show ((nls [] + 1 : Nat) : Int) = 1 by decide] at l2
  rw [show (row [97, 10, 9, 98] (clip [97, 10, 9, 98] 2) : Int) = 1 by decide] at l3
  rw [show (ind (bytesOf ⟨#[9, 98]⟩) : Int) = 1 by decide] at l4
  rw [show (wid_ (ahd [97, 10, 9, 98] (clip [97, 10, 9, 98] 3)) 0 (tb 8) : Int) = 8 by decide] at l5
  unfold platenlaw03_rows.f
  rw [Option.bind_some, l1, Option.bind_some, l2, Option.bind_some, if_pos rfl]
  dsimp only
  rw [if_pos (by trivial), if_pos (by trivial), if_pos (by trivial), l3, Option.bind_some, if_pos rfl, l4, Option.bind_some, if_pos rfl, l5, Option.bind_some]
  rfl

end Go.Proofs.YtlpcibpeakmmaaaDoor.Ad
namespace Go.Proofs.YtlpcibpeakmmaaaDoor.Ad
open Go Go.RowKit Go.Proofs.YtlpcibpeakmmaaaDoor.Pa Go.Proofs.YtlpcibpeakmmaaaDoorW.PrintWords Go.Proofs.YtlpcibpeakmmaaaDoorW.PrintLast Go.Proofs.YtlpcibpeakmmaaaDoorW.PrintMore Go.Proofs.YtlpcibpeakmmaaaDoor.Gen
set_option linter.unusedVariables false
set_option linter.unusedSimpArgs false

theorem bytes_Index_spec (p : List Int) (hb : Bytes p) : bytes_Index.f p [10] = some (fb p 10) := by
  unfold bytes_Index.f
  rw [if_pos (show ([10] : List Int).length = 1 from rfl), show ([10] : List Int).getD 0 0 = 10 from rfl, indexByte_fb p hb 10 (by omega)]
theorem set_next (L : List (List Int)) (i : Nat) (h : i < L.length) : (L.take i ++ List.replicate (L.length - i) []).set i L[i] = L.take (i + 1) ++ List.replicate (L.length - (i + 1)) [] := by
  have e : List.replicate (L.length - i) ([] : List Int) = [] :: List.replicate (L.length - (i + 1)) [] := by
    rw [show L.length - i = (L.length - (i + 1)) + 1 by omega, List.replicate_succ]
  rw [e, List.set_append_right _ _ (by simp only [List.length_take]; omega), List.length_take, show i - min i L.length = 0 by omega, List.set_cons_zero, List.take_succ_eq_append_getElem h, List.append_assoc]
  rfl
theorem genSplit_l0 (p : List Int) (hb : Bytes p) (hp : p.length ≤ 1000000000) (m : Nat) : ∀ (k i : Nat), i + m + 1 = (lns p).length → m < k →
    bytes_genSplit.l0 k (jn ((lns p).drop i)) [10] 0 (((lns p).length : Int) - 1) ((lns p).take i ++ List.replicate ((lns p).length - i) []) (i : Int) = some (lns p) := by
  have hcnt := lns_count p
  have hnl := nls_le p
  induction m with
  | zero =>
    intro k i hi hk
    obtain ⟨k, rfl⟩ := ex_succ hk
    have hlt : i < (lns p).length := by omega
    have hlen : ((lns p).take i ++ List.replicate ((lns p).length - i) ([] : List Int)).length = (lns p).length := by simp only [List.length_append, List.length_take, List.length_replicate]; omega
    have e1 : jn ((lns p).drop i) = (lns p)[i] := by
      rw [List.drop_eq_getElem_cons hlt, List.drop_eq_nil_of_le (by omega)]; rfl
    have e2 : ((lns p).take i ++ List.replicate ((lns p).length - i) ([] : List Int)).set i (lns p)[i] = lns p := by
      rw [set_next _ i hlt, show (lns p).length - (i + 1) = 0 by omega, List.take_of_length_le (by omega)]; simp
    rw [bytes_genSplit.l0, if_neg (by omega), if_pos (by omega), hlen, if_pos (by omega), wnat (by omega), if_pos (by omega), if_pos (by omega), Int.toNat_natCast, Int.toNat_natCast, e1, e2, List.take_of_length_le (by omega)]
  | succ m ih =>
    intro k i hi hk
    obtain ⟨k, rfl⟩ := ex_succ hk
    have hlt : i < (lns p).length := by omega
    have hlen : ((lns p).take i ++ List.replicate ((lns p).length - i) ([] : List Int)).length = (lns p).length := by simp only [List.length_append, List.length_take, List.length_replicate]; omega
    have hd := List.drop_eq_getElem_cons hlt
    have hne : (lns p).drop (i + 1) ≠ [] := by
      intro e; have := congrArg List.length e; simp only [List.length_drop, List.length_nil] at this; omega
    have hj : jn ((lns p).drop i) = (lns p)[i] ++ 10 :: jn ((lns p).drop (i + 1)) := by rw [hd, jn_cons _ hne]
    have hnd : (lns p).drop i ≠ [] := by intro e; have := congrArg List.length e; simp only [List.length_drop, List.length_nil] at this; omega
    have hll : lns (jn ((lns p).drop i)) = (lns p)[i] :: (lns p).drop (i + 1) := (lns_jn hnd (fun l hl => lns_free p l (List.mem_of_mem_drop hl))).trans hd
    have hbj : Bytes (jn ((lns p).drop i)) := fun c hc => hb c (by
      rw [← line_drop hlt] at hc; exact List.mem_of_mem_drop hc)
    have hfb := fb_line _ hll
    rw [if_neg hne] at hfb
    have hjl : (jn ((lns p).drop i)).length = (lns p)[i].length + 1 + (jn ((lns p).drop (i + 1))).length := by rw [hj]; simp only [List.length_append, List.length_cons]; omega
    have hle := off_le hlt
    have hjp : (jn ((lns p).drop i)).length ≤ p.length := by rw [← line_drop hlt]; simp only [List.length_drop]; omega
    have ht : (jn ((lns p).drop i)).take (lns p)[i].length = (lns p)[i] := by rw [hj, List.take_left]
    have hdr : (jn ((lns p).drop i)).drop ((lns p)[i].length + 1) = jn ((lns p).drop (i + 1)) := by
      rw [hj, ← List.drop_drop, List.drop_left, List.drop_succ_cons, List.drop_zero]
    have hnext := ih k (i + 1) (by omega) (by omega)
    rw [bytes_genSplit.l0, if_pos (by omega), bytes_Index_spec _ hbj, Option.bind_some, hfb, if_neg (by omega)]
    have w0 : wrap64 (((lns p)[i].length : Int) + 0) = ((lns p)[i].length : Int) := by rw [Int.add_zero]; exact wid (by omega) (by omega)
    have w1 : wrap64 (((lns p)[i].length : Int) + ((([10] : List Int).length : Nat) : Int)) = (((lns p)[i].length + 1 : Nat) : Int) := by clear w0; exact wnat (by omega)
    have w2 : wrap64 ((i : Int) + 1) = ((i + 1 : Nat) : Int) := by clear w0 w1; exact wnat (by omega)
    rw [w0, w1, w2]
    clear w0 w1 w2
    rw [if_pos (by omega), if_pos (by omega), if_pos (by omega), hlen, if_pos (by omega), if_pos (by omega), if_pos (by omega), Int.toNat_natCast, Int.toNat_natCast, Int.toNat_natCast, ht, hdr, set_next _ i hlt, hnext]
theorem bytes_Split_spec (p : List Int) (hb : Bytes p) (hp : p.length ≤ 1000000000) (k : Nat) (hk : p.length + 2 < k) : bytes_Split.f k p [10] = some (lns p) := by
  have hcnt := lns_count p
  have hnl := nls_le p
  obtain ⟨k, rfl⟩ := ex_succ (n := 0) (k := k) (by omega)
  have w1 : wrap64 ((nls p : Int) + 1) = ((lns p).length : Int) := by rw [hcnt]; exact wnat (by omega)
  have w2 : wrap64 ((p.length : Int) + 1) = ((p.length + 1 : Nat) : Int) := by clear w1; exact wnat (by omega)
  have em : mn ((lns p).length : Int) ((p.length + 1 : Nat) : Int) = ((lns p).length : Int) := by clear w1 w2; unfold mn; split <;> omega
  have w3 : wrap64 (((lns p).length : Int) - 1) = ((lns p).length : Int) - 1 := by clear w1 w2; exact wid (by omega) (by omega)
  have := genSplit_l0 p hb hp (nls p) k 0 (by clear w1 w2 w3; omega) (by clear w1 w2 w3; omega)
  rw [List.drop_zero, jn_lns, List.take_zero, List.nil_append, Nat.sub_zero] at this
  unfold bytes_Split.f bytes_genSplit.f
  rw [if_neg (by decide), if_neg (by decide), if_pos (by decide), bytes_Count_spec p hb, Option.bind_some, w1, bytes_genSplit.j0, w2, em, w3, if_pos (by clear w1 w2 w3; omega), Int.toNat_natCast, if_pos (by clear w1 w2 w3; omega)]
  rw [show ((0 : Nat) : Int) = 0 from rfl] at this
  rw [this, Option.bind_some]
theorem lines_Split_l0 (L : List (List Int)) (hL : L.length ≤ 2000000000) (m : Nat) : ∀ (k i : Nat), i + m = L.length → m < k →
    lines_Split.l0 k ((L.take i).map strOfNums) L (L.length : Int) (i : Int) = some (L.map strOfNums) := by
  induction m with
  | zero =>
    intro k i hi hk
    obtain ⟨k, rfl⟩ := ex_succ hk
    rw [lines_Split.l0, if_neg (by omega), List.take_of_length_le (by omega)]
  | succ m ih =>
    intro k i hi hk
    obtain ⟨k, rfl⟩ := ex_succ hk
    have hlt : i < L.length := by omega
    have hnext := ih k (i + 1) (by omega) (by omega)
    have hrd : rd_L3 L (i : Int) = L[i] := by simp [rd_L3, hlt]
    rw [List.take_succ_eq_append_getElem hlt, List.map_append, List.map_cons, List.map_nil] at hnext
    rw [lines_Split.l0, if_pos (by omega), if_pos (by omega), if_pos (by omega), if_pos (by simp only [List.length_map, List.length_take]; omega), hrd, wnat (by omega), hnext]
theorem lines_Split_spec (p : List Int) (hb : Bytes p) (hp : p.length ≤ 1000000000) (k : Nat) (hk : p.length + 2 < k) : lines_Split.f k p = some ((lns p).map strOfNums) := by
  have hcnt := lns_count p
  have hnl := nls_le p
  unfold lines_Split.f
  rw [bytes_Split_spec p hb hp k hk, Option.bind_some]
  have := lines_Split_l0 (lns p) (by omega) (lns p).length k 0 (by omega) (by omega)
  simpa using this

end Go.Proofs.YtlpcibpeakmmaaaDoor.Ad
namespace Go.Proofs.YtlpcibpeakmmaaaDoor.Pure
open Go Go.RowKit Go.Proofs.YtlpcibpeakmmaaaDoor.Pa Go.Proofs.YtlpcibpeakmmaaaDoorW.PrintWords Go.Proofs.YtlpcibpeakmmaaaDoorW.PrintLast Go.Proofs.YtlpcibpeakmmaaaDoorW.PrintMore Go.Proofs.YtlpcibpeakmmaaaDoor.Gen Go.Proofs.YtlpcibpeakmmaaaDoor.Ad
set_option linter.unusedVariables false
set_option linter.unusedSimpArgs false

theorem LinesSplits_l (p : List Int) (bp : Bytes p) (hp : p.length ≤ 300) (m : Nat) : ∀ (k i : Nat), i + m = (lns p).length → 3 * m + 1000 < k →
    platenlaw03_LinesSplits.l0 k p ((lns p).map strOfNums) (jn ((lns p).take i)) (i : Int) = some true := by
  have hcnt := lns_count p
  have hnl := nls_le p
  induction m with
  | zero =>
    intro k i hi hk
    obtain ⟨k, rfl⟩ := ex_succ (n := 0) (k := k) (by omega)
    rw [platenlaw03_LinesSplits.l0, List.length_map, if_neg (by omega), List.take_of_length_le (by omega), jn_lns, platenref01_Same_spec p p (by omega) k (by omega), Option.bind_some]
    simp
  | succ m ih =>
    intro k i hi hk
    obtain ⟨k, rfl⟩ := ex_succ (n := 0) (k := k) (by omega)
    obtain ⟨k, rfl⟩ := ex_succ (n := 0) (k := k) (by omega)
    have hlt : i < (lns p).length := by omega
    have hnext := ih k (i + 1) (by omega) (by omega)
    have hle := off_le hlt
    have hfree := lns_free p _ (List.getElem_mem hlt)
    have bl_ : Bytes (lns p)[i] := fun c hc => by
      have h2 := line_cut hlt
      rw [← h2] at hc
      exact bp c (List.mem_of_mem_take (List.mem_of_mem_drop hc))
    have hrd : rdOf ByteArray.empty ((lns p).map strOfNums) (i : Int) = strOfNums (lns p)[i] := by simp [rdOf, hlt]
    have hjb : (jn ((lns p).take i)).length ≤ off (lns p) := by
      rcases Nat.eq_zero_or_pos i with h | h
      · subst h; simp [jn]
      · have h1 := jn_length (L := (lns p).take i) (by intro e; have := congrArg List.length e; simp only [List.length_take, List.length_nil] at this; omega)
        have h2 := off_append ((lns p).take i) ((lns p).drop i)
        rw [List.take_append_drop] at h2
        omega
    have hol := off_lns p
    have hsp := sp_in (p := p) (line := (i : Int)) (by omega) (by rw [Int.toNat_natCast]; exact hlt)
    simp only [Int.toNat_natCast] at hsp
    have he : (endsF 0 (lns p)[i]).length = 0 := by
      rw [endsF_length]
      unfold nls
      rw [List.length_eq_zero_iff, List.filter_eq_nil_iff]
      intro c hc
      simpa using hfree c hc
    have hcut : (p.take (off ((lns p).take i) + (lns p)[i].length)).drop (off ((lns p).take i)) = (lns p)[i] := line_cut hlt
    -- one line more
    have key : ∀ acc : List Int, acc.length ≤ p.length + 10 → acc ++ (lns p)[i] = jn ((lns p).take (i + 1)) → platenlaw03_LinesSplits.j2 (k + 1) p ((lns p).map strOfNums) acc (i : Int) = some true := by
      intro acc ha hacc
      rw [platenlaw03_LinesSplits.j2, List.length_map, hrd, strOfNums_size, if_pos (by omega), if_pos (by omega), if_pos (by omega), lines_Span_spec p bp (by omega) (i : Int) k (by omega), Option.bind_some, hsp]
      refine (if_pos rfl).trans ?_
      simp only [spr]
      clear hrd hsp
      generalize off ((lns p).take i) = s at *
      generalize (lns p)[i] = y at *
      have hw : wrap64 ((s : Int) + (y.length : Int)) = ((s + y.length : Nat) : Int) := wadd (by omega)
      have d1 : (0 : Int) ≤ (s : Int) := by clear hw; omega
      have d2 : (s : Int) ≤ wrap64 ((s : Int) + (y.length : Int)) := by rw [hw]; clear hw; omega
      have d3 : wrap64 ((s : Int) + (y.length : Int)) ≤ (p.length : Int) := by rw [hw]; clear hw; omega
      have d4 : (strOfNums ((p.take (wrap64 ((s : Int) + (y.length : Int))).toNat).drop (s : Int).toNat)).toList = (strOfNums y).toList := by rw [hw, Int.toNat_natCast, Int.toNat_natCast, hcut]
      clear hw
      refine (if_pos d1).trans ((if_pos d2).trans ((if_pos d3).trans ((if_pos d4).trans ((if_pos (by clear d2 d3 d4; omega)).trans ?_))))
      clear d1 d2 d3 d4
      rw [bytesOf_str bl_, platenref03_Ends_spec _ (by omega) k (by omega), Option.bind_some, zs_len, he, if_neg (by omega), hacc, wnat (by omega), hnext]
    have hnx : ∀ h0 : i ≠ 0, jn ((lns p).take i) ++ [10] ++ (lns p)[i] = jn ((lns p).take (i + 1)) := by
      intro h0
      rw [List.take_succ_eq_append_getElem hlt, jn_append (by intro e; have := congrArg List.length e; simp only [List.length_take, List.length_nil] at this; omega) (by simp)]
      simp [jn]
    rw [platenlaw03_LinesSplits.l0, List.length_map, if_pos (by omega)]
    by_cases h0 : i = 0
    · rw [if_neg (by omega)]
      subst h0
      exact key _ (by simp [jn]) (by rw [List.take_succ_eq_append_getElem hlt]; simp [jn])
    · rw [if_pos (by omega), if_pos (by omega)]
      exact key _ (by simp only [List.length_append, List.length_cons, List.length_nil]; omega) (hnx h0)
theorem LinesSplits : platenlaw03_LinesSplits.Pure := by
  intro p _ _ hp
  have bp := bytes_of hp
  have hcnt := lns_count p
  have hnl := nls_le p
  refine ⟨3002, ?_⟩
  unfold platenlaw03_LinesSplits.f
  rw [rows_spec 3002 (by omega), Option.bind_some, if_pos rfl]
  by_cases h : (p.length : Int) > 300
  · rw [decide_eq_true h, platenlaw03_LinesSplits.j0, if_pos rfl, rows_spec 3001 (by omega), Option.bind_some]
  · rw [decide_eq_false h, platenlaw03_LinesSplits.j0, if_neg (by simp), lines_Split_spec p bp (by omega) 3001 (by omega), Option.bind_some, lines_Count_spec p bp (by omega), Option.bind_some, List.length_map, hcnt, if_pos rfl]
    have := LinesSplits_l p bp (by omega) (lns p).length 3001 0 (by omega) (by omega)
    simpa [jn] using this

end Go.Proofs.YtlpcibpeakmmaaaDoor.Pure
