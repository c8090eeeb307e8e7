/- Proved: where a motion comes to is a place of the text at which a sign begins, or its end, for any bytes, places, keys, signs and numbers. -/
import Derived.Test.YtloafpnniooliaaDoorExtBytes
import Derived.Test.YtloafpnniooliaaDoorExtTabs
import Derived.Test.YtloafpnniooliaaDoorPax0
import Derived.Test.YtloafpnniooliaaDoorPax10
import Derived.Test.YtloafpnniooliaaDoorPax11
import Derived.Test.YtloafpnniooliaaDoorPax12
import Derived.Test.YtloafpnniooliaaDoorPax13
import Derived.Test.YtloafpnniooliaaDoorPax2
import Derived.Test.YtloafpnniooliaaDoorPax24
import Derived.Test.YtloafpnniooliaaDoorPax3
import Derived.Test.YtloafpnniooliaaDoorPax4
import Derived.Test.YtloafpnniooliaaDoorPax5
import Derived.Test.YtloafpnniooliaaDoorPax6
import Derived.Test.YtloafpnniooliaaDoorPax7
import Derived.Test.YtloafpnniooliaaDoorPax8
import Derived.Test.YtloafpnniooliaaDoorPax9
import Derived.Test.YtloafpnniooliaaDoorGenMotionPlaces
namespace Go.Proofs.YtloafpnniooliaaDoor.Ad
open Go Go.RowKit Go.Proofs.YtloafpnniooliaaDoor.Pa Go.Proofs.YtloafpnniooliaaDoorW.PrintWords Go.Proofs.YtloafpnniooliaaDoorW.PrintLast Go.Proofs.YtloafpnniooliaaDoorW.PrintMore Go.Proofs.YtloafpnniooliaaDoor.Gen
set_option linter.unusedVariables false
set_option linter.unusedSimpArgs false
theorem ex_succ' {k n : Nat} (h : n < k) : ∃ m, k = m + 1 := ⟨k - 1, by omega⟩
theorem slow_sz (n b0 b1 b2 b3 sz lo hi : Nat) : (Lib.slowN n b0 b1 b2 b3 sz lo hi).2 =
  if n < sz ∨ (b1 < lo ∨ hi < b1) then 1 else if sz ≤ 2 then 2 else if b2 < 128 ∨ 191 < b2 then 1 else if sz ≤ 3 then 3 else if b3 < 128 ∨ 191 < b3 then 1 else 4 := by
 unfold Lib.slowN
 by_cases h1 : n < sz
 ·simp [h1]
 ·by_cases h2 : b1 < lo ∨ hi < b1
  ·simp [h1, h2]
  ·simp only [h1, h2, if_false, or_self]
   (repeat' split) <;> rfl
def szN (n b0 b1 b2 b3 : Nat) : Nat :=
 if need (b0 : Int) = 2 ∧ 2 ≤ n ∧ lo2 (b0 : Int) ≤ (b1 : Int) ∧ (b1 : Int) ≤ hi2 (b0 : Int) then 2
 else if need (b0 : Int) = 3 ∧ 3 ≤ n ∧ lo2 (b0 : Int) ≤ (b1 : Int) ∧ (b1 : Int) ≤ hi2 (b0 : Int) ∧ cont (b2 : Int) then 3
 else if need (b0 : Int) = 4 ∧ 4 ≤ n ∧ lo2 (b0 : Int) ≤ (b1 : Int) ∧ (b1 : Int) ≤ hi2 (b0 : Int) ∧ cont (b2 : Int) ∧ cont (b3 : Int) then 4 else 1
set_option maxHeartbeats 4000000 in
theorem decN_sz (n b0 b1 b2 b3 : Nat) (hn : 1 ≤ n) (h0 : b0 < 256) (h1 : b1 < 256) (h2 : b2 < 256) (h3 : b3 < 256) : (Lib.decodeN n b0 b1 b2 b3).2 = szN n b0 b1 b2 b3 := by
 have one : ∀ b : Nat, need (b : Int) = 1 → szN n b b1 b2 b3 = 1 := by
  intro b hb; simp [szN, hb]
 have slow : Lib.firstT b0 < 240 → (Lib.decodeN n b0 b1 b2 b3).2 = szN n b0 b1 b2 b3 := by
  intro hx
  rw [← Lib.slow_eq n b0 b1 b2 b3 hn h1 h2 h3 hx, slow_sz]
  rcases Lib.firstT_low hx with h | h | h | h | h | h | h
  ·rw [Lib.firstT_C2 h]
   have e : need (b0 : Int) = 2 := by unfold need; rw [if_pos (by omega)]
   have el : lo2 (b0 : Int) = 128 := by unfold lo2; rw [if_neg (by omega), if_neg (by omega)]
   have eh : hi2 (b0 : Int) = 191 := by unfold hi2; rw [if_neg (by omega), if_neg (by omega)]
   simp only [szN, e, el, eh, Lib.accLo, Lib.accHi, cont]
   simp (decide := true) only [if_true, if_false, true_and, false_and, Nat.reduceDiv, Nat.reduceMod]
   (repeat' split) <;> omega
  ·subst h
   simp only [szN, show need ((224 : Nat) : Int) = 3 by decide, show lo2 ((224 : Nat) : Int) = 160 by decide, show hi2 ((224 : Nat) : Int) = 191 by decide, show Lib.firstT 224 = 19 by decide, Lib.accLo, Lib.accHi, cont]
   simp (decide := true) only [if_true, if_false, true_and, false_and, Nat.reduceDiv, Nat.reduceMod]
   (repeat' split) <;> omega
  ·rw [Lib.firstT_E1 h]
   have e : need (b0 : Int) = 3 := by unfold need; rw [if_neg (by omega), if_pos (by omega)]
   have el : lo2 (b0 : Int) = 128 := by unfold lo2; rw [if_neg (by omega), if_neg (by omega)]
   have eh : hi2 (b0 : Int) = 191 := by unfold hi2; rw [if_neg (by omega), if_neg (by omega)]
   simp only [szN, e, el, eh, Lib.accLo, Lib.accHi, cont]
   simp (decide := true) only [if_true, if_false, true_and, false_and, Nat.reduceDiv, Nat.reduceMod]
   (repeat' split) <;> omega
  ·subst h
   simp only [szN, show need ((237 : Nat) : Int) = 3 by decide, show lo2 ((237 : Nat) : Int) = 128 by decide, show hi2 ((237 : Nat) : Int) = 159 by decide, show Lib.firstT 237 = 35 by decide, Lib.accLo, Lib.accHi, cont]
   simp (decide := true) only [if_true, if_false, true_and, false_and, Nat.reduceDiv, Nat.reduceMod]
   (repeat' split) <;> omega
  ·subst h
   simp only [szN, show need ((240 : Nat) : Int) = 4 by decide, show lo2 ((240 : Nat) : Int) = 144 by decide, show hi2 ((240 : Nat) : Int) = 191 by decide, show Lib.firstT 240 = 52 by decide, Lib.accLo, Lib.accHi, cont]
   simp (decide := true) only [if_true, if_false, true_and, false_and, Nat.reduceDiv, Nat.reduceMod]
   (repeat' split) <;> omega
  ·rw [Lib.firstT_F1 h]
   have e : need (b0 : Int) = 4 := by unfold need; rw [if_neg (by omega), if_neg (by omega), if_pos (by omega)]
   have el : lo2 (b0 : Int) = 128 := by unfold lo2; rw [if_neg (by omega), if_neg (by omega)]
   have eh : hi2 (b0 : Int) = 191 := by unfold hi2; rw [if_neg (by omega), if_neg (by omega)]
   simp only [szN, e, el, eh, Lib.accLo, Lib.accHi, cont]
   simp (decide := true) only [if_true, if_false, true_and, false_and, Nat.reduceDiv, Nat.reduceMod]
   (repeat' split) <;> omega
  ·subst h
   simp only [szN, show need ((244 : Nat) : Int) = 4 by decide, show lo2 ((244 : Nat) : Int) = 128 by decide, show hi2 ((244 : Nat) : Int) = 143 by decide, show Lib.firstT 244 = 68 by decide, Lib.accLo, Lib.accHi, cont]
   simp (decide := true) only [if_true, if_false, true_and, false_and, Nat.reduceDiv, Nat.reduceMod]
   (repeat' split) <;> omega
 by_cases ha : b0 < 128
 ·have hx : Lib.firstT b0 = 240 := by unfold Lib.firstT; rw [if_pos ha]
  rw [Lib.ascii_eq n b0 b1 b2 b3 hx, one b0 (by unfold need; rw [if_neg (by omega), if_neg (by omega), if_neg (by omega)])]
 ·by_cases hb : b0 < 194 ∨ 244 < b0
  ·have hx : Lib.firstT b0 = 241 := by unfold Lib.firstT; (repeat' split) <;> omega
   rw [Lib.bad_eq n b0 b1 b2 b3 h0 hx, one b0 (by unfold need; rw [if_neg (by omega), if_neg (by omega), if_neg (by omega)])]
  ·have hx : Lib.firstT b0 < 240 := by
    clear slow one
    have e1 : 194 ≤ b0 := by omega
    have e2 : b0 ≤ 244 := by omega
    clear hb
    unfold Lib.firstT
    (repeat' split) <;> omega
   exact slow hx
theorem decL_sz (l : List Int) (hb : Bytes l) : (decL l).2 = gsz l := by
 have nat : ∀ x ∈ l, ∃ n : Nat, n < 256 ∧ x = (n : Int) := fun x hx => ⟨x.toNat, by have := hb x hx; omega, by have := hb x hx; omega⟩
 match l, nat with
 | [], _ => rfl
 | [b], nat =>
  obtain ⟨b0, h0, rfl⟩ := nat b (by simp)
  simp only [decL, List.length_cons, List.length_nil, List.getD_cons_zero, List.getD_cons_succ, List.getD_nil, Int.toNat_natCast]
  rw [if_neg (by omega), decN_sz _ _ _ _ _ (by omega) h0 (by simp) (by simp) (by simp)]
  simp [szN, gsz]
 | [b, c], nat =>
  obtain ⟨b0, h0, rfl⟩ := nat b (by simp)
  obtain ⟨b1, h1, rfl⟩ := nat c (by simp)
  simp only [decL, List.length_cons, List.length_nil, List.getD_cons_zero, List.getD_cons_succ, List.getD_nil, Int.toNat_natCast]
  rw [if_neg (by omega), decN_sz _ _ _ _ _ (by omega) h0 h1 (by simp) (by simp)]
  simp [szN, gsz]
 | [b, c, d], nat =>
  obtain ⟨b0, h0, rfl⟩ := nat b (by simp)
  obtain ⟨b1, h1, rfl⟩ := nat c (by simp)
  obtain ⟨b2, h2, rfl⟩ := nat d (by simp)
  simp only [decL, List.length_cons, List.length_nil, List.getD_cons_zero, List.getD_cons_succ, List.getD_nil, Int.toNat_natCast]
  rw [if_neg (by omega), decN_sz _ _ _ _ _ (by omega) h0 h1 h2 (by simp)]
  simp [szN, gsz]
 | b :: c :: d :: e :: t, nat =>
  obtain ⟨b0, h0, rfl⟩ := nat b (by simp)
  obtain ⟨b1, h1, rfl⟩ := nat c (by simp)
  obtain ⟨b2, h2, rfl⟩ := nat d (by simp)
  obtain ⟨b3, h3, rfl⟩ := nat e (by simp)
  simp only [decL, List.length_cons, List.length_nil, List.getD_cons_zero, List.getD_cons_succ, List.getD_nil, Int.toNat_natCast]
  rw [if_neg (by omega), decN_sz _ _ _ _ _ (by omega) h0 h1 h2 h3]
  simp [szN, gsz]
theorem bytes_take {l : List Int} (h : Bytes l) (n : Nat) : Bytes (l.take n) := fun x hx => h x (List.mem_of_mem_take hx)
theorem bytes_drop {l : List Int} (h : Bytes l) (n : Nat) : Bytes (l.drop n) := fun x hx => h x (List.mem_of_mem_drop hx)
theorem slow_f (l : List Int) (hb : Bytes l) : utf8_decodeRuneSlow.f l = some (((decL l).1 : Int), ((decL l).2 : Int)) := by
 unfold utf8_decodeRuneSlow.f
 rw [if_pos]
 rw [List.all_eq_true]
 intro x hx
 have := hb x (List.mem_of_mem_take hx)
 simp only [byteB, Bool.and_eq_true, decide_eq_true_eq]
 omega
def runeOf (l : List Int) : Int := if 0 < l.length ∧ l.getD 0 0 < 128 then wrap32 (l.getD 0 0) else ((decL l).1 : Int)
theorem utf8_DecodeRune_spec (l : List Int) (hb : Bytes l) (k : Nat) (hk : 0 < k) : utf8_DecodeRune.f k l = some (runeOf l, (gsz l : Int)) := by
 obtain ⟨k, rfl⟩ := ex_succ' hk
 unfold utf8_DecodeRune.f
 simp only [utf8_DecodeRune.l0]
 by_cases h : 0 < l.length
 ·rw [if_pos (by omega), if_pos (by omega), if_pos (by omega)]
  have e : rd l 0 = l.getD 0 0 := by simp [rd]
  have e2 : l.getD 0 0 = l[0] := by simp [h]
  by_cases h1 : rd l 0 < 128
  ·rw [if_pos h1]
   have : gsz l = 1 := by
    rcases Nat.lt_or_ge (gsz l) 2 with h2 | h2
    ·have := gsz_pos (q := l) (by intro e; rw [e] at h; simp at h); omega
    ·exfalso
     have hn : need l[0] = 1 := by
      unfold need; rw [e, e2] at h1
      rw [if_neg (by omega), if_neg (by omega), if_neg (by omega)]
     match l, h with
     | [_], _ => simp [gsz] at h2
     | [b, c], _ => simp at hn; simp [gsz, hn] at h2
     | [b, c, d], _ => simp at hn; simp [gsz, hn] at h2
     | b :: c :: d :: e :: t, _ => simp at hn; simp [gsz, hn] at h2
   rw [this, e, runeOf, if_pos ⟨h, by rw [← e]; exact h1⟩]; rfl
  ·rw [if_neg h1, slow_f l hb, Option.bind_some, decL_sz l hb, runeOf, if_neg (fun c => h1 (by rw [e]; exact c.2))]
 ·rw [if_neg (by omega), slow_f l hb, Option.bind_some, decL_sz l hb, runeOf, if_neg (fun c => h c.1)]
theorem glyph_Next_spec (p : List Int) (hb : Bytes p) (i : Nat) (hi : i < p.length) (k : Nat) (hk : 0 < k) : glyph_Next.f k p (i : Int) = some (gsz (p.drop i) : Int) := by
 unfold glyph_Next.f
 rw [if_neg (by omega), if_neg (by omega), if_pos (by omega), if_pos (by omega), Int.toNat_natCast, utf8_DecodeRune_spec _ (bytes_drop hb i) k hk, Option.bind_some]
theorem glyph_Next_out (p : List Int) (a : Int) (h : a < 0 ∨ a ≥ (p.length : Int)) (k : Nat) : glyph_Next.f k p a = some 0 := by
 unfold glyph_Next.f
 by_cases h1 : a < 0
 ·rw [if_pos h1]
 ·rw [if_neg h1, if_pos (by omega)]
theorem glyph_Floor_l0 (p : List Int) (hb : Bytes p) (hp : p.length ≤ 1000000000) (a : Nat) (ha : a ≤ p.length) (m : Nat) : ∀ (k j : Nat), j + m = min a 3 → m < k → 0 < k - m - 1 → (∀ i, 1 ≤ i → i ≤ j → ¬ a < a - i + gsz (p.drop (a - i))) →
  glyph_Floor.l0 k p (a : Int) ((min a 3 : Nat) : Int) (j : Int) = some (flo p a : Int) := by
 induction m with
 | zero =>
  intro k j hj hk _ hc
  obtain ⟨k, rfl⟩ := ex_succ' hk
  simp only [glyph_Floor.l0]
  rw [if_neg (by omega)]
  unfold flo
  rw [if_neg (fun e => hc 1 (by omega) (by omega) e.2), if_neg (fun e => hc 2 (by omega) (by omega) e.2), if_neg (fun e => hc 3 (by omega) (by omega) e.2)]
 | succ m ih =>
  intro k j hj hk hk2 hc
  obtain ⟨k, rfl⟩ := ex_succ' hk
  simp only [glyph_Floor.l0]
  have hlt : a - (j + 1) < p.length := by omega
  have h4 := gd_four p (a - (j + 1))
  have hnx := glyph_Next_spec p hb (a - (j + 1)) hlt k (by omega)
  have hnext := ih k (j + 1) (by omega) (by omega) (by omega)
  have c1 : (j : Int) < ((min a 3 : Nat) : Int) := by omega
  have w1 : wrap64 ((a : Int) - (j : Int)) = (a : Int) - (j : Int) := wid (by omega) (by omega)
  have w2 : wrap64 ((a : Int) - (j : Int) - 1) = ((a - (j + 1) : Nat) : Int) := by
   clear w1
   rw [show (a : Int) - (j : Int) - 1 = ((a - (j + 1) : Nat) : Int) by omega]; exact wid (by omega) (by omega)
  have w3 : wrap64 (((a - (j + 1) : Nat) : Int) + (gsz (p.drop (a - (j + 1))) : Int)) = ((a - (j + 1) + gsz (p.drop (a - (j + 1))) : Nat) : Int) := by
   clear w1 w2
   rw [← Int.natCast_add]; exact wid (by omega) (by omega)
  have w4 : wrap64 ((j : Int) + 1) = ((j + 1 : Nat) : Int) := by clear w1 w2 w3; exact wnat (by omega)
  rw [if_pos c1, w1, w2, hnx, Option.bind_some, w3, w4]
  clear w1 w2 w3 w4
  by_cases h : a < a - (j + 1) + gsz (p.drop (a - (j + 1)))
  ·rw [if_pos (by omega)]
   have hj3 : j + 1 = 1 ∨ j + 1 = 2 ∨ j + 1 = 3 := by omega
   have n1 : 1 ≤ j → ¬ (1 ≤ a ∧ a < a - 1 + gsz (p.drop (a - 1))) := fun e1 e => hc 1 (Nat.le_refl _) e1 e.2
   have n2 : 2 ≤ j → ¬ (2 ≤ a ∧ a < a - 2 + gsz (p.drop (a - 2))) := fun e1 e => hc 2 (by omega) e1 e.2
   have hja : j + 1 ≤ a := by omega
   clear hc hnext hnx
   unfold flo
   rcases hj3 with e | e | e
   ·rw [e] at h hja ⊢
    rw [if_pos ⟨hja, h⟩]
   ·have := n1 (by omega)
    rw [e] at h hja ⊢
    rw [if_neg this, if_pos ⟨hja, h⟩]
   ·have h1 := n1 (by omega)
    have h2 := n2 (by omega)
    rw [e] at h hja ⊢
    rw [if_neg h1, if_neg h2, if_pos ⟨hja, h⟩]
  ·rw [if_neg (by omega)]
   exact hnext (fun i h1 h2 => by
    rcases Nat.lt_or_ge i (j + 1) with h3 | h3
    ·exact hc i h1 (by omega)
    ·have : i = j + 1 := by omega
     subst this; exact h)
theorem glyph_Floor_spec (p : List Int) (hb : Bytes p) (hp : p.length ≤ 1000000000) (a : Int) (k : Nat) (hk : 5 < k) : glyph_Floor.f k p a = some (flo p (clip p a) : Int) := by
 have e1 : mn (mx a 0) (p.length : Int) = (clip p a : Int) := by unfold mn mx clip; (repeat' split) <;> omega
 have e2 : mn (clip p a : Int) 3 = ((min (clip p a) 3 : Nat) : Int) := by unfold mn; split <;> omega
 unfold glyph_Floor.f
 rw [e1, e2]
 exact glyph_Floor_l0 p hb hp (clip p a) (by unfold clip; omega) (min (clip p a) 3) k 0 (by omega) (by omega) (by omega) (fun i h1 h2 => by omega)
theorem u8_inj {a b : Int} (ha : 0 ≤ a ∧ a ≤ 255) (hb : 0 ≤ b ∧ b ≤ 255) : (UInt8.ofNat a.toNat = UInt8.ofNat b.toNat) ↔ a = b := by
 constructor
 ·intro h
  have h3 := congrArg UInt8.toNat h
  rw [UInt8.toNat_ofNat', UInt8.toNat_ofNat'] at h3
  omega
 ·intro h; rw [h]
theorem countByte_nl (p : List Int) (hb : Bytes p) : Lib.countByte (Lib.bytesOf p) (10 : Int).toNat.toUInt8 = nls p := by
 induction p with
 | nil => rfl
 | cons c t ih =>
  have hc := hb c (by simp)
  have := ih fun x hx => hb x (by simp [hx])
  rw [nls_cons, ← this]
  unfold Lib.countByte Lib.bytesOf
  rw [List.map_cons, List.count_cons]
  have e := u8_inj hc (show 0 ≤ (10 : Int) ∧ (10 : Int) ≤ 255 by omega)
  by_cases h : c = 10
  ·subst h; simp; omega
  ·rw [if_neg h, if_neg (by intro hh; exact h (e.1 (by simpa using hh)))]; omega
theorem bytes_Count_spec (p : List Int) (hb : Bytes p) : bytes_Count.f p [10] = some (nls p : Int) := by
 unfold bytes_Count.f
 rw [if_pos (show ([10] : List Int).length = 1 from rfl), show ([10] : List Int).getD 0 0 = 10 from rfl, countByte_nl p hb]
theorem indexByte_fb (p : List Int) (hb : Bytes p) (c : Int) (hc : 0 ≤ c ∧ c ≤ 255) : Lib.indexByte (Lib.bytesOf p) c.toNat.toUInt8 = fb p c := by
 induction p with
 | nil => rfl
 | cons b t ih =>
  have hbb := hb b (by simp)
  have := ih fun x hx => hb x (by simp [hx])
  have e := u8_inj hbb hc
  have e' : Lib.bytesOf (b :: t) = UInt8.ofNat b.toNat :: Lib.bytesOf t := rfl
  rw [e', Lib.indexByte, fb, this]
  by_cases h : b = c
  ·subst h; simp
  ·rw [if_neg h, if_neg (by intro hh; exact h (e.1 (by simpa using hh)))]
   by_cases h2 : fb t c = -1
   ·rw [if_pos h2, if_pos (by simp [h2])]
   ·rw [if_neg h2, if_neg (by simp [h2])]
theorem lines_Of_spec (p : List Int) (hb : Bytes p) (a : Int) : lines_Of.f p a = some (row p (clip p a) : Int) := by
 have := clip_le p a
 unfold lines_Of.f
 rw [mn_clip, if_pos (by omega), if_pos (by omega), Int.toNat_natCast, bytes_Count_spec _ (fun x hx => hb x (List.mem_of_mem_take hx)), Option.bind_some]
 rfl
theorem bytes_IndexByte_spec (p : List Int) (hb : Bytes p) (c : Int) (hc : 0 ≤ c ∧ c ≤ 255) : bytes_IndexByte.f p c = some (fb p c) := by
 unfold bytes_IndexByte.f
 rw [indexByte_fb p hb c hc]
def spr : Option NN → Int × Int × Bool
 | some x => ((x.1 : Int), (x.2 : Int), true)
 | none => (0, 0, false)
theorem fb_at {p : List Int} {i : Nat} (h : i < (lns p).length) : fb (p.drop (off ((lns p).take i))) 10 = if i + 1 = (lns p).length then -1 else ((lns p)[i].length : Int) := by
 have h1 : lns (p.drop (off ((lns p).take i))) = (lns p).drop i := by
  rw [line_drop h, lns_jn (by intro e; have := congrArg List.length e; simp only [List.length_drop, List.length_nil] at this; omega) (fun l hl => lns_free p l (List.mem_of_mem_drop hl))]
 rw [List.drop_eq_getElem_cons h] at h1
 rw [fb_line _ h1]
 by_cases e : i + 1 = (lns p).length
 ·rw [if_pos e, if_pos (List.drop_eq_nil_of_le (by omega))]
 ·rw [if_neg e, if_neg]
  intro hn
  have := congrArg List.length hn
  simp only [List.length_drop, List.length_nil] at this
  omega
theorem lines_Span_l0 (p : List Int) (hb : Bytes p) (hp : p.length ≤ 1000000000) (line : Int) (m : Nat) : ∀ (k i : Nat), i + m = (lns p).length → (i = 0 ∨ (i : Int) ≤ line) → i < (lns p).length → 2 * m + 1 < k →
  lines_Span.l0 k p line (off ((lns p).take i) : Int) (i : Int) = some (spr (sp p line)) := by
 have hc10 : 0 ≤ (10 : Int) ∧ (10 : Int) ≤ 255 := by omega
 have hcnt := lns_count p
 have hnl := nls_le p
 induction m with
 | zero => intro k i hi _ hlt _; omega
 | succ m ih =>
  intro k i hi hl hlt hk
  obtain ⟨k, rfl⟩ := ex_succ (n := 0) (k := k) (by omega)
  obtain ⟨k, rfl⟩ := ex_succ (n := 0) (k := k) (by omega)
  have hol := off_last hlt
  have hf := fb_at hlt
  have bd : Bytes (p.drop (off ((lns p).take i))) := fun x hx => hb x (List.mem_of_mem_drop hx)
  rw [lines_Span.l0]
  by_cases h : (i : Int) < line
  ·rw [if_pos h, decide_eq_true (by omega), lines_Span.j1, if_pos rfl, if_pos (by omega), if_pos (by omega), Int.toNat_natCast, bytes_IndexByte_spec _ bd 10 hc10, Option.bind_some, hf]
   by_cases e : i + 1 = (lns p).length
   ·rw [if_pos e, if_pos (by omega), sp_out (.inr (by omega))]; rfl
   ·have hw1 : wrap64 (((lns p)[i].length : Int) + 1) = (((lns p)[i].length + 1 : Nat) : Int) := wnat (by omega)
    have hw2 : wrap64 ((off ((lns p).take i) : Int) + (((lns p)[i].length + 1 : Nat) : Int)) = (off ((lns p).take (i + 1)) : Int) := by
     clear hw1
     rw [off_take hlt, wid (by omega) (by omega)]; omega
    have hw3 : wrap64 ((i : Int) + 1) = ((i + 1 : Nat) : Int) := by clear hw1 hw2; exact wnat (by omega)
    rw [if_neg e, if_neg (by clear hw1 hw2 hw3; omega), hw1, hw2, hw3]
    clear hw1 hw2 hw3
    exact ih k (i + 1) (by omega) (.inr (by omega)) (by omega) (by omega)
  ·rw [if_neg h, lines_Span.j1, if_neg (by simp)]
   by_cases hn : line < 0
   ·rw [if_pos hn, sp_out (.inl hn)]; rfl
   ·have hli : line = (i : Int) := by omega
    subst hli
    have hs := sp_in (p := p) (line := (i : Int)) (by omega) (by rw [Int.toNat_natCast]; exact hlt)
    simp only [Int.toNat_natCast] at hs
    rw [if_neg hn, if_pos (by omega), if_pos (by omega), Int.toNat_natCast, bytes_IndexByte_spec _ bd 10 hc10, Option.bind_some, hf, hs]
    by_cases e : i + 1 = (lns p).length
    ·have hw1 : wrap64 ((p.length : Int) - (off ((lns p).take i) : Int)) = ((lns p)[i].length : Int) := by
      rw [wid (by omega) (by omega)]; omega
     rw [if_pos e, if_pos (by omega), hw1]; rfl
    ·rw [if_neg e, if_neg (by omega)]; rfl
theorem lines_Span_spec (p : List Int) (hb : Bytes p) (hp : p.length ≤ 1000000000) (line : Int) (k : Nat) (hk : 2 * p.length + 4 < k) : lines_Span.f k p line = some (spr (sp p line)) := by
 have hcnt := lns_count p
 have hnl := nls_le p
 have := lines_Span_l0 p hb hp line (lns p).length k 0 (by omega) (.inl rfl) (by omega) (by omega)
 simpa [lines_Span.f, off] using this
theorem clip_nat {p : List Int} {a : Nat} (h : a ≤ p.length) : clip p (a : Int) = a := by unfold clip; omega
theorem spr_some (x : NN) : spr (some x) = ((x.1 : Int), (x.2 : Int), true) := rfl
theorem motion_span_spec (p : List Int) (hb : Bytes p) (hp : p.length ≤ 10000) (a : Nat) (ha : a ≤ p.length) (k : Nat) (hk : 2 * p.length + 4 < k) : motion_span.f k p (a : Int) = some ((fr p a : Int), (en p a : Int)) := by
 have hr := row_lt p a
 have hfe := fr_en ha
 unfold motion_span.f
 rw [lines_Of_spec p hb, clip_nat ha, Option.bind_some, lines_Span_spec p hb (by omega) _ k hk, Option.bind_some, sp_nat hr, spr_some]
 dsimp only
 have e : (lns p)[row p a].length = (lin p (row p a)).length := by rw [lin_at hr]
 have e2 : off ((lns p).take (row p a)) = fr p a := rfl
 rw [e, e2]
 unfold en at *
 generalize (lin p (row p a)).length = z at *
 generalize fr p a = o at *
 have hw : wrap64 ((o : Int) + (z : Int)) = ((o + z : Nat) : Int) := by rw [wid (by omega) (by omega)]; omega
 rw [hw]
def stz (o : Option Nat) : Int × Int := match o with
 | some b => ((b : Int), 0)
 | none => (0, 2)
def goz (l w : Bool) (o : Option Nat) : Int × Bool × Bool × Int := match o with
 | some b => ((b : Int), l, w, 0)
 | none => (0, false, false, 2)
theorem motion_Go_l0 (p : List Int) (tab key s n : Int) (l w : Bool) (f : Nat → Option Nat) (Q : Nat → Prop) (big : Nat) (hs : ∀ a k, Q a → big < k → motion_step.f k p (a : Int) key s n tab = some (stz (f a)) ∧ ∀ b, f a = some b → Q b) (t : Nat) (ht : t ≤ 9223372036854775807) (m : Nat) : ∀ (k i a : Nat), i + m = t → Q a → big + m < k →
  motion_Go.l0 k p tab (t : Int) (i : Int) key s n (a : Int) l w = some (goz l w (itr f m a)) := by
 induction m with
 | zero =>
  intro k i a hi ha hk
  obtain ⟨k, rfl⟩ := ex_succ (n := 0) (k := k) (by omega)
  rw [motion_Go.l0, if_neg (by omega)]
  rfl
 | succ m ih =>
  intro k i a hi ha hk
  obtain ⟨k, rfl⟩ := ex_succ (n := 0) (k := k) (by omega)
  obtain ⟨h1, h2⟩ := hs a k ha (by omega)
  rw [motion_Go.l0, if_pos (by omega), h1, Option.bind_some]
  rw [itr]
  cases e : f a with
  | none => rfl
  | some b =>
   have hw : wrap64 ((i : Int) + 1) = ((i + 1 : Nat) : Int) := by
    by_cases g : i + 1 ≤ 9223372036854775807
    ·rw [wid (by omega) (by omega)]; omega
    ·omega
   rw [Option.bind_some, hw]
   exact (if_pos rfl).trans (ih k (i + 1) b (by omega) (h2 b e) (by omega))
def tms (key n : Int) : Int := if key = 48 ∨ key = 94 ∨ key = 102 ∨ key = 116 ∨ key = 106 ∨ key = 107 ∨ key = 36 then 1 else max n 1
theorem motion_times_spec (key s n : Int) : motion_times.f key s n = some (tms key n) := by
 have e : mx n 1 = max n 1 := by unfold mx; split <;> omega
 unfold motion_times.f tms
 rw [e]
 by_cases h1 : key = 48
 ·rw [if_pos h1, if_pos (by omega)]
 rw [if_neg h1]
 by_cases h2 : key = 94
 ·rw [if_pos h2, if_pos (by omega)]
 rw [if_neg h2]
 by_cases h3 : key = 102
 ·rw [if_pos h3, if_pos (by omega)]
 rw [if_neg h3]
 by_cases h4 : key = 116
 ·rw [if_pos h4, if_pos (by omega)]
 rw [if_neg h4]
 by_cases h5 : key = 106
 ·rw [if_pos h5, if_pos (by omega)]
 rw [if_neg h5]
 by_cases h6 : key = 107
 ·rw [if_pos h6, if_pos (by omega)]
 rw [if_neg h6]
 by_cases h7 : key = 36
 ·rw [if_pos h7, if_pos (by omega)]
 rw [if_neg h7, if_neg (by omega)]
theorem motion_Go_key (p : List Int) (hb : Bytes p) (hp : p.length ≤ 10000) (a tab key s n : Int) (h1 : key ≠ 71) (h2 : key ≠ 103) (k : Nat) (hk : 5 < k) :
  motion_Go.f (k + 3) p a key s n tab = motion_Go.l0 k p tab (tms key n) 0 key s n (flo p (clip p a) : Int) (decide (key = 106 ∨ key = 107)) (decide (key = 101 ∨ key = 102 ∨ key = 116)) := by
 have e103 : (key == 103) = false := by simpa using h2
 have j2 : ∀ l w, motion_Go.j2 (k + 1) p tab key s n (flo p (clip p a) : Int) l w = motion_Go.l0 k p tab (tms key n) 0 key s n (flo p (clip p a) : Int) l w := by
  intro l w
  rw [motion_Go.j2, motion_times_spec, Option.bind_some]
 unfold motion_Go.f
 rw [glyph_Floor_spec p hb (by omega) a (k + 3) (by omega), Option.bind_some, if_neg h1, e103, motion_Go.j0, if_neg (by simp)]
 by_cases g1 : key = 106
 ·subst g1
  rw [if_pos rfl, motion_Go.j1, if_pos (by decide), j2]
  rfl
 ·rw [if_neg g1]
  by_cases g2 : key = 107
  ·subst g2
   rw [motion_Go.j1, if_pos (by decide), j2]
   rfl
  ·have e2 : (key == 107) = false := by simpa using g2
   have d1 : decide (key = 106 ∨ key = 107) = false := decide_eq_false (by omega)
   rw [e2, motion_Go.j1, if_neg (by simp), d1]
   by_cases g3 : key = 101
   ·rw [if_pos g3, j2, decide_eq_true (by omega)]
   ·rw [if_neg g3]
    by_cases g4 : key = 102
    ·rw [if_pos g4, j2, decide_eq_true (by omega)]
    ·rw [if_neg g4]
     by_cases g5 : key = 116
     ·rw [if_pos g5, j2, decide_eq_true (by omega)]
     ·rw [if_neg g5, j2, decide_eq_false (by omega)]
theorem motion_Go_itr (p : List Int) (hb : Bytes p) (hp : p.length ≤ 10000) (a tab key s n : Int) (h1 : key ≠ 71) (h2 : key ≠ 103) (f : Nat → Option Nat) (Q : Nat → Prop) (big : Nat) (hs : ∀ a k, Q a → big < k → motion_step.f k p (a : Int) key s n tab = some (stz (f a)) ∧ ∀ b, f a = some b → Q b) (hQ : Q (flo p (clip p a))) (t : Nat) (ht : tms key n = (t : Int)) (ht2 : t ≤ 9223372036854775807) (k : Nat) (hk : big + t + 9 < k) :
  motion_Go.f k p a key s n tab = some (goz (decide (key = 106 ∨ key = 107)) (decide (key = 101 ∨ key = 102 ∨ key = 116)) (itr f t (flo p (clip p a)))) := by
 obtain ⟨k, rfl⟩ : ∃ j, k = j + 3 := ⟨k - 3, by omega⟩
 rw [motion_Go_key p hb hp a tab key s n h1 h2 k (by omega), ht]
 exact motion_Go_l0 p tab key s n _ _ f Q big hs t ht2 t k 0 _ (by omega) hQ (by omega)
theorem glyph_Blank_spec (c : Int) : glyph_Blank.f c = some (decide (c = 32 ∨ c = 9)) := by
 unfold glyph_Blank.f
 split
 ·simp [*]
 ·rw [Option.some_inj, Bool.eq_iff_iff]; simp; omega
theorem bl_dec (c : Int) : decide (c = 32 ∨ c = 9) = bl c := rfl
theorem lines_Indent_l0 (s : ByteArray) (hs : s.size ≤ 1000000000) (m : Nat) : ∀ (k i : Nat), i + m = s.size → m < k →
  lines_Indent.l0 k s (s.size : Int) (i : Int) = some ((i + ind ((bytesOf s).drop i) : Nat) : Int) := by
 have hl := bytesOf_length s
 induction m with
 | zero =>
  intro k i hi hk
  obtain ⟨k, rfl⟩ := ex_succ hk
  rw [lines_Indent.l0, if_neg (by omega), List.drop_eq_nil_of_le (by omega), ind_nil, Nat.add_zero, show i = s.size by omega]
 | succ m ih =>
  intro k i hi hk
  obtain ⟨k, rfl⟩ := ex_succ hk
  have hlt : i < (bytesOf s).length := by omega
  have hw : wrap64 ((i : Int) + 1) = ((i + 1 : Nat) : Int) := wnat (by omega)
  rw [lines_Indent.l0, hw, ih k (i + 1) (by omega) (by omega)]
  clear hw
  rw [if_pos (by omega), if_pos (by omega), if_pos (by omega), bt_get s i hlt, glyph_Blank_spec, Option.bind_some, bl_dec, drop_at _ i hlt]
  by_cases h : bl (bytesOf s)[i] = true
  ·rw [if_pos h, ind_cons_pos h, show i + 1 + ind ((bytesOf s).drop (i + 1)) = i + (1 + ind ((bytesOf s).drop (i + 1))) by omega]
  ·rw [if_neg h, ind_cons_neg (by simpa using h)]; rfl
theorem lines_Indent_spec (s : ByteArray) (hs : s.size ≤ 1000000000) (k : Nat) (hk : s.size < k) : lines_Indent.f k s = some (ind (bytesOf s) : Int) := by
 have := lines_Indent_l0 s hs s.size k 0 (by omega) hk
 rw [List.drop_zero, Nat.zero_add] at this
 exact this
theorem lines_Bare_spec (s : ByteArray) (hs : s.size ≤ 1000000000) (k : Nat) (hk : s.size < k) : lines_Bare.f k s = some (decide (ind (bytesOf s) = (bytesOf s).length)) := by
 unfold lines_Bare.f
 rw [lines_Indent_spec s hs k hk, Option.bind_some, bytesOf_length, Option.some_inj, Bool.eq_iff_iff]
 simp
 omega
theorem lines_Count_spec (p : List Int) (hb : Bytes p) (hp : p.length ≤ 1000000000) : lines_Count.f p = some ((nls p + 1 : Nat) : Int) := by
 have := nls_le p
 unfold lines_Count.f
 rw [bytes_Count_spec p hb, Option.bind_some, wnat (by omega)]
theorem glyph_Step_spec (c b t : Nat) (x : Int) (hx : x = (b : Int)) (hc : c ≤ 1000000000) (ht : t ≤ 1000000000) (h0 : 0 < t) : glyph_Step.f (c : Int) x (t : Int) = some (stp c b t : Int) := by
 subst hx
 unfold glyph_Step.f stp
 by_cases h : b = 9
 ·have e1 : Int.tmod (c : Int) (t : Int) = ((c % t : Nat) : Int) := by rw [Int.tmod_eq_emod_of_nonneg (by omega)]; rfl
  have hm := Nat.mod_lt c h0
  have hl := Nat.mod_le c t
  have w1 : wrap64 ((c : Int) + (t : Int)) = (c : Int) + (t : Int) := wid (by omega) (by omega)
  have w2 : wrap64 ((c : Int) + (t : Int) - ((c % t : Nat) : Int)) = (c : Int) + (t : Int) - ((c % t : Nat) : Int) := by clear w1; exact wid (by omega) (by omega)
  rw [if_pos (by omega), if_neg (by omega), w1, e1, w2, if_pos h]
  clear w1 w2
  congr 1; omega
 ·have w1 : wrap64 ((c : Int) + 1) = ((c + 1 : Nat) : Int) := wnat (by omega)
  rw [if_neg (by omega), w1, if_neg h]
theorem byte_nat {p : List Int} (hb : Bytes p) (i : Nat) (h : i < p.length) : p[i] = ((p[i]).toNat : Int) := by
 have := hb p[i] (List.getElem_mem h); omega
theorem glyph_At_l0 (p : List Int) (hb : Bytes p) (col t : Nat) (h0 : 0 < t) (ht : t ≤ 1000) (hp : p.length ≤ 10000) (n : Nat) : ∀ (k x c : Nat), x ≤ p.length → p.length ≤ x + n → c + (p.length - x) * t ≤ 900000000 → n + 1 < k →
  glyph_At.l0 k p (col : Int) (t : Int) (c : Int) (x : Int) = some (atF n p x c col t : Int) := by
 induction n with
 | zero =>
  intro k x c h1 h2 _ hk
  obtain ⟨k, rfl⟩ := ex_succ' hk
  rw [glyph_At.l0, if_neg (by omega)]; rfl
 | succ n ih =>
  intro k x c h1 h2 hc hk
  obtain ⟨k, rfl⟩ := ex_succ' hk
  simp only [atF]
  by_cases h : x < p.length
  ·have hg := gd_pos p x h
   have hle := gd_le p x h1
   have hs := stp_le c p[x].toNat t h0
   have hmul : (p.length - (x + gsz (p.drop x))) * t + t ≤ (p.length - x) * t := by
    have := Nat.mul_le_mul_right t (show (p.length - (x + gsz (p.drop x))) + 1 ≤ p.length - x by omega)
    rw [Nat.add_mul, Nat.one_mul] at this; exact this
   have hnext := ih k (x + gsz (p.drop x)) (stp c p[x].toNat t) (by omega) (by omega) (by omega) (by omega)
   have hnx := glyph_Next_spec p hb x h k (by omega)
   rw [glyph_At.l0, if_pos (by omega), if_pos (by omega), rd_nat p x h, glyph_Step_spec c p[x].toNat t _ (byte_nat hb x h) (by omega) (by omega) h0, Option.bind_some, dif_pos h]
   by_cases c1 : col < stp c p[x].toNat t
   ·rw [if_pos (by omega), if_pos c1]
   ·rw [if_neg (by omega), if_neg c1, hnx, Option.bind_some]
    have hw : wrap64 ((x : Int) + (gsz (p.drop x) : Int)) = ((x + gsz (p.drop x) : Nat) : Int) := by
     rw [← Int.natCast_add]; exact wid (by omega) (by omega)
    rw [hw, hnext]
  ·rw [glyph_At.l0, if_neg (by omega), dif_neg h]
theorem glyph_At_spec (p : List Int) (hb : Bytes p) (col t : Nat) (h0 : 0 < t) (ht : t ≤ 1000) (hp : p.length ≤ 10000) (k : Nat) (hk : p.length + 1 < k) :
  glyph_At.f k p (col : Int) (t : Int) = some (at_ p col t : Int) := by
 have hm : p.length * t ≤ 10000 * 1000 := Nat.mul_le_mul hp ht
 have := glyph_At_l0 p hb col t h0 ht hp p.length k 0 0 (by omega) (by omega) (by simp only [Nat.sub_zero]; omega) hk
 simpa [glyph_At.f, at_] using this
theorem glyph_Wide_l0 (p : List Int) (hb : Bytes p) (t : Nat) (h0 : 0 < t) (ht : t ≤ 1000) (hp : p.length ≤ 100000000) (n : Nat) : ∀ (k x c : Nat), x ≤ p.length → p.length ≤ x + n → c + (p.length - x) * t ≤ 900000000 → n + 1 < k →
  glyph_Wide.l0 k p (c : Int) (t : Int) (x : Int) = some (wid_ (p.drop x) c t : Int) := by
 induction n with
 | zero =>
  intro k x c h1 h2 _ hk
  obtain ⟨k, rfl⟩ := ex_succ' hk
  simp only [glyph_Wide.l0]
  rw [if_neg (by omega), List.drop_eq_nil_of_le (by omega), wid_nil]
 | succ n ih =>
  intro k x c h1 h2 hc hk
  obtain ⟨k, rfl⟩ := ex_succ' hk
  simp only [glyph_Wide.l0]
  by_cases h : x < p.length
  ·have hg := gd_pos p x h
   have hle := gd_le p x h1
   have hs := stp_le c p[x].toNat t h0
   have hmul : (p.length - (x + gsz (p.drop x))) * t + t ≤ (p.length - x) * t := by
    have := Nat.mul_le_mul_right t (show (p.length - (x + gsz (p.drop x))) + 1 ≤ p.length - x by omega)
    rw [Nat.add_mul, Nat.one_mul] at this; exact this
   have hnext := ih k (x + gsz (p.drop x)) (stp c p[x].toNat t) (by omega) (by omega) (by omega) (by omega)
   have hnx := glyph_Next_spec p hb x h k (by omega)
   rw [if_pos (by omega), if_pos (by omega), rd_nat p x h, glyph_Step_spec c p[x].toNat t _ (byte_nat hb x h) (by omega) (by omega) h0, Option.bind_some]
   have hw : wrap64 ((x : Int) + (gsz (p.drop x) : Int)) = ((x + gsz (p.drop x) : Nat) : Int) := by
    rw [← Int.natCast_add]
    exact wid (by omega) (by omega)
   rw [hnx, Option.bind_some, hw, hnext, wid_at p x h]
  ·rw [if_neg (by omega), List.drop_eq_nil_of_le (by omega), wid_nil]
theorem glyph_Wide_long (p : List Int) (hb : Bytes p) (c t : Nat) (h0 : 0 < t) (ht : t ≤ 1000) (hp : p.length ≤ 100000000) (hm : p.length * t ≤ 100000000) (hc : c ≤ 1000000) (k : Nat) (hk : p.length + 1 < k) :
  glyph_Wide.f k p (c : Int) (t : Int) = some (wid_ p c t : Int) := by
 have := glyph_Wide_l0 p hb t h0 ht hp p.length k 0 c (by omega) (by omega) (by simp only [Nat.sub_zero]; omega) hk
 simpa [glyph_Wide.f] using this
theorem glyph_Wide_spec (p : List Int) (hb : Bytes p) (c t : Nat) (h0 : 0 < t) (ht : t ≤ 1000) (hp : p.length ≤ 10000) (hc : c ≤ 1000000) (k : Nat) (hk : p.length + 1 < k) :
  glyph_Wide.f k p (c : Int) (t : Int) = some (wid_ p c t : Int) := by
 have hm : p.length * t ≤ 10000 * 1000 := Nat.mul_le_mul hp ht
 exact glyph_Wide_long p hb c t h0 ht (by omega) (by omega) hc k hk
theorem lastIndex_l0 (q : List Int) (hq : q.length ≤ 1000000000) {A : List (List Int)} {x : List Int} (hx : lns q = A ++ [x]) (m : Nat) : ∀ (k : Nat) (i : Int), i + 1 = (m : Int) → m ≤ q.length → (∀ c ∈ q.drop m, c ≠ 10) → m < k →
  bytealg_LastIndexByte.l0 k q 10 i = some ((q.length : Int) - (x.length : Int) - 1) := by
 induction m with
 | zero =>
  intro k i hi hm hf hk
  obtain ⟨k, rfl⟩ := ex_succ hk
  rw [bytealg_LastIndexByte.l0, if_neg (by omega)]
  rw [List.drop_zero] at hf
  have := lns_one hf
  rw [hx] at this
  have e : A = [] ∧ x = q := by
   cases A with
   | nil => exact ⟨rfl, by simpa using this⟩
   | cons a A => simp at this
  rw [e.2]; congr 1; omega
 | succ m ih =>
  intro k i hi hm hf hk
  obtain ⟨k, rfl⟩ := ex_succ hk
  obtain rfl : i = (m : Int) := by omega
  have hlt : m < q.length := by omega
  rw [bytealg_LastIndexByte.l0, if_pos (by omega), if_pos (by omega), if_pos (by omega), rd_nat q m hlt]
  by_cases h : q[m] = 10
  ·rw [if_pos h]
   have e1 : q = q.take m ++ 10 :: q.drop (m + 1) := by
    rw [← h, ← drop_at q m hlt, List.take_append_drop]
   have e2 : lns q = lns (q.take m) ++ [q.drop (m + 1)] := by
    conv => lhs; rw [e1]
    rw [lns_mid, lns_one hf]
   rw [hx] at e2
   have e3 := (List.append_inj' e2 rfl).2
   have e4 : x = q.drop (m + 1) := by simpa using e3
   rw [e4, List.length_drop]; congr 1; omega
  ·have hw : wrap64 ((m : Int) - 1) = (m : Int) - 1 := wid (by omega) (by omega)
   rw [if_neg h, hw]
   clear hw
   exact ih k ((m : Int) - 1) (by omega) (by omega) (fun c hc => by
    rw [drop_at q m hlt] at hc
    rcases List.mem_cons.1 hc with rfl | hc
    ·exact h
    ·exact hf c hc) (by omega)
theorem lastIndex_spec (q : List Int) (hq : q.length ≤ 1000000000) {A : List (List Int)} {x : List Int} (hx : lns q = A ++ [x]) (k : Nat) (hk : q.length < k) : bytes_LastIndexByte.f k q 10 = some ((q.length : Int) - (x.length : Int) - 1) := by
 unfold bytes_LastIndexByte.f bytealg_LastIndexByte.f
 rw [wid (by omega) (by omega), lastIndex_l0 q hq hx q.length k _ (by omega) (Nat.le_refl _) (by simp) hk, Option.bind_some]
theorem lines_Column_spec (p : List Int) (hb : Bytes p) (hp : p.length ≤ 10000) (a t : Int) (ht : t ≤ 1000) (k : Nat) (hk : p.length + 1 < k) : lines_Column.f k p a t = some (wid_ (ahd p (clip p a)) 0 (tb t) : Int) := by
 have hc := clip_le p a
 unfold lines_Column.f
 rw [mn_clip, mx_tb, if_pos (by omega), if_pos (by omega), Int.toNat_natCast]
 generalize clip p a = c at *
 obtain ⟨A, x, h1⟩ := lns_last (p.take c)
 have hl := last_line h1
 have ha := ahead_last hc h1
 have hlen : (p.take c).length = c := by simp only [List.length_take]; omega
 rw [hlen] at hl
 rw [lastIndex_spec (p.take c) (by omega) h1 k (by omega), Option.bind_some, hlen, ha]
 have hw : wrap64 ((c : Int) - (x.length : Int) - 1 + 1) = (off A : Int) := by rw [wid (by omega) (by omega)]; omega
 rw [hw]
 clear hw
 have hxl : x.length ≤ p.length := by omega
 have bx : Bytes x := fun z hz => hb z (by
  rw [← hl.1] at hz
  exact List.mem_of_mem_take (List.mem_of_mem_drop hz))
 have htb := tb_pos t
 rw [if_pos (by omega), if_pos (by omega), Int.toNat_natCast, hl.1]
 rw [show glyph_Wide.f k x 0 (tb t : Int) = some (wid_ x 0 (tb t) : Int) from glyph_Wide_spec x bx 0 (tb t) htb (by unfold tb; omega) (by omega) (by omega) k (by omega), Option.bind_some]
def dln (p : List Int) (r : Nat) (x : Int) : Option Nat := if 0 ≤ (r : Int) + x ∧ (r : Int) + x < ((lns p).length : Int) then some ((r : Int) + x).toNat else none
theorem dln_lt {p : List Int} {r s : Nat} {x : Int} (h : dln p r x = some s) : s < (lns p).length ∧ (s : Int) = (r : Int) + x := by
 unfold dln at h
 split at h
 ·have := Option.some.inj h; omega
 ·simp at h
def dcl (p : List Int) (c t : Nat) (r : Nat) : Nat := off ((lns p).take r) + at_ (lin p r) c t
def dend (p : List Int) (r : Nat) : Nat := off ((lns p).take r) + (lin p r).length
theorem at_facts (l : List Int) (c t : Nat) : Bd l (at_ l c t) ∧ wid_ (l.take (at_ l c t)) 0 t ≤ c ∧ (at_ l c t < l.length → c < wid_ (l.take (at_ l c t + gsz (l.drop (at_ l c t)))) 0 t) := by
 obtain ⟨h1, h2, h3⟩ := atF_spec l c t l.length 0 .zero (by omega) (by simp [wid_nil])
 have e0 : wid_ (l.take 0) 0 t = 0 := rfl
 rw [e0] at h1 h2 h3
 exact ⟨h1, h2, fun h => h3 h⟩
def dwz (key : Int) (p : List Int) (c t : Nat) (o : Option Nat) : Int × Bool := match o with
 | none => (0, false)
 | some r => if key = 36 then ((dend p r : Int), true) else ((dcl p c t r : Int), true)
theorem motion_down_j0 (p : List Int) (hb : Bytes p) (hp : p.length ≤ 10000) (a : Nat) (ha : a ≤ p.length) (tab : Int) (ht : tab ≤ 1000) (x key s n : Int) (h0 : -9223372036854775807 ≤ x) (h1 : x ≤ 9223372036854775807) (k : Nat) (hk : 20010 < k) :
  motion_down.j0 (k + 1) p (a : Int) tab x key s n = some (dwz key p (wid_ (ahd p a) 0 (tb tab)) (tb tab) (dln p (row p a) x)) := by
 have hcnt := lns_count p
 have hnl := nls_le p
 have hr := row_lt p a
 rw [motion_down.j0, lines_Of_spec p hb, clip_nat ha, Option.bind_some, lines_Span_spec p hb (by omega) _ k (by omega), Option.bind_some]
 by_cases h : 0 ≤ (row p a : Int) + x ∧ (row p a : Int) + x < ((lns p).length : Int)
 ·have hw : wrap64 ((row p a : Int) + x) = ((((row p a : Int) + x).toNat : Nat) : Int) := by rw [wid (by omega) (by omega)]; omega
  have ed : dln p (row p a) x = some ((row p a : Int) + x).toNat := if_pos h
  rw [hw, ed]
  clear hw ed
  have hz : ((row p a : Int) + x).toNat < (lns p).length := by omega
  generalize ((row p a : Int) + x).toNat = z at *
  rw [sp_nat hz, spr_some]
  dsimp only
  have hle := off_le hz
  have hs := line_str (p := p) (by omega) hz
  have hlb := line_bytes hb hz
  have ez := lin_at hz
  rw [hs]
  rw [show dwz key p (wid_ (ahd p a) 0 (tb tab)) (tb tab) (some z) = if key = 36 then ((dend p z : Int), true) else ((dcl p (wid_ (ahd p a) 0 (tb tab)) (tb tab) z : Int), true) from rfl]
  unfold dend dcl
  rw [ez]
  have hat := at_facts (lns p)[z] (wid_ (ahd p a) 0 (tb tab)) (tb tab)
  have hal := hat.1.le
  have hll : (lns p)[z].length ≤ 10000 := by omega
  rw [lines_Column_spec p hb hp (a : Int) tab ht k (by omega), Option.bind_some, clip_nat ha, mx_tb, glyph_At_spec _ hlb _ _ (tb_pos tab) (by unfold tb; omega) hll k (by omega), Option.bind_some]
  generalize at_ (lns p)[z] (wid_ (ahd p a) 0 (tb tab)) (tb tab) = i at *
  generalize (lns p)[z].length = y at *
  generalize off ((lns p).take z) = o at *
  have hw : wrap64 ((o : Int) + (y : Int)) = ((o + y : Nat) : Int) := by rw [wid (by omega) (by omega)]; omega
  have hw2 : wrap64 ((o : Int) + (i : Int)) = ((o + i : Nat) : Int) := by clear hw; rw [wid (by omega) (by omega)]; omega
  rw [hw, hw2, if_pos rfl]
  clear hw hw2
  by_cases g : key = 36
  ·rw [if_pos g, if_pos g]
  ·rw [if_neg g, if_neg g, if_pos (by omega), if_pos (by omega), if_pos (by omega)]
 ·have ed : dln p (row p a) x = none := if_neg h
  have hw : wrap64 ((row p a : Int) + x) < 0 ∨ ((lns p).length : Int) ≤ wrap64 ((row p a : Int) + x) := by unfold wrap64; omega
  have es : sp p (wrap64 ((row p a : Int) + x)) = none := by
   generalize wrap64 ((row p a : Int) + x) = z at *
   exact sp_out (by omega)
  rw [ed, es]
  rfl
def dno (key n : Int) : Int := if key = 107 then -(max n 1) else if key = 36 then max n 1 - 1 else max n 1
def dst (p : List Int) (key n tab : Int) (a : Nat) : Option Nat := (dln p (row p a) (dno key n)).map fun r => if key = 36 then dend p r else dcl p (wid_ (ahd p a) 0 (tb tab)) (tb tab) r
theorem step_down (p : List Int) (hb : Bytes p) (hp : p.length ≤ 10000) (key : Int) (hkey : key = 106 ∨ key = 107 ∨ key = 36) (s n tab : Int) (ht : tab ≤ 1000) (hn1 : n ≤ 9223372036854775807) (a k : Nat) (ha : a ≤ p.length) (hk : 30010 < k) : motion_step.f k p (a : Int) key s n tab = some (stz (dst p key n tab a)) := by
 obtain ⟨k, rfl⟩ : ∃ j, k = j + 3 := ⟨k - 3, by omega⟩
 have e0 : mx n 1 = max n 1 := by unfold mx; split <;> omega
 have w1 : wrap64 (-(max n 1)) = -(max n 1) := wid (by omega) (by omega)
 have w2 : wrap64 (max n 1 - 1) = max n 1 - 1 := by clear w1; exact wid (by omega) (by omega)
 have e : motion_step.f (k + 3) p (a : Int) key s n tab = (motion_down.f (k + 1) p (a : Int) key s n tab).bind fun bt => if bt.2 = true then some (bt.1, 0) else some (0, 2) := by
  rcases hkey with rfl | rfl | rfl <;> rfl
 have e2 : motion_down.f (k + 1) p (a : Int) key s n tab = motion_down.j0 (k + 1) p (a : Int) tab (dno key n) key s n := by
  unfold motion_down.f dno
  rw [e0, w1, w2]
  clear w1 w2
  by_cases g1 : key = 107
  ·rw [if_pos g1, if_pos g1]
  ·rw [if_neg g1, if_neg g1]
   by_cases g2 : key = 36
   ·rw [if_pos g2, if_pos g2]
   ·rw [if_neg g2, if_neg g2]
 clear w1 w2
 have hd : -9223372036854775807 ≤ dno key n ∧ dno key n ≤ 9223372036854775807 := by unfold dno; split <;> (try split) <;> omega
 rw [e, e2, motion_down_j0 p hb hp a ha tab ht (dno key n) key s n hd.1 hd.2 k (by omega), Option.bind_some]
 unfold dst
 cases dln p (row p a) (dno key n) with
 | none => rfl
 | some r =>
  have e3 : dwz key p (wid_ (ahd p a) 0 (tb tab)) (tb tab) (some r) = if key = 36 then ((dend p r : Int), true) else ((dcl p (wid_ (ahd p a) 0 (tb tab)) (tb tab) r : Int), true) := rfl
  rw [e3, Option.map_some]
  by_cases g : key = 36
  ·rw [if_pos g, if_pos g]; rfl
  ·rw [if_neg g, if_neg g]; rfl
theorem motion_Go_down (p : List Int) (hb : Bytes p) (hp : p.length ≤ 10000) (key : Int) (hkey : key = 106 ∨ key = 107 ∨ key = 36) (a s n tab : Int) (ht : tab ≤ 1000) (hn1 : n ≤ 9223372036854775807) (k : Nat) (hk : 30030 < k) :
  motion_Go.f k p a key s n tab = some (goz (decide (key = 106 ∨ key = 107)) false (dst p key n tab (flo p (clip p a)))) := by
 have e1 : key ≠ 71 := by rcases hkey with rfl | rfl | rfl <;> decide
 have e2 : key ≠ 103 := by rcases hkey with rfl | rfl | rfl <;> decide
 have e3 : tms key n = ((1 : Nat) : Int) := by rcases hkey with rfl | rfl | rfl <;> rfl
 have e5 : decide (key = 101 ∨ key = 102 ∨ key = 116) = false := by rcases hkey with rfl | rfl | rfl <;> decide
 obtain ⟨k, rfl⟩ : ∃ j, k = j + 5 := ⟨k - 5, by omega⟩
 have hfl := flo_facts (clip_le p a)
 have hst := step_down p hb hp key hkey s n tab ht hn1 (flo p (clip p a)) (k + 1) hfl.1.le (by omega)
 rw [motion_Go_key p hb hp a tab key s n e1 e2 (k + 2) (by omega), e3, e5, motion_Go.l0, if_pos (by omega), hst, Option.bind_some]
 cases dst p key n tab (flo p (clip p a)) with
 | none => rfl
 | some b =>
  refine (if_pos rfl).trans ?_
  rw [motion_Go.l0, if_neg (by unfold wrap64; omega)]
  rfl
set_option maxRecDepth 100000 in
theorem start_byte : ∀ x : Fin 256, (Go.bits .and .u8 ((x.val : Nat) : Int) 192 != 128) = decide (¬ (128 ≤ ((x.val : Nat) : Int) ∧ ((x.val : Nat) : Int) ≤ 191)) := by decide
theorem utf8_RuneStart_spec (b : Int) (h0 : 0 ≤ b) (h1 : b ≤ 255) : utf8_RuneStart.f b = some (decide (¬ cont b)) := by
 obtain ⟨n, rfl⟩ : ∃ n : Nat, b = (n : Int) := ⟨b.toNat, by omega⟩
 unfold utf8_RuneStart.f cont
 exact congrArg some (start_byte ⟨n, by omega⟩)
theorem lsz_stop (l : List Int) (j : Nat) (h2 : 2 ≤ j) (h4 : j ≤ 4) (hj : j ≤ l.length) (hc : ∀ i, 2 ≤ i → i < j → ∃ h : l.length - i < l.length, cont (l[l.length - i])) (hn : ∀ h : l.length - j < l.length, ¬ cont (l[l.length - j])) :
  lsz l = if gsz (l.drop (l.length - j)) = j then j else 1 := by
 have hne : l ≠ [] := by rintro rfl; simp at hj; omega
 have small : ∀ m, 2 ≤ m → m < j → ¬ (m ≤ l.length ∧ gsz (l.drop (l.length - m)) = m) := by
  intro m h1 h3 h5
  obtain ⟨hl, hcm⟩ := hc m h1 h3
  rw [gd_cont hl hcm] at h5; omega
 have big : ∀ m, j < m → m ≤ 4 → ¬ (m ≤ l.length ∧ gsz (l.drop (l.length - m)) = m) := by
  intro m h1 h3 h5
  obtain ⟨hl, hcm⟩ := cont_in (p := l) (b := l.length - m) (i := l.length - j) (by omega) (by omega)
  exact hn hl hcm
 unfold lsz
 rw [if_neg hne]
 have : j = 2 ∨ j = 3 ∨ j = 4 := by omega
 rcases this with rfl | rfl | rfl
 ·rw [if_neg (big 3 (by omega) (by omega)), if_neg (big 4 (by omega) (by omega))]
  by_cases h : gsz (l.drop (l.length - 2)) = 2
  ·rw [if_pos ⟨hj, h⟩, if_pos h]
  ·rw [if_neg (fun e => h e.2), if_neg h]
 ·rw [if_neg (small 2 (by omega) (by omega)), if_neg (big 4 (by omega) (by omega))]
  by_cases h : gsz (l.drop (l.length - 3)) = 3
  ·rw [if_pos ⟨hj, h⟩, if_pos h]
  ·rw [if_neg (fun e => h e.2), if_neg h]
 ·rw [if_neg (small 2 (by omega) (by omega)), if_neg (small 3 (by omega) (by omega))]
  by_cases h : gsz (l.drop (l.length - 4)) = 4
  ·rw [if_pos ⟨hj, h⟩, if_pos h]
  ·rw [if_neg (fun e => h e.2), if_neg h]
theorem lsz_none (l : List Int) (hne : l ≠ []) (hc : ∀ i, 2 ≤ i → i ≤ 4 → i ≤ l.length → ∃ h : l.length - i < l.length, cont (l[l.length - i])) : lsz l = 1 := by
 have small : ∀ m, 2 ≤ m → m ≤ 4 → ¬ (m ≤ l.length ∧ gsz (l.drop (l.length - m)) = m) := by
  intro m h1 h3 h5
  obtain ⟨hl, hcm⟩ := hc m h1 h3 h5.1
  rw [gd_cont hl hcm] at h5; omega
 unfold lsz
 rw [if_neg hne, if_neg (small 2 (by omega) (by omega)), if_neg (small 3 (by omega) (by omega)), if_neg (small 4 (by omega) (by omega))]
theorem lsz_low (l : List Int) (hl : 0 < l.length) (h : ¬ cont (l[l.length - 1])) : lsz l = 1 := by
 have hne : l ≠ [] := by rintro rfl; simp at hl
 have small : ∀ m, 2 ≤ m → m ≤ 4 → ¬ (m ≤ l.length ∧ gsz (l.drop (l.length - m)) = m) := by
  intro m h1 h3 h5
  obtain ⟨hl, hcm⟩ := cont_in (p := l) (b := l.length - m) (i := l.length - 1) (by omega) (by omega)
  exact h hcm
 unfold lsz
 rw [if_neg hne, if_neg (small 2 (by omega) (by omega)), if_neg (small 3 (by omega) (by omega)), if_neg (small 4 (by omega) (by omega))]
theorem last_j1 (l : List Int) (hb : Bytes l) (s : Nat) (hs : s ≤ l.length) (hl : l.length ≤ 1000000000) (k : Nat) (hk : 1 < k) :
  ∃ r, utf8_DecodeLastRune.j1 k l (l.length : Int) (s : Int) = some (r, if s + gsz (l.drop s) = l.length then (gsz (l.drop s) : Int) else 1) := by
 obtain ⟨k, rfl⟩ := ex_succ' (n := 0) (k := k) (by omega)
 have h4 := (gsz_le (l.drop s)).2
 simp only [utf8_DecodeLastRune.j1]
 rw [if_neg (by omega), if_pos (by omega), if_pos (by omega), if_pos (by omega), Int.toNat_natCast, Int.toNat_natCast, List.take_of_length_le (Nat.le_refl _), utf8_DecodeRune_spec _ (bytes_drop hb s) k (by omega), Option.bind_some]
 have hw : wrap64 ((s : Int) + (gsz (l.drop s) : Int)) = (s : Int) + (gsz (l.drop s) : Int) := wid (by omega) (by omega)
 simp only [hw]
 clear hw
 by_cases h : s + gsz (l.drop s) = l.length
 ·rw [if_pos (by omega), if_pos h]; exact ⟨_, rfl⟩
 ·rw [if_neg (by omega), if_neg h]; exact ⟨_, rfl⟩
theorem last_l0 (l : List Int) (hb : Bytes l) (hl : l.length ≤ 1000000000) (hl0 : 0 < l.length) (m : Nat) : ∀ (j k : Nat), j + m = 5 → 2 ≤ j → j ≤ l.length + 1 → m + 3 < k →
  (∀ i, 2 ≤ i → i < j → ∃ h : l.length - i < l.length, cont (l[l.length - i])) →
  ∃ r, utf8_DecodeLastRune.l0 k l (l.length : Int) ((l.length : Int) - (j : Int)) (mx ((l.length : Int) - 4) 0) = some (r, (lsz l : Int)) := by
 have hne : l ≠ [] := by rintro rfl; simp at hl0
 have out : ∀ (j k : Nat), 2 ≤ j → 2 < k → (j = 5 ∨ j = l.length + 1) → j ≤ l.length + 1 → (∀ i, 2 ≤ i → i < j → ∃ h : l.length - i < l.length, cont (l[l.length - i])) → ∃ r, utf8_DecodeLastRune.j1 k l (l.length : Int) ((l.length : Int) - (j : Int)) = some (r, (lsz l : Int)) := by
  intro j k h2 hk hj hjl hc
  have h1 : lsz l = 1 := lsz_none l hne (fun i hi h4 hil => hc i hi (by omega))
  rw [h1]
  rcases Nat.lt_or_ge l.length j with hlt | hge
  ·have hj' : j = l.length + 1 := by omega
   obtain ⟨k, rfl⟩ := ex_succ' (n := 0) (k := k) (by omega)
   simp only [utf8_DecodeLastRune.j1]
   rw [if_pos (by omega), if_pos (by omega), if_pos (by omega), Int.toNat_natCast, List.take_of_length_le (Nat.le_refl _), List.drop_zero, utf8_DecodeRune_spec _ hb k (by omega), Option.bind_some]
   have h4 := gsz_le l
   have hw : wrap64 (gsz l : Int) = (gsz l : Int) := wid (by omega) (by omega)
   simp only [hw]
   clear hw
   by_cases h : (gsz l : Int) = (l.length : Int)
   ·have hg : gsz l = 1 := by
     by_cases hn1 : l.length = 1
     ·omega
     ·obtain ⟨hh, hcm⟩ := hc l.length (by omega) (by omega)
      exact gsz_head_cont hl0 (by simpa using hcm)
    rw [if_pos h, hg]; exact ⟨_, rfl⟩
   ·rw [if_neg h]; exact ⟨_, rfl⟩
  ·have hj5 : j = 5 := by omega
   subst hj5
   obtain ⟨r, hr⟩ := last_j1 l hb (l.length - 5) (by omega) hl k (by omega)
   have h4 := (gsz_le (l.drop (l.length - 5))).2
   rw [if_neg (by omega)] at hr
   rw [show ((l.length - 5 : Nat) : Int) = (l.length : Int) - ((5 : Nat) : Int) by omega] at hr
   exact ⟨r, hr⟩
 induction m with
 | zero =>
  intro j k hj h2 hjl hk hc
  obtain ⟨k, rfl⟩ := ex_succ' hk
  simp only [utf8_DecodeLastRune.l0]
  rw [if_neg (by unfold mx; split <;> omega)]
  exact out j k h2 (by omega) (by omega) hjl hc
 | succ m ih =>
  intro j k hj h2 hjl hk hc
  obtain ⟨k, rfl⟩ := ex_succ' hk
  simp only [utf8_DecodeLastRune.l0]
  by_cases hlt : l.length < j
  ·rw [if_neg (by unfold mx; split <;> omega)]
   exact out j k h2 (by omega) (by omega) hjl hc
  ·have hi : l.length - j < l.length := by omega
   have hbb := hb _ (List.getElem_mem hi)
   have e : (l.length : Int) - (j : Int) = ((l.length - j : Nat) : Int) := by omega
   rw [if_pos (by unfold mx; split <;> omega), if_pos (by omega), if_pos (by omega), e, rd_nat l _ hi, utf8_RuneStart_spec _ hbb.1 hbb.2, Option.bind_some]
   by_cases hcc : cont (l[l.length - j])
   ·rw [if_neg (by simpa using hcc)]
    have hw : wrap64 (((l.length - j : Nat) : Int) - 1) = (l.length : Int) - ((j + 1 : Nat) : Int) := by
     rw [show ((l.length - j : Nat) : Int) - 1 = (l.length : Int) - ((j + 1 : Nat) : Int) by omega]
     exact wid (by omega) (by omega)
    rw [hw]
    clear hw
    exact ih (j + 1) k (by omega) (by omega) (by omega) (by omega) (fun i h1 h3 => by
     rcases Nat.lt_or_ge i j with h | h
     ·exact hc i h1 h
     ·have : i = j := by omega
      subst this
      exact ⟨hi, hcc⟩)
   ·rw [if_pos (by simpa using hcc)]
    obtain ⟨r, hr⟩ := last_j1 l hb (l.length - j) (by omega) hl k (by omega)
    refine ⟨r, ?_⟩
    rw [hr, lsz_stop l j h2 (by omega) (by omega) hc (fun _ => hcc)]
    by_cases hg : gsz (l.drop (l.length - j)) = j
    ·rw [if_pos (by omega), if_pos hg, hg]
    ·rw [if_neg (by omega), if_neg hg]; rfl
theorem utf8_DecodeLastRune_spec (l : List Int) (hb : Bytes l) (hl : l.length ≤ 1000000000) (k : Nat) (hk : 6 < k) : ∃ r, utf8_DecodeLastRune.f k l = some (r, (lsz l : Int)) := by
 unfold utf8_DecodeLastRune.f
 by_cases h : l.length = 0
 ·have : l = [] := List.eq_nil_of_length_eq_zero h
  subst this
  exact ⟨_, rfl⟩
 ·have hi : l.length - 1 < l.length := by omega
  have hbb := hb _ (List.getElem_mem hi)
  have w1 : wrap64 ((l.length : Int) - 1) = ((l.length - 1 : Nat) : Int) := by
   rw [show (l.length : Int) - 1 = ((l.length - 1 : Nat) : Int) by omega]; exact wid (by omega) (by omega)
  have w2 : wrap64 (((l.length - 1 : Nat) : Int) - 1) = (l.length : Int) - ((2 : Nat) : Int) := by
   clear w1
   rw [show ((l.length - 1 : Nat) : Int) - 1 = (l.length : Int) - ((2 : Nat) : Int) by omega]; exact wid (by omega) (by omega)
  have w3 : wrap64 ((l.length : Int) - 4) = (l.length : Int) - 4 := by clear w1 w2; exact wid (by omega) (by omega)
  have w4 : wrap32 (l[l.length - 1]) = l[l.length - 1] := by clear w1 w2 w3; unfold wrap32; omega
  rw [w1, w2, w3, rd_nat l _ hi, w4]
  clear w1 w2 w3 w4
  rw [if_neg (by omega), if_pos (by omega), if_pos (by omega)]
  by_cases h1 : l[l.length - 1] < 128
  ·rw [if_pos h1, lsz_low l (by omega) (fun c => by unfold cont at c; omega)]
   exact ⟨_, rfl⟩
  ·rw [if_neg h1]
   exact last_l0 l hb hl (by omega) 3 2 k (by omega) (by omega) (by omega) (by omega) (fun i h1 h2 => by omega)
theorem glyph_Prev_spec (p : List Int) (hb : Bytes p) (hp : p.length ≤ 1000000000) (i : Nat) (hi : i ≤ p.length) (k : Nat) (hk : 6 < k) : glyph_Prev.f k p (i : Int) = some (lsz (p.take i) : Int) := by
 unfold glyph_Prev.f
 by_cases h0 : i = 0
 ·subst h0; rfl
 ·rw [if_neg (by omega), if_neg (by omega), if_pos (by omega), if_pos (by omega), Int.toNat_natCast]
  obtain ⟨r, hr⟩ := utf8_DecodeLastRune_spec (p.take i) (bytes_take hb i) (by simp only [List.length_take]; omega) k hk
  rw [hr, Option.bind_some]
theorem step_within (p : List Int) (a s n tab key : Int) (h : key = 104 ∨ key = 108 ∨ key = 48 ∨ key = 94) (k : Nat) : motion_step.f (k + 1) p a key s n tab = (motion_within.f k p a key s n).bind fun bt => if bt.2 = true then some (bt.1, 0) else some (0, 2) := by
 rcases h with rfl | rfl | rfl | rfl <;> rfl
def sgk (on : Bool) : Int := if on then 108 else 104
theorem motion_step_sgn (p : List Int) (hb : Bytes p) (hp : p.length ≤ 10000) (on : Bool) (s n tab : Int) (a k : Nat) (ha : Bd p a) (hk : 20010 < k) : motion_step.f k p (a : Int) (sgk on) s n tab = some (stz (sgn p on a)) ∧ ∀ b, sgn p on a = some b → Bd p b := by
 refine ⟨?_, fun b hb => (sgn_facts ha hb).1⟩
 have hle := ha.le
 have hfe := fr_en hle
 obtain ⟨k, rfl⟩ := ex_succ (n := 0) (k := k) (by omega)
 cases on with
 | true =>
  have hg := gd_le p a hle
  have hn : ∃ g : Int, glyph_Next.f k p (a : Int) = some g ∧ (a < en p a → g = (gsz (p.drop a) : Int)) := by
   by_cases h : a < p.length
   ·exact ⟨_, glyph_Next_spec p hb a h k (by omega), fun _ => rfl⟩
   ·exact ⟨_, glyph_Next_out p _ (by omega) k, fun h2 => by omega⟩
  obtain ⟨g, h1, h2⟩ := hn
  have e : sgk true = 108 := rfl
  rw [e, step_within p a s n tab 108 (by decide)]
  unfold motion_within.f
  rw [motion_span_spec p hb hp a hle k (by omega), Option.bind_some, if_neg (by decide), if_pos rfl, h1, Option.bind_some, Option.bind_some]
  have e2 : sgn p true a = if a < en p a then some (a + gsz (p.drop a)) else none := rfl
  rw [e2]
  by_cases h : a < en p a
  ·rw [if_pos h, h2 h]
   have hw : wrap64 ((a : Int) + (gsz (p.drop a) : Int)) = ((a + gsz (p.drop a) : Nat) : Int) := wadd (by omega)
   dsimp only
   rw [hw]
   clear hw
   exact if_pos (decide_eq_true (by omega))
  ·rw [if_neg h]
   exact if_neg (by simp; omega)
 | false =>
  have h1 := glyph_Prev_spec p hb (by omega) a hle k (by omega)
  have e : sgk false = 104 := rfl
  rw [e, step_within p a s n tab 104 (by decide)]
  unfold motion_within.f
  rw [motion_span_spec p hb hp a hle k (by omega), Option.bind_some, if_pos rfl, h1, Option.bind_some, Option.bind_some]
  have e2 : sgn p false a = if fr p a < a then some (a - lsz (p.take a)) else none := rfl
  rw [e2]
  by_cases h : fr p a < a
  ·obtain ⟨c, h2, h3, h4, h5, h6⟩ := last_sign ha (by omega)
   rw [if_pos h]
   have hw : wrap64 ((a : Int) - (lsz (p.take a) : Int)) = ((a - lsz (p.take a) : Nat) : Int) := wsub (by omega) (by omega)
   dsimp only
   rw [hw]
   clear hw
   exact if_pos (decide_eq_true (by omega))
  ·rw [if_neg h]
   exact if_neg (by simp; omega)
theorem motion_Go_l0m (p : List Int) (tab key s n : Int) (l w : Bool) (f : Nat → Option Nat) (Q : Nat → Prop) (mu : Nat → Nat) (big : Nat) (hs : ∀ a k, Q a → big < k → motion_step.f k p (a : Int) key s n tab = some (stz (f a)) ∧ ∀ b, f a = some b → Q b ∧ mu b < mu a) (t : Nat) (ht : t ≤ 9223372036854775807) (d : Nat) : ∀ (m k i a : Nat), i + m = t → Q a → mu a ≤ d → big + d + 1 < k →
  motion_Go.l0 k p tab (t : Int) (i : Int) key s n (a : Int) l w = some (goz l w (itr f m a)) := by
 have main : ∀ (m k i a : Nat), i + m = t → Q a → big + 1 < k → (∀ b, f a = some b → ∀ m', i + 1 + m' = t → motion_Go.l0 (k - 1) p tab (t : Int) ((i + 1 : Nat) : Int) key s n (b : Int) l w = some (goz l w (itr f m' b))) → motion_Go.l0 k p tab (t : Int) (i : Int) key s n (a : Int) l w = some (goz l w (itr f m a)) := by
  intro m k i a hi ha hk hn
  obtain ⟨k, rfl⟩ := ex_succ (n := 0) (k := k) (by omega)
  cases m with
  | zero =>
   rw [motion_Go.l0, if_neg (by omega)]
   rfl
  | succ m =>
   obtain ⟨h1, h2⟩ := hs a k ha (by omega)
   rw [motion_Go.l0, if_pos (by omega), h1, Option.bind_some, itr]
   cases e : f a with
   | none => rfl
   | some b =>
    have hw : wrap64 ((i : Int) + 1) = ((i + 1 : Nat) : Int) := by rw [wid (by omega) (by omega)]; omega
    rw [Option.bind_some, hw]
    exact (if_pos rfl).trans (hn b e m (by omega))
 induction d with
 | zero =>
  intro m k i a hi ha hd hk
  exact main m k i a hi ha (by omega) (fun b hb => by have := ((hs a k ha (by omega)).2 b hb).2; omega)
 | succ d ih =>
  intro m k i a hi ha hd hk
  exact main m k i a hi ha (by omega) (fun b hb m' hm => by
   have := (hs a k ha (by omega)).2 b hb
   exact ih m' (k - 1) (i + 1) b hm this.1 (by omega) (by omega))
theorem motion_Go_many (p : List Int) (hb : Bytes p) (hp : p.length ≤ 10000) (a tab key s n : Int) (h1 : key ≠ 71) (h2 : key ≠ 103) (hn1 : n ≤ 9223372036854775807) (f : Nat → Option Nat) (Q : Nat → Prop) (mu : Nat → Nat) (big : Nat) (hs : ∀ a k, Q a → big < k → motion_step.f k p (a : Int) key s n tab = some (stz (f a)) ∧ ∀ b, f a = some b → Q b ∧ mu b < mu a) (hQ : Q (flo p (clip p a))) (hmu : ∀ a, Q a → mu a ≤ 10000) (k : Nat) (hk : big + 10020 < k) :
  motion_Go.f k p a key s n tab = some (goz (decide (key = 106 ∨ key = 107)) (decide (key = 101 ∨ key = 102 ∨ key = 116)) (itr f (tms key n).toNat (flo p (clip p a)))) := by
 obtain ⟨k, rfl⟩ : ∃ j, k = j + 3 := ⟨k - 3, by omega⟩
 have ht : tms key n = (((tms key n).toNat : Nat) : Int) ∧ (tms key n).toNat ≤ 9223372036854775807 := by unfold tms; split <;> omega
 rw [motion_Go_key p hb hp a tab key s n h1 h2 k (by omega), ht.1]
 exact motion_Go_l0m p tab key s n _ _ f Q mu big hs _ ht.2 10000 _ k 0 _ (by omega) hQ (hmu _ hQ) (by omega)
theorem motion_Go_one (p : List Int) (hb : Bytes p) (hp : p.length ≤ 10000) (a tab key s n : Int) (h1 : key ≠ 71) (h2 : key ≠ 103) (ht : tms key n = 1) (o : Option Nat) (big : Nat) (hs : ∀ k, big < k → motion_step.f k p (flo p (clip p a) : Int) key s n tab = some (stz o)) (k : Nat) (hk : big + 20 < k) :
  motion_Go.f k p a key s n tab = some (goz (decide (key = 106 ∨ key = 107)) (decide (key = 101 ∨ key = 102 ∨ key = 116)) o) := by
 obtain ⟨k, rfl⟩ : ∃ j, k = j + 5 := ⟨k - 5, by omega⟩
 rw [motion_Go_key p hb hp a tab key s n h1 h2 (k + 2) (by omega), ht, motion_Go.l0, if_pos (by omega), hs (k + 1) (by omega), Option.bind_some]
 cases o with
 | none => rfl
 | some b =>
  refine (if_pos rfl).trans ?_
  rw [motion_Go.l0, if_neg (by unfold wrap64; omega)]
  rfl
theorem lin_cut {p : List Int} {a : Nat} (ha : a ≤ p.length) : (p.take (en p a)).drop (fr p a) = lin p (row p a) := by
 have hr := row_lt p a
 have h := line_cut hr
 unfold en fr
 rw [lin_at hr]
 exact h
theorem step_zero (p : List Int) (hb : Bytes p) (hp : p.length ≤ 10000) (s n tab : Int) (a k : Nat) (ha : a ≤ p.length) (hk : 20010 < k) : motion_step.f k p (a : Int) 48 s n tab = some (stz (some (fr p a))) := by
 obtain ⟨k, rfl⟩ := ex_succ (n := 0) (k := k) (by omega)
 rw [step_within p a s n tab 48 (by decide)]
 unfold motion_within.f
 rw [motion_span_spec p hb hp a ha k (by omega), Option.bind_some, if_neg (by decide), if_neg (by decide), if_neg (by decide), Option.bind_some]
 rfl
theorem step_hat (p : List Int) (hb : Bytes p) (hp : p.length ≤ 10000) (s n tab : Int) (a k : Nat) (ha : a ≤ p.length) (hk : 20010 < k) : motion_step.f k p (a : Int) 94 s n tab = some (stz (some (fr p a + ind (lin p (row p a))))) := by
 obtain ⟨k, rfl⟩ := ex_succ (n := 0) (k := k) (by omega)
 have hfe := fr_en ha
 have hr := row_lt p a
 have hc := lin_cut ha
 have hlb : Bytes (lin p (row p a)) := by rw [lin_at hr]; exact line_bytes hb hr
 have hil := ind_le (lin p (row p a))
 have hll : en p a = fr p a + (lin p (row p a)).length := rfl
 rw [step_within p a s n tab 94 (by decide)]
 unfold motion_within.f
 rw [motion_span_spec p hb hp a ha k (by omega), Option.bind_some, if_neg (by decide), if_neg (by decide), if_pos rfl]
 dsimp only
 rw [Int.toNat_natCast, Int.toNat_natCast, hc, lines_Indent_spec _ (by rw [strOfNums_size]; omega) k (by rw [strOfNums_size]; omega), bytesOf_str hlb]
 have hw : wrap64 ((fr p a : Int) + (ind (lin p (row p a)) : Int)) = ((fr p a + ind (lin p (row p a)) : Nat) : Int) := wadd (by omega)
 rw [Option.bind_some, hw]
 clear hw
 rw [if_pos (by omega), if_pos (by omega), if_pos (by omega), Option.bind_some]
 rfl
def nbl (p : List Int) : Nat → Nat → Option Nat
 | 0, _ => none
 | m + 1, i => if brl p i = some true then some i else nbl p m (i + 1)
def pbl (p : List Int) : Nat → Option Nat
 | 0 => none
 | i + 1 => if brl p i = some true then some i else pbl p i
theorem nbl_facts {p : List Int} (m : Nat) : ∀ {i r : Nat}, i + m = (lns p).length → nbl p m i = some r → i ≤ r ∧ r < (lns p).length := by
 induction m with
 | zero => intro i r _ h; simp [nbl] at h
 | succ m ih =>
  intro i r hi h
  rw [nbl] at h
  split at h
  ·have := Option.some.inj h; omega
  ·have := ih (by omega) h; omega
theorem pbl_facts {p : List Int} (i : Nat) : ∀ {r : Nat}, pbl p i = some r → r < i := by
 induction i with
 | zero => intro r h; simp [pbl] at h
 | succ i ih =>
  intro r h
  rw [pbl] at h
  split at h
  ·have := Option.some.inj h; omega
  ·have := ih h; omega
def pgr (p : List Int) (on : Bool) (a : Nat) : Option Nat := if on then (match nbl p ((lns p).length - (row p a + 1)) (row p a + 1) with
  | some r => some (off ((lns p).take r))
  | none => if a = p.length then none else some p.length)
 else (match pbl p (row p a) with
  | some r => some (off ((lns p).take r))
  | none => if a = 0 then none else some 0)
theorem pgr_facts {p : List Int} {on : Bool} {a b : Nat} (ha : a ≤ p.length) (h : pgr p on a = some b) : Bd p b ∧ (if on then a < b else b < a) := by
 have hr := row_lt p a
 have hra := row_at p a ha
 unfold pgr at h
 cases on with
 | true =>
  rw [if_pos rfl] at h ⊢
  cases e : nbl p ((lns p).length - (row p a + 1)) (row p a + 1) with
  | some r =>
   rw [e] at h
   have hn := nbl_facts _ (by omega) e
   have := Option.some.inj h
   subst this
   have hm := off_mono (lns p) hn.1
   rw [off_take hr] at hm
   exact ⟨bd_line hn.2, by omega⟩
  | none =>
   rw [e] at h
   dsimp only at h
   split at h
   ·simp at h
   ·have := Option.some.inj h
    subst this
    exact ⟨Bd.end_ p, by omega⟩
 | false =>
  rw [if_neg Bool.false_ne_true] at h ⊢
  cases e : pbl p (row p a) with
  | some r =>
   rw [e] at h
   have hn := pbl_facts _ e
   have := Option.some.inj h
   subst this
   have hm := off_mono (lns p) (show r + 1 ≤ row p a by omega)
   rw [off_take (show r < (lns p).length by omega)] at hm
   exact ⟨bd_line (by omega), by omega⟩
  | none =>
   rw [e] at h
   dsimp only at h
   split at h
   ·simp at h
   ·have := Option.some.inj h
    subst this
    exact ⟨Bd.zero, by omega⟩
def lno (p : List Int) (key n : Int) : Int := if n < 1 then (if key = 71 then ((lns p).length : Int) else 1) else n
theorem bare_text (p : List Int) (hb : Bytes p) (hp : p.length ≤ 10000) (i : Nat) (hi : i < (lns p).length) (k : Nat) (hk : 20000 < k) : lines_Bare.f k (strOfNums ((p.take (wrap64 ((off ((lns p).take i) : Int) + ((lns p)[i].length : Int)) : Int).toNat).drop ((off ((lns p).take i) : Int)).toNat)) = some (decide (ind (lns p)[i] = (lns p)[i].length)) := by
 have hle := off_le hi
 rw [line_str (by omega) hi, lines_Bare_spec _ (by rw [strOfNums_size]; omega) k (by rw [strOfNums_size]; omega), bytesOf_str (line_bytes hb hi)]
theorem para_step (p : List Int) (hb : Bytes p) (hp : p.length ≤ 10000) (a by_ edge : Int) (i : Nat) (hi : i < (lns p).length) (k : Nat) (hk : 30000 < k) : motion_paragraph.l0 (k + 1) p a by_ edge (i : Int) = if brl p i = some true then some ((off ((lns p).take i) : Int), true) else motion_paragraph.l0 k p a by_ edge (wrap64 ((i : Int) + by_)) := by
 have hle := off_le hi
 have hbt := bare_text p hb hp i hi k (by omega)
 have hw : wrap64 ((off ((lns p).take i) : Int) + ((lns p)[i].length : Int)) = ((off ((lns p).take i) + (lns p)[i].length : Nat) : Int) := wadd (by omega)
 have g1 : (0 : Int) ≤ (off ((lns p).take i) : Int) := by clear hw; omega
 have g2 : (off ((lns p).take i) : Int) ≤ wrap64 ((off ((lns p).take i) : Int) + ((lns p)[i].length : Int)) := by rw [hw]; clear hw; omega
 have g3 : wrap64 ((off ((lns p).take i) : Int) + ((lns p)[i].length : Int)) ≤ (p.length : Int) := by rw [hw]; clear hw; omega
 clear hw
 rw [motion_paragraph.l0, lines_Span_spec p hb (by omega) _ k (by omega), Option.bind_some, sp_nat hi, spr_some]
 refine (if_pos rfl).trans ((if_pos g1).trans ((if_pos g2).trans ((if_pos g3).trans ?_)))
 dsimp only
 rw [hbt, Option.bind_some, brl_in hi]
 by_cases h : ind (lns p)[i] = (lns p)[i].length
 ·rw [if_pos (decide_eq_true h), if_pos (by rw [decide_eq_true h])]
 ·rw [if_neg (by simpa using h), if_neg (by simpa using h)]
theorem para_out (p : List Int) (hb : Bytes p) (hp : p.length ≤ 10000) (a by_ edge i : Int) (hi : i < 0 ∨ ((lns p).length : Int) ≤ i) (k : Nat) (hk : 30000 < k) : motion_paragraph.l0 (k + 1) p a by_ edge i = some (edge, (a != edge)) := by
 rw [motion_paragraph.l0, lines_Span_spec p hb (by omega) _ k (by omega), Option.bind_some, sp_out (by omega)]
 rfl
def pgz (p : List Int) (a edge : Int) (o : Option Nat) : Int × Bool := match o with
 | some r => ((off ((lns p).take r) : Int), true)
 | none => (edge, (a != edge))
theorem para_on (p : List Int) (hb : Bytes p) (hp : p.length ≤ 10000) (a edge : Int) (m : Nat) : ∀ k i, i + m = (lns p).length → 30001 + m < k → motion_paragraph.l0 k p a 1 edge (i : Int) = some (pgz p a edge (nbl p m i)) := by
 have hcnt := lns_count p
 have hnl := nls_le p
 induction m with
 | zero =>
  intro k i hi hk
  obtain ⟨k, rfl⟩ := ex_succ (n := 0) (k := k) (by omega)
  rw [para_out p hb hp a 1 edge i (by omega) k (by omega)]
  rfl
 | succ m ih =>
  intro k i hi hk
  obtain ⟨k, rfl⟩ := ex_succ (n := 0) (k := k) (by omega)
  have hw : wrap64 ((i : Int) + 1) = ((i + 1 : Nat) : Int) := wnat (by omega)
  rw [para_step p hb hp a 1 edge i (by clear hw; omega) k (by clear hw; omega), hw]
  clear hw
  rw [nbl]
  by_cases h : brl p i = some true
  ·rw [if_pos h, if_pos h]; rfl
  ·rw [if_neg h, if_neg h]; exact ih k (i + 1) (by omega) (by omega)
theorem para_off (p : List Int) (hb : Bytes p) (hp : p.length ≤ 10000) (a edge : Int) (i : Nat) : ∀ k, i ≤ (lns p).length → 30001 + i < k → motion_paragraph.l0 k p a (-1) edge ((i : Int) - 1) = some (pgz p a edge (pbl p i)) := by
 have hcnt := lns_count p
 have hnl := nls_le p
 induction i with
 | zero =>
  intro k hi hk
  obtain ⟨k, rfl⟩ := ex_succ (n := 0) (k := k) (by omega)
  rw [para_out p hb hp a (-1) edge _ (by omega) k (by omega)]
  rfl
 | succ i ih =>
  intro k hi hk
  obtain ⟨k, rfl⟩ := ex_succ (n := 0) (k := k) (by omega)
  have e : ((i + 1 : Nat) : Int) - 1 = (i : Int) := by omega
  have hw : wrap64 ((i : Int) + -1) = (i : Int) - 1 := by rw [wid (by omega) (by omega)]; omega
  rw [e, para_step p hb hp a (-1) edge i (by clear hw; omega) k (by clear hw; omega), hw]
  clear hw
  rw [pbl]
  by_cases h : brl p i = some true
  ·rw [if_pos h, if_pos h]; rfl
  ·rw [if_neg h, if_neg h]; exact ih k (by omega) (by omega)
def pgk (on : Bool) : Int := if on then 125 else 123
theorem step_para (p : List Int) (hb : Bytes p) (hp : p.length ≤ 10000) (on : Bool) (s n tab : Int) (a k : Nat) (ha : a ≤ p.length) (hk : 50010 < k) : motion_step.f k p (a : Int) (pgk on) s n tab = some (stz (pgr p on a)) := by
 obtain ⟨k, rfl⟩ : ∃ j, k = j + 4 := ⟨k - 4, by omega⟩
 have hr := row_lt p a
 have hcnt := lns_count p
 have hnl := nls_le p
 cases on with
 | true =>
  have e : motion_step.f (k + 4) p (a : Int) (pgk true) s n tab = (motion_paragraph.j0 (k + 1) p (a : Int) 1 (p.length : Int)).bind fun bt => if bt.2 = true then some (bt.1, 0) else some (0, 2) := rfl
  have hw : wrap64 ((row p a : Int) + 1) = ((row p a + 1 : Nat) : Int) := wnat (by omega)
  rw [e, motion_paragraph.j0, lines_Of_spec p hb, clip_nat ha, Option.bind_some, hw]
  clear hw
  rw [para_on p hb hp (a : Int) (p.length : Int) ((lns p).length - (row p a + 1)) k (row p a + 1) (by omega) (by omega), Option.bind_some]
  unfold pgr
  rw [if_pos rfl]
  cases nbl p ((lns p).length - (row p a + 1)) (row p a + 1) with
  | some r => rfl
  | none =>
   have e3 : pgz p (a : Int) (p.length : Int) none = ((p.length : Int), ((a : Int) != (p.length : Int))) := rfl
   rw [e3]
   dsimp only
   by_cases h : a = p.length
   ·rw [if_pos h]
    exact if_neg (by simp; omega)
   ·rw [if_neg h]
    exact if_pos (by simp; omega)
 | false =>
  have e : motion_step.f (k + 4) p (a : Int) (pgk false) s n tab = (motion_paragraph.j0 (k + 1) p (a : Int) (-1) 0).bind fun bt => if bt.2 = true then some (bt.1, 0) else some (0, 2) := rfl
  have hw : wrap64 ((row p a : Int) + -1) = (row p a : Int) - 1 := by rw [wid (by omega) (by omega)]; omega
  rw [e, motion_paragraph.j0, lines_Of_spec p hb, clip_nat ha, Option.bind_some, hw]
  clear hw
  rw [para_off p hb hp (a : Int) 0 (row p a) k (by omega) (by omega), Option.bind_some]
  unfold pgr
  rw [if_neg Bool.false_ne_true]
  cases pbl p (row p a) with
  | some r => rfl
  | none =>
   have e3 : pgz p (a : Int) 0 none = (0, ((a : Int) != 0)) := rfl
   rw [e3]
   dsimp only
   by_cases h : a = 0
   ·rw [if_pos h]
    exact if_neg (by simp; omega)
   ·rw [if_neg h]
    exact if_pos (by simp; omega)
theorem motion_Go_line (p : List Int) (hb : Bytes p) (hp : p.length ≤ 10000) (key : Int) (hkey : key = 71 ∨ key = 103) (a s n tab : Int) (h0 : -9223372036854775808 ≤ n) (h1 : n ≤ 9223372036854775807) (k : Nat) (hk : 30010 < k) :
  motion_Go.f k p a key s n tab = some (goz true false ((dln p 0 (lno p key n - 1)).map fun r => off ((lns p).take r) + ind (lin p r))) := by
 have hcnt := lns_count p
 have hnl := nls_le p
 obtain ⟨k, rfl⟩ : ∃ j, k = j + 2 := ⟨k - 2, by omega⟩
 have e : motion_Go.f (k + 2) p a key s n tab = motion_line.f (k + 1) p key s n := by
  have e1 : ∀ z, motion_Go.j0 (k + 2) p z tab true key s n = motion_line.f (k + 1) p key s n := by
   intro z
   rw [motion_Go.j0, if_pos rfl]
   cases motion_line.f (k + 1) p key s n <;> rfl
  unfold motion_Go.f
  rw [glyph_Floor_spec p hb (by omega) a (k + 2) (by omega), Option.bind_some]
  rcases hkey with rfl | rfl
  ·rw [if_pos rfl, e1]
  ·rw [if_neg (by decide), show ((103 : Int) == 103) = true by decide, e1]
 have e2 : motion_line.f (k + 1) p key s n = motion_line.j0 (k + 1) p (lno p key n) := by
  unfold motion_line.f lno
  by_cases g : n < 1
  ·rw [if_pos g, if_pos g]
   by_cases g2 : key = 71
   ·rw [if_pos g2, if_pos g2, lines_Count_spec p hb (by omega), Option.bind_some, hcnt]
   ·rw [if_neg g2, if_neg g2]
  ·rw [if_neg g, if_neg g]
 have hl : 1 ≤ lno p key n ∧ lno p key n ≤ 9223372036854775807 := by unfold lno; split <;> (try split) <;> omega
 have hw : wrap64 (lno p key n - 1) = lno p key n - 1 := wid (by omega) (by omega)
 rw [e, e2, motion_line.j0, hw, lines_Span_spec p hb (by omega) _ k (by omega), Option.bind_some]
 clear hw e e2
 by_cases h : lno p key n - 1 < ((lns p).length : Int)
 ·have ed : dln p 0 (lno p key n - 1) = some (lno p key n - 1).toNat := by
   unfold dln
   rw [if_pos ⟨by omega, by omega⟩]
   congr 1; omega
  obtain ⟨r, hr⟩ : ∃ r : Nat, lno p key n - 1 = (r : Int) := ⟨(lno p key n - 1).toNat, by omega⟩
  have hrl : r < (lns p).length := by omega
  have hle := off_le hrl
  have hil := ind_le (lns p)[r]
  rw [ed, hr, Int.toNat_natCast, sp_nat hrl, spr_some, Option.map_some, lin_at hrl]
  have hs := line_str (p := p) (by omega) hrl
  have hw : wrap64 ((off ((lns p).take r) : Int) + ((lns p)[r].length : Int)) = ((off ((lns p).take r) + (lns p)[r].length : Nat) : Int) := wadd (by omega)
  have g1 : (0 : Int) ≤ (off ((lns p).take r) : Int) := by clear hw; omega
  have g2 : (off ((lns p).take r) : Int) ≤ wrap64 ((off ((lns p).take r) : Int) + ((lns p)[r].length : Int)) := by rw [hw]; clear hw; omega
  have g3 : wrap64 ((off ((lns p).take r) : Int) + ((lns p)[r].length : Int)) ≤ (p.length : Int) := by rw [hw]; clear hw; omega
  clear hw
  refine (if_pos rfl).trans ((if_pos g1).trans ((if_pos g2).trans ((if_pos g3).trans ?_)))
  dsimp only
  rw [hs, lines_Indent_spec _ (by rw [strOfNums_size]; omega) k (by rw [strOfNums_size]; omega), Option.bind_some, bytesOf_str (line_bytes hb hrl)]
  have hw : wrap64 ((off ((lns p).take r) : Int) + (ind (lns p)[r] : Int)) = ((off ((lns p).take r) + ind (lns p)[r] : Nat) : Int) := wadd (by omega)
  rw [hw]
  rfl
 ·have ed : dln p 0 (lno p key n - 1) = none := by
   unfold dln
   rw [if_neg (by omega)]
  rw [ed, sp_out (by omega)]
  rfl
def fnb (p : List Int) (e : Nat) (s : Int) (u : Nat) : Option Nat := if u < e then (if fb ((p.take e).drop (u + 1)) s < 0 then none else some (u + 1 + (fb ((p.take e).drop (u + 1)) s).toNat)) else none
theorem fnb_facts {p : List Int} {e : Nat} {s : Int} {a b : Nat} (he : e ≤ p.length) (h : fnb p e s a = some b) : a < b ∧ b < e := by
 unfold fnb at h
 split at h
 ·have hf := (fb_ge ((p.take e).drop (a + 1)) s).2
  simp only [List.length_drop, List.length_take] at hf
  split at h
  ·simp at h
  ·have := Option.some.inj h; omega
 ·simp at h
theorem itr_fnb {p : List Int} {e : Nat} {s : Int} (he : e ≤ p.length) (n : Nat) : ∀ {a b : Nat}, itr (fnb p e s) n a = some b → a ≤ b ∧ (0 < n → a < b ∧ b < e) := by
 induction n with
 | zero => intro a b h; have := Option.some.inj h; omega
 | succ n ih =>
  intro a b h
  rw [itr] at h
  cases g : fnb p e s a with
  | none => rw [g] at h; simp at h
  | some c =>
   rw [g, Option.bind_some] at h
   have h1 := fnb_facts he g
   have h2 := ih h
   refine ⟨by omega, fun _ => ⟨by omega, ?_⟩⟩
   by_cases g0 : n = 0
   ·subst g0
    have := Option.some.inj h
    omega
   ·exact (h2.2 (by omega)).2
def finR (p : List Int) (key : Int) (a : Nat) (o : Option Nat) : Int × Bool := match o with
 | none => (0, false)
 | some b => if key = 102 then ((flo p b : Int), true) else (((flo p b - lsz (p.take (flo p b)) : Nat) : Int), decide (a < flo p b))
theorem lsz_le' {p : List Int} {a : Nat} (h : Bd p a) : lsz (p.take a) ≤ a := by
 by_cases h0 : a = 0
 ·subst h0; simp [lsz]
 ·obtain ⟨b, _, h2, _, h4, _⟩ := last_sign h (by omega)
  omega
theorem motion_find_l0 (p : List Int) (hb : Bytes p) (hp : p.length ≤ 10000) (a e : Nat) (he : e ≤ p.length) (key s n : Int) (hs0 : 0 ≤ s) (hs1 : s ≤ 255) (t : Nat) (ht : t ≤ 9223372036854775807) (d : Nat) : ∀ (k i u m : Nat), i + m = t → e ≤ u + d → u ≤ p.length → 100 + d < k →
  motion_find.l0 k p (a : Int) (e : Int) (u : Int) (t : Int) (i : Int) key s n = some (finR p key a (itr (fnb p e s) m u)) := by
 have fini : ∀ k u, u ≤ p.length → 50 < k → ((glyph_Floor.f k p (u : Int)).bind fun t232 => (if key = 102 then (some (t232, true)) else ((glyph_Prev.f k p t232).bind fun t233 => (some (wrap64 (t232 - t233), decide (t232 > (a : Int))))))) = some (finR p key a (some u)) := by
  intro k u hu hk
  have hf := flo_facts hu
  have hl := lsz_le' hf.1
  rw [glyph_Floor_spec p hb (by omega) _ k (by omega), Option.bind_some, clip_nat hu]
  unfold finR
  by_cases g : key = 102
  ·rw [if_pos g]; dsimp only; rw [if_pos g]
  ·have hw : wrap64 ((flo p u : Int) - (lsz (p.take (flo p u)) : Int)) = ((flo p u - lsz (p.take (flo p u)) : Nat) : Int) := wsub hl (by omega)
   rw [if_neg g, glyph_Prev_spec p hb (by omega) _ (by omega) k (by omega), Option.bind_some, hw]
   dsimp only
   rw [if_neg g]
   congr 2
   exact decide_eq_decide.2 (by omega)
 induction d with
 | zero =>
  intro k i u m hi hd hu hk
  obtain ⟨k, rfl⟩ := ex_succ (n := 0) (k := k) (by omega)
  rw [motion_find.l0]
  cases m with
  | zero =>
   rw [if_neg (by omega)]
   exact fini k u hu (by omega)
  | succ m =>
   have e1 : fnb p e s u = none := by unfold fnb; rw [if_neg (by omega)]
   rw [if_pos (by omega), if_pos (by omega), itr, e1]
   rfl
 | succ d ih =>
  intro k i u m hi hd hu hk
  obtain ⟨k, rfl⟩ := ex_succ (n := 0) (k := k) (by omega)
  rw [motion_find.l0]
  cases m with
  | zero =>
   rw [if_neg (by omega)]
   exact fini k u hu (by omega)
  | succ m =>
   rw [if_pos (by omega), itr]
   by_cases g : u < e
   ·have hf := fb_ge ((p.take e).drop (u + 1)) s
    have hlen : ((p.take e).drop (u + 1)).length = e - (u + 1) := by simp only [List.length_drop, List.length_take]; omega
    have bd : Bytes ((p.take e).drop (u + 1)) := fun x hx => hb x (List.mem_of_mem_take (List.mem_of_mem_drop hx))
    have hn := ih k (i + 1)
    have hw1 : wrap64 ((u : Int) + 1) = ((u + 1 : Nat) : Int) := wnat (by omega)
    have hw2 : wrap64 ((i : Int) + 1) = ((i + 1 : Nat) : Int) := by clear hw1; rw [wid (by omega) (by omega)]; omega
    rw [if_neg (by clear hw1 hw2; omega), hw1, hw2, Int.toNat_natCast, Int.toNat_natCast]
    clear hw1 hw2
    rw [if_pos (by omega), if_pos (by omega), if_pos (by omega), bytes_IndexByte_spec _ bd s ⟨hs0, hs1⟩, Option.bind_some]
    unfold fnb at hn ⊢
    rw [if_pos g]
    generalize fb ((p.take e).drop (u + 1)) s = z at *
    by_cases g2 : z < 0
    ·rw [if_pos g2, if_pos g2]; rfl
    ·have hw3 : wrap64 ((u : Int) + wrap64 (z + 1)) = ((u + 1 + z.toNat : Nat) : Int) := by
      rw [wid (x := z + 1) (by omega) (by omega), wid (by omega) (by omega)]; omega
     rw [if_neg g2, if_neg g2, hw3, Option.bind_some]
     clear hw3
     exact hn (u + 1 + z.toNat) m (by omega) (by omega) (by omega) (by omega)
   ·have e1 : fnb p e s u = none := by unfold fnb; rw [if_neg g]
    rw [if_pos (by omega), e1]
    rfl
def fstp (p : List Int) (key s : Int) (t a : Nat) : Option Nat := match itr (fnb p (en p a) s) t a with
 | none => none
 | some b => if key = 102 then some (flo p b) else if a < flo p b then some (flo p b - lsz (p.take (flo p b))) else none
theorem step_find (p : List Int) (hb : Bytes p) (hp : p.length ≤ 10000) (key : Int) (hkey : key = 102 ∨ key = 116) (s n tab : Int) (hs0 : 0 ≤ s) (hs1 : s ≤ 255) (hn1 : n ≤ 9223372036854775807) (a k : Nat) (ha : a ≤ p.length) (hk : 30010 < k) : motion_step.f k p (a : Int) key s n tab = some (stz (fstp p key s (max n 1).toNat a)) := by
 have hfe := fr_en ha
 obtain ⟨k, rfl⟩ : ∃ j, k = j + 4 := ⟨k - 4, by omega⟩
 have e0 : mx n 1 = (((max n 1).toNat : Nat) : Int) := by unfold mx; split <;> omega
 have e : motion_step.f (k + 4) p (a : Int) key s n tab = (motion_find.f k p (a : Int) key s n).bind fun bt => if bt.2 = true then some (bt.1, 0) else some (0, 2) := by
  rcases hkey with rfl | rfl <;> rfl
 rw [e]
 unfold motion_find.f
 rw [motion_span_spec p hb hp a ha k (by omega), Option.bind_some, e0]
 have := motion_find_l0 p hb hp a (en p a) hfe.2.2 key s n hs0 hs1 (max n 1).toNat (by omega) p.length k 0 a (max n 1).toNat (by omega) (by omega) ha (by omega)
 dsimp only
 rw [show ((0 : Nat) : Int) = 0 from rfl] at this
 rw [this, Option.bind_some]
 have hz : ∀ o : Option Nat, (if (finR p key a o).2 = true then some ((finR p key a o).1, (0 : Int)) else some (0, 2)) = some (stz (match o with
  | none => none
  | some b => if key = 102 then some (flo p b) else if a < flo p b then some (flo p b - lsz (p.take (flo p b))) else none)) := by
  intro o
  cases o with
  | none => rfl
  | some b =>
   have e2 : finR p key a (some b) = if key = 102 then ((flo p b : Int), true) else (((flo p b - lsz (p.take (flo p b)) : Nat) : Int), decide (a < flo p b)) := rfl
   rw [e2]
   dsimp only
   by_cases g : key = 102
   ·rw [if_pos g, if_pos g]; rfl
   ·rw [if_neg g, if_neg g]
    by_cases g2 : a < flo p b
    ·rw [if_pos g2]
     exact if_pos (decide_eq_true g2)
    ·rw [if_neg g2]
     exact if_neg (by simpa using g2)
 exact hz _
theorem fnd_facts {p : List Int} {s : Int} {t a b : Nat} (h : Bd p a) (ht : 0 < t) (hi : itr (fnb p (en p a) s) t a = some b) : Bd p (flo p b) ∧ a ≤ flo p b ∧ row p (flo p b) = row p a ∧ b < en p a := by
 have hle := h.le
 have hfe := fr_en hle
 have h1 := (itr_fnb hfe.2.2 t hi).2 ht
 have hf := flo_facts (p := p) (a := b) (by omega)
 have hg := flo_ge (p := p) (a := b) (by omega) h (by omega)
 exact ⟨hf.1, hg, row_same (by omega) (by omega), h1.2⟩
theorem fstp_facts {p : List Int} {key s : Int} {t a c : Nat} (h : Bd p a) (ht : 0 < t) (hi : fstp p key s t a = some c) : Bd p c ∧ a ≤ c := by
 unfold fstp at hi
 cases e : itr (fnb p (en p a) s) t a with
 | none => rw [e] at hi; simp at hi
 | some b =>
  rw [e] at hi
  dsimp only at hi
  have hf := fnd_facts h ht e
  by_cases g : key = 102
  ·rw [if_pos g] at hi
   have := Option.some.inj hi
   subst this
   exact ⟨hf.1, hf.2.1⟩
  ·rw [if_neg g] at hi
   split at hi
   ·rename_i g2
    have := Option.some.inj hi
    subst this
    obtain ⟨d, h1, h2, h3, h4, h5⟩ := last_sign hf.1 (by omega)
    rw [h5]
    refine ⟨h1, ?_⟩
    by_cases g3 : a ≤ d
    ·exact g3
    ·have := h.clear d (by omega); omega
   ·simp at hi
theorem motion_Go_find (p : List Int) (hb : Bytes p) (hp : p.length ≤ 10000) (key : Int) (hkey : key = 102 ∨ key = 116) (a s n tab : Int) (hs0 : 0 ≤ s) (hs1 : s ≤ 255) (hn1 : n ≤ 9223372036854775807) (k : Nat) (hk : 30030 < k) :
  motion_Go.f k p a key s n tab = some (goz false true (fstp p key s (max n 1).toNat (flo p (clip p a)))) := by
 have e1 : key ≠ 71 := by rcases hkey with rfl | rfl <;> decide
 have e2 : key ≠ 103 := by rcases hkey with rfl | rfl <;> decide
 have e3 : tms key n = ((1 : Nat) : Int) := by rcases hkey with rfl | rfl <;> rfl
 have e4 : decide (key = 106 ∨ key = 107) = false := by rcases hkey with rfl | rfl <;> decide
 have e5 : decide (key = 101 ∨ key = 102 ∨ key = 116) = true := by rcases hkey with rfl | rfl <;> decide
 have := motion_Go_itr p hb hp a tab key s n e1 e2 (fstp p key s (max n 1).toNat) (Bd p) 30010 (fun a k ha hk => ⟨step_find p hb hp key hkey s n tab hs0 hs1 hn1 a k ha.le hk, fun b hb2 => (fstp_facts ha (by omega) hb2).1⟩) (flo_facts (clip_le p a)).1 1 e3 (by omega) k (by omega)
 rw [e4, e5] at this
 rw [this]
 congr 2
 rw [itr]
 cases fstp p key s (max n 1).toNat (flo p (clip p a)) <;> rfl
theorem words_Class_spec (c : Int) : words_Class.f c = some (cls c) := by
 unfold words_Class.f cls
 rw [glyph_Blank_spec, Option.bind_some]
 simp only [decide_eq_true_eq]
 repeat' split
 all_goals first | rfl | (exfalso; omega)
theorem words_empty_spec (c : Int) : words_empty.f c = some (decide (c ≤ 1)) := rfl
def mk (x : NN) : S39 := ⟨(x.1 : Int), (x.2 : Int)⟩
theorem rd_mk (l : List NN) (i : Nat) (h : i < l.length) : rd_T39 (l.map mk) (i : Int) = mk l[i] := by
 simp [rd_T39, h]
theorem ex_succ1 {k n : Nat} (h : n < k) : ∃ m, k = m + 1 := ⟨k - 1, by omega⟩
theorem need_cases (b : Int) : need b = 1 ∨ need b = 2 ∨ need b = 3 ∨ need b = 4 := by
 unfold need; (repeat' split) <;> omega
theorem gsz_eq (b : Int) (t : List Int) : gsz (b :: t) =
  if need b = 1 ∨ t.length + 1 < need b then 1 else if t.getD 0 0 < lo2 b ∨ hi2 b < t.getD 0 0 then 1
  else if 3 ≤ need b ∧ ¬ cont (t.getD 1 0) then 1 else if 4 ≤ need b ∧ ¬ cont (t.getD 2 0) then 1 else need b := by
 match t with
 | [] =>
  have : need b = 1 ∨ ([] : List Int).length + 1 < need b := by rcases need_cases b with h | h | h | h <;> simp [h]
  rw [if_pos this]; rfl
 | [c] =>
  simp only [gsz, List.length_cons, List.length_nil, List.getD_cons_zero, List.getD_cons_succ, List.getD_nil]
  rcases need_cases b with h | h | h | h <;> simp only [h] <;> simp (decide := true) only [true_and, false_and, if_false, if_true, or_self, or_true, true_or, false_or]
  (repeat' split) <;> omega
 | [c, d] =>
  simp only [gsz, List.length_cons, List.length_nil, List.getD_cons_zero, List.getD_cons_succ, List.getD_nil]
  rcases need_cases b with h | h | h | h <;> simp only [h] <;> simp (decide := true) only [true_and, false_and, if_false, if_true, or_self, or_true, true_or, false_or]
  ·(repeat' split) <;> omega
  ·unfold cont; (repeat' split) <;> omega
 | c :: d :: e :: t =>
  simp only [gsz, List.length_cons, List.length_nil, List.getD_cons_zero, List.getD_cons_succ, List.getD_nil]
  have e1 : ¬ (t.length + 1 + 1 + 1 + 1 < 2) := by omega
  have e2 : ¬ (t.length + 1 + 1 + 1 + 1 < 3) := by omega
  have e3 : ¬ (t.length + 1 + 1 + 1 + 1 < 4) := by omega
  rcases need_cases b with h | h | h | h <;> simp only [h, e1, e2, e3] <;> simp (decide := true) only [true_and, false_and, if_false, if_true, or_self, or_true, true_or, false_or]
  ·(repeat' split) <;> omega
  ·unfold cont; (repeat' split) <;> omega
  ·unfold cont; (repeat' split) <;> omega
theorem getD_drop' (p : List Int) (i j : Nat) (h : i + j < p.length) : (p.drop i).getD j 0 = p[i + j] := by
 simp [List.getD_eq_getElem?_getD, h]
theorem size_j3 (p : List Int) (x1 b sz : Int) (k : Nat) : platenref01_Size.j3 (k + 1) p x1 b sz 128 191 = platenref01_Size.j4 k p x1 sz (lo2 b) (hi2 b) := by
 rw [platenref01_Size.j3]
 unfold lo2 hi2
 by_cases h1 : b = 224
 ·subst h1; rfl
 ·by_cases h2 : b = 237
  ·subst h2; rfl
  ·by_cases h3 : b = 240
   ·subst h3; rfl
   ·by_cases h4 : b = 244
    ·subst h4; rfl
    ·simp only [h1, h2, h3, h4, if_false]
theorem size_j4 (p : List Int) (i : Nat) (h : i < p.length) (hp : p.length ≤ 1000000000) (k : Nat) : platenref01_Size.j4 (k + 6) p (i : Int) (need p[i] : Int) (lo2 p[i]) (hi2 p[i]) = some (gsz (p.drop i) : Int) := by
 have hg := gsz_eq p[i] (p.drop (i + 1))
 rw [← drop_at p i h] at hg
 simp only [List.length_drop] at hg
 have hw0 : wrap64 ((p.length : Int) - (i : Int)) = (p.length : Int) - (i : Int) := wid (by omega) (by omega)
 have hw1 : wrap64 ((i : Int) + 1) = ((i + 1 : Nat) : Int) := wnat (by clear hw0; omega)
 have hw2 : wrap64 ((i : Int) + 2) = ((i + 2 : Nat) : Int) := by clear hw0 hw1; rw [show (i : Int) + 2 = ((i + 2 : Nat) : Int) by omega]; exact wid (by omega) (by omega)
 have hw3 : wrap64 ((i : Int) + 3) = ((i + 3 : Nat) : Int) := by clear hw0 hw1 hw2; rw [show (i : Int) + 3 = ((i + 3 : Nat) : Int) by omega]; exact wid (by omega) (by omega)
 have w23 : wrap64 (2 + 1) = 3 := by decide +kernel
 have w34 : wrap64 (3 + 1) = 4 := by decide +kernel
 rw [platenref01_Size.j4]
 rw [hw0, hw1]
 clear hw0 hw1
 by_cases h1 : need p[i] = 1
 ·rw [h1, if_pos (by rfl)]
  rw [platenref01_Size.j5]
  rw [if_pos rfl, hg, if_pos (.inl h1)]; rfl
 ·have hn := need_cases p[i]
  rw [if_neg (by omega)]
  by_cases h2 : p.length - (i + 1) + 1 < need p[i]
  ·rw [if_pos (by omega)]
   rw [platenref01_Size.j5]
   rw [if_pos rfl, hg, if_pos (.inr h2)]; rfl
  ·have l1 : i + 1 < p.length := by clear hw2 hw3 w23 w34 hg; omega
   have l2 : 3 ≤ need p[i] → i + 2 < p.length := by clear hw2 hw3 w23 w34 hg; omega
   have l3 : 4 ≤ need p[i] → i + 3 < p.length := by clear hw2 hw3 w23 w34 hg; omega
   rw [if_neg (by omega), if_pos (by omega), if_pos (by omega), rd_nat p (i + 1) l1]
   rw [if_neg (by omega), getD_drop' p (i + 1) 0 (by omega)] at hg
   simp only [Nat.add_zero] at hg
   by_cases h3 : p[i + 1] < lo2 p[i]
   ·rw [if_pos h3]
    rw [platenref01_Size.j5]
    rw [if_pos rfl, hg, if_pos (.inl h3)]; rfl
   ·rw [if_neg h3]
    by_cases h4 : hi2 p[i] < p[i + 1]
    ·rw [decide_eq_true h4]
     rw [platenref01_Size.j5]
     rw [if_pos rfl, hg, if_pos (.inr h4)]; rfl
    ·rw [decide_eq_false h4]
     rw [if_neg (by omega)] at hg
     rw [platenref01_Size.j5]
     rw [if_neg (by simp)]
     rw [platenref01_Size.l0]
     rcases hn with hn | hn | hn | hn
     ·exact absurd hn h1
     ·rw [hn, if_neg (by decide), hg, hn]; rfl
     ·have l2 := l2 (by rw [hn]; omega)
      rw [hn, if_pos (by decide), hw2, if_pos (by omega), if_pos (by omega), rd_nat p (i + 2) l2, w23]
      rw [hn, getD_drop' p (i + 1) 1 (by omega)] at hg
      simp only [show i + 1 + 1 = i + 2 by omega] at hg
      clear hw2 hw3
      by_cases c1 : p[i + 2] < 128
      ·rw [if_pos c1, hg, if_pos ⟨by omega, fun c => by unfold cont at c; omega⟩]; rfl
      ·rw [if_neg c1]
       by_cases c2 : p[i + 2] > 191
       ·rw [if_pos c2, hg, if_pos ⟨by omega, fun c => by unfold cont at c; omega⟩]; rfl
       ·rw [if_neg c2]
        rw [platenref01_Size.l0]
        rw [if_neg (by decide), hg, if_neg (fun e => e.2 (by unfold cont; omega)), if_neg (by omega)]
     ·have l2 := l2 (by rw [hn]; omega)
      have l3 := l3 (by rw [hn]; omega)
      rw [hn, if_pos (by decide), hw2, if_pos (by omega), if_pos (by omega), rd_nat p (i + 2) l2, w23]
      rw [hn, getD_drop' p (i + 1) 1 (by omega), getD_drop' p (i + 1) 2 (by omega)] at hg
      simp only [show i + 1 + 1 = i + 2 by omega, show i + 1 + 2 = i + 3 by omega] at hg
      clear hw2
      by_cases c1 : p[i + 2] < 128
      ·rw [if_pos c1, hg, if_pos ⟨by omega, fun c => by unfold cont at c; omega⟩]; rfl
      ·rw [if_neg c1]
       by_cases c2 : p[i + 2] > 191
       ·rw [if_pos c2, hg, if_pos ⟨by omega, fun c => by unfold cont at c; omega⟩]; rfl
       ·rw [if_neg c2]
        rw [platenref01_Size.l0]
        rw [if_pos (by decide), hw3, if_pos (by omega), if_pos (by omega), rd_nat p (i + 3) l3, w34]
        rw [if_neg (fun e => e.2 (by unfold cont; omega))] at hg
        clear hw3
        by_cases c3 : p[i + 3] < 128
        ·rw [if_pos c3, hg, if_pos ⟨by omega, fun c => by unfold cont at c; omega⟩]; rfl
        ·rw [if_neg c3]
         by_cases c4 : p[i + 3] > 191
         ·rw [if_pos c4, hg, if_pos ⟨by omega, fun c => by unfold cont at c; omega⟩]; rfl
         ·rw [if_neg c4]
          rw [platenref01_Size.l0]
          rw [if_neg (by decide), hg, if_neg (fun e => e.2 (by unfold cont; omega))]
theorem platenref01_Size_spec (p : List Int) (i : Nat) (h : i < p.length) (hp : p.length ≤ 1000000000) (k : Nat) (hk : 12 < k) : platenref01_Size.f k p (i : Int) = some (gsz (p.drop i) : Int) := by
 obtain ⟨k, rfl⟩ : ∃ k', k = k' + 10 := ⟨k - 10, by omega⟩
 have h4 := size_j4 p i h hp
 unfold platenref01_Size.f
 rw [if_neg (by omega), decide_eq_false (by omega)]
 rw [platenref01_Size.j0]
 rw [if_neg (by simp), if_pos (by omega), if_pos (by omega), rd_nat p i h]
 generalize p[i] = b at *
 by_cases g1 : b ≥ 194 ∧ b ≤ 223
 ·have hn : need b = 2 := by unfold need; rw [if_pos (by omega)]
  rw [if_pos g1.1, decide_eq_true g1.2]
  rw [platenref01_Size.j1]
  rw [if_pos rfl, size_j3]
  rw [hn] at h4
  exact h4 (k + 1)
 ·have hj1 : (if b ≥ 194 then platenref01_Size.j1 (k + 9) p (i : Int) b 1 128 191 (decide (b ≤ 223)) else platenref01_Size.j1 (k + 9) p (i : Int) b 1 128 191 false) = platenref01_Size.j1 (k + 9) p (i : Int) b 1 128 191 false := by
   by_cases g : b ≥ 194
   ·rw [if_pos g, decide_eq_false (by omega)]
   ·rw [if_neg g]
  rw [hj1]
  rw [platenref01_Size.j1]
  rw [if_neg (by simp)]
  by_cases g2 : b ≥ 224 ∧ b ≤ 239
  ·have hn : need b = 3 := by unfold need; rw [if_neg (by omega), if_pos (by omega)]
   rw [if_pos g2.1, decide_eq_true g2.2]
   rw [platenref01_Size.j2]
   rw [if_pos rfl, size_j3]
   rw [hn] at h4
   exact h4 k
  ·have hj2 : (if b ≥ 224 then platenref01_Size.j2 (k + 8) p (i : Int) b 1 128 191 (decide (b ≤ 239)) else platenref01_Size.j2 (k + 8) p (i : Int) b 1 128 191 false) = platenref01_Size.j2 (k + 8) p (i : Int) b 1 128 191 false := by
    by_cases g : b ≥ 224
    ·rw [if_pos g, decide_eq_false (by omega)]
    ·rw [if_neg g]
   rw [hj2]
   rw [platenref01_Size.j2]
   rw [if_neg (by simp)]
   by_cases g3 : b ≥ 240 ∧ b ≤ 244
   ·have hn : need b = 4 := by unfold need; rw [if_neg (by omega), if_neg (by omega), if_pos (by omega)]
    rw [if_pos g3.1, if_pos g3.2, size_j3]
    rw [hn] at h4
    exact h4 k
   ·have hn : need b = 1 := by unfold need; rw [if_neg (by omega), if_neg (by omega), if_neg (by omega)]
    rw [hn] at h4
    by_cases g : b ≥ 240
    ·rw [if_pos g, if_neg (by omega), size_j3]; exact h4 k
    ·rw [if_neg g, size_j3]; exact h4 k
theorem words_Runs_l0 (p : List Int) (hp : p.length ≤ 1000000) (m : Nat) : ∀ (k i : Nat), i + m = p.length → m < k →
  words_Runs.l0 k p ((rn 0 (p.take i)).map mk) (i : Int) = some ((rn 0 p).map mk) := by
 induction m with
 | zero =>
  intro k i hi hk
  obtain ⟨k, rfl⟩ := ex_succ hk
  rw [words_Runs.l0, if_neg (by omega), List.take_of_length_le (by omega)]
 | succ m ih =>
  intro k i hi hk
  obtain ⟨k, rfl⟩ := ex_succ hk
  have hlt : i < p.length := by omega
  have hnext := ih k (i + 1) (by omega) (by omega)
  rw [List.take_succ_eq_append_getElem hlt] at hnext
  have hw1 : wrap64 ((i : Int) + 1) = ((i + 1 : Nat) : Int) := wnat (by omega)
  rw [words_Runs.l0, hw1]
  clear hw1
  rw [if_pos (by omega)]
  by_cases h0 : i = 0
  ·subst h0
   have e0 : (rn 0 (p.take 0)).map mk = [] := rfl
   rw [List.take_zero, List.nil_append, rn_one] at hnext
   rw [e0, if_neg (by simp [wrap64]), if_pos (by simp)]
   exact hnext
  ·have hne : p.take i ≠ [] := by intro e; have := congrArg List.length e; simp only [List.length_take, List.length_nil] at this; omega
   obtain ⟨l, a, n, h1, h2⟩ := rn_snoc (p.take i) p[i] 0 hne
   have hl1 := rn_length (p.take i) 0
   rw [h1] at hl1
   simp only [List.length_append, List.length_cons, List.length_nil, List.length_take] at hl1
   have hmem := rn_mem (p.take i) (a, n) (by rw [h1]; simp)
   simp only [List.length_take] at hmem
   have hnb : n ≤ 1000000 := by have := hmem.2; omega
   have hi1 : i - 1 < p.length := by omega
   rw [take_last p i (by omega) (by omega) hne] at h2
   simp only [List.length_take, Nat.zero_add] at h2
   rw [show min i p.length = i by omega] at h2
   rw [h2] at hnext
   rw [h1]
   have hll : l.length ≤ 1000000 := by omega
   have hlen : wrap64 ((((l ++ [(a, n)]).map mk).length : Int) - 1) = (l.length : Int) := by
    rw [show (((l ++ [(a, n)]).map mk).length : Int) - 1 = (l.length : Int) by simp]
    exact wid (by omega) (by omega)
   have hwi : wrap64 ((i : Int) - 1) = ((i - 1 : Nat) : Int) := by
    clear hlen
    rw [show (i : Int) - 1 = ((i - 1 : Nat) : Int) by omega]; exact wid (by omega) (by omega)
   have hrd : rd_T39 ((l ++ [(a, n)]).map mk) (l.length : Int) = mk (a, n) := by
    rw [rd_mk _ _ (by simp)]; simp
   have hlen2 : (((l ++ [(a, n)]).map mk).length : Int) = ((l.length + 1 : Nat) : Int) := by simp
   have hw1 : wrap64 ((mk (a, n)).f1 + 1) = ((n + 1 : Nat) : Int) := by clear hlen hwi; exact wnat (n := n) (by omega)
   have hcap : ((l ++ [(a, n)]).map mk).length < 8796093022208 := by
    clear hlen hwi hw1
    simp only [List.length_map, List.length_append, List.length_cons, List.length_nil]; omega
   rw [hlen, hwi, hrd, hw1, if_pos hcap, hlen2]
   clear hlen hwi hw1 hlen2
   rw [if_pos (by omega), if_pos (by omega), rd_nat p i hlt, words_Class_spec, Option.bind_some, if_pos (by omega), if_pos (by omega), rd_nat p (i - 1) hi1, words_Class_spec, Option.bind_some]
   by_cases hc : cls p[i - 1] = cls p[i]
   ·rw [if_pos hc] at hnext
    have hset : ((l ++ [(a, n)]).map mk).set ((l.length : Int)).toNat (⟨(mk (a, n)).f0, ((n + 1 : Nat) : Int)⟩ : S39) = (l ++ [(a, n + 1)]).map mk := by simp [mk]
    rw [if_pos hc.symm, if_pos (by omega), if_pos (by omega), hset]
    exact hnext
   ·rw [if_neg hc] at hnext
    have hset : ((l ++ [(a, n)]).map mk) ++ [(⟨(i : Int), 1⟩ : S39)] = (l ++ [(a, n)] ++ [(i, 1)]).map mk := by simp [mk]
    rw [if_neg (fun e => hc e.symm), hset]
    exact hnext
theorem words_Runs_spec (p : List Int) (hp : p.length ≤ 1000000) (k : Nat) (hk : p.length < k) : words_Runs.f k p = some ((rn 0 p).map mk) := by
 have := words_Runs_l0 p hp p.length k 0 (by omega) hk
 simpa [words_Runs.f, rn] using this
theorem getD_at (p : List Int) (i : Nat) (h : i < p.length) : p.getD i 0 = p[i] := by simp [List.getD_eq_getElem?_getD, h]
def wf (p : List Int) (L : List NN) : List NN := L.filter fun x => decide (2 ≤ cls (p.getD x.1 0))
theorem wf_cons (p : List Int) (x : NN) (L : List NN) (h : x.1 < p.length) : wf p (x :: L) = if 2 ≤ cls p[x.1] then x :: wf p L else wf p L := by
 unfold wf
 rw [List.filter_cons, getD_at p _ h]
 simp
def Good (p : List Int) (L : List NN) : Prop := ∀ x ∈ L, 1 ≤ x.2 ∧ x.1 + x.2 ≤ p.length
def lst (p : List Int) (a : Int) : List NN → Int × Bool
 | [] => ((0 : Int), false)
 | x :: r => if (x.1 : Int) + (x.2 : Int) - (lsz (p.take (x.1 + x.2)) : Int) > a then ((x.1 : Int) + (x.2 : Int) - (lsz (p.take (x.1 + x.2)) : Int), true) else lst p a r
theorem lsz_le (q : List Int) : lsz q ≤ 4 := by unfold lsz; (repeat' split) <;> omega
theorem words_Last_l0 (p : List Int) (bp : Bytes p) (hp : p.length ≤ 1000000) (a : Int) (L : List NN) (hL : Good p L) (hn : L.length ≤ 1000000) (m : Nat) : ∀ (k i : Nat), i + m = L.length → m + 8 < k →
  words_Last.l0 k p a (L.map mk) (L.length : Int) (i : Int) = some (lst p a (wf p (L.drop i))) := by
 induction m with
 | zero =>
  intro k i hi hk
  obtain ⟨k, rfl⟩ := ex_succ hk
  rw [words_Last.l0, if_neg (by omega), List.drop_eq_nil_of_le (by omega)]
  simp [wf, lst]
 | succ m ih =>
  intro k i hi hk
  obtain ⟨k, rfl⟩ := ex_succ hk
  have hlt : i < L.length := by omega
  have hg := hL _ (List.getElem_mem hlt)
  have hx : L[i].1 < p.length := by omega
  have hnext := ih k (i + 1) (by omega) (by omega)
  have hz := lsz_le (p.take (L[i].1 + L[i].2))
  have hpv := glyph_Prev_spec p bp (by omega) (L[i].1 + L[i].2) hg.2 k (by omega)
  have hw1 : wrap64 ((i : Int) + 1) = ((i + 1 : Nat) : Int) := wnat (by omega)
  have hw2 : wrap64 ((mk L[i]).f0 + (mk L[i]).f1) = ((L[i].1 + L[i].2 : Nat) : Int) := by
   clear hw1
   rw [show (mk L[i]).f0 + (mk L[i]).f1 = ((L[i].1 + L[i].2 : Nat) : Int) from rfl]
   exact wid (by omega) (by omega)
  have hw3 : wrap64 (((L[i].1 + L[i].2 : Nat) : Int) - (lsz (p.take (L[i].1 + L[i].2)) : Int)) = ((L[i].1 : Int) + (L[i].2 : Int) - (lsz (p.take (L[i].1 + L[i].2)) : Int)) := by
   clear hw1 hw2
   rw [Int.natCast_add]
   exact wid (by omega) (by omega)
  rw [words_Last.l0, List.length_map, rd_mk L i hlt, hw1, hw2, hpv, Option.bind_some, hw3, hnext]
  clear hw1 hw2 hw3 hnext hpv
  rw [if_pos (by omega), if_pos (by omega), if_pos (by omega), show (mk L[i]).f0 = ((L[i].1 : Nat) : Int) from rfl, if_pos (show (0 : Int) ≤ ((L[i].1 : Nat) : Int) by omega), if_pos (show ((L[i].1 : Nat) : Int) < (p.length : Int) by omega), rd_nat p _ hx, words_Class_spec, Option.bind_some, words_empty_spec, Option.bind_some, drop_at L i hlt, wf_cons p _ _ hx]
  by_cases hc : 2 ≤ cls p[L[i].1]
  ·rw [decide_eq_false (by omega), if_pos hc, if_neg (show ¬ false = true by simp), lst]
   split <;> rfl
  ·rw [decide_eq_true (by omega), if_neg hc, if_pos rfl]
   split <;> rfl
theorem words_Last_spec (p : List Int) (bp : Bytes p) (hp : p.length ≤ 1000000) (a : Int) (k : Nat) (hk : p.length + 8 < k) : words_Last.f k p a = some (lst p a (wrds p)) := by
 have hl := rn_length p 0
 unfold words_Last.f
 rw [words_Runs_spec p hp k (by omega), Option.bind_some, List.length_map]
 exact words_Last_l0 p bp hp a (rn 0 p) (rn_mem p) (by omega) (rn 0 p).length k 0 (by omega) (by omega)
theorem words_Forward_l0 (p : List Int) (hp : p.length ≤ 1000000) (a : Int) (L : List NN) (hL : Good p L) (hn : L.length ≤ 1000000) (m : Nat) : ∀ (k i : Nat), i + m = L.length → m < k →
  words_Forward.l0 k p a (L.map mk) (L.length : Int) (i : Int) = some (fwd p.length a (wf p (L.drop i)), true) := by
 induction m with
 | zero =>
  intro k i hi hk
  obtain ⟨k, rfl⟩ := ex_succ hk
  rw [words_Forward.l0, if_neg (by omega), List.drop_eq_nil_of_le (by omega)]
  simp [wf, fwd]
 | succ m ih =>
  intro k i hi hk
  obtain ⟨k, rfl⟩ := ex_succ hk
  have hlt : i < L.length := by omega
  have hg := hL _ (List.getElem_mem hlt)
  have hx : L[i].1 < p.length := by omega
  have hnext := ih k (i + 1) (by omega) (by omega)
  have hw1 : wrap64 ((i : Int) + 1) = ((i + 1 : Nat) : Int) := wnat (by omega)
  rw [words_Forward.l0, List.length_map, rd_mk L i hlt, hw1, hnext]
  clear hw1 hnext
  rw [if_pos (by omega), if_pos (by omega), if_pos (by omega), show (mk L[i]).f0 = ((L[i].1 : Nat) : Int) from rfl, if_pos (show (0 : Int) ≤ ((L[i].1 : Nat) : Int) by omega), if_pos (show ((L[i].1 : Nat) : Int) < (p.length : Int) by omega), rd_nat p _ hx, words_Class_spec, Option.bind_some, words_empty_spec, Option.bind_some, drop_at L i hlt, wf_cons p _ _ hx]
  by_cases hc : 2 ≤ cls p[L[i].1]
  ·rw [decide_eq_false (by omega), if_pos hc, if_neg (show ¬ false = true by simp), fwd]
   split <;> rfl
  ·rw [decide_eq_true (by omega), if_neg hc, if_pos rfl]
   split <;> rfl
theorem words_Forward_spec (p : List Int) (hp : p.length ≤ 1000000) (a : Int) (k : Nat) (hk : p.length + 1 < k) : words_Forward.f k p a = some (if a < 0 ∨ a ≥ (p.length : Int) then (0, false) else (fwd p.length a (wrds p), true)) := by
 obtain ⟨k, rfl⟩ : ∃ k', k = k' + 1 := ⟨k - 1, by omega⟩
 have hl := rn_length p 0
 unfold words_Forward.f
 by_cases h1 : a < 0
 ·rw [if_pos h1, if_pos (.inl h1), words_Forward.j0, if_pos rfl]
 ·rw [if_neg h1]
  by_cases h2 : a ≥ (p.length : Int)
  ·rw [decide_eq_true h2, if_pos (.inr h2), words_Forward.j0, if_pos rfl]
  ·rw [decide_eq_false h2, if_neg (by omega), words_Forward.j0, if_neg (by simp), words_Runs_spec p hp k (by omega), Option.bind_some, List.length_map]
   exact words_Forward_l0 p hp a (rn 0 p) (rn_mem p) (by omega) (rn 0 p).length k 0 (by omega) (by omega)
theorem words_Back_l0 (p : List Int) (hp : p.length ≤ 1000000) (a : Int) (L : List NN) (hL : Good p L) (hn : L.length ≤ 1000000) (m : Nat) : ∀ (k i : Nat) (d : Int), i + m = L.length → m < k →
  words_Back.l0 k p a d (L.map mk) (L.length : Int) (i : Int) = some (bck a d (wf p (L.drop i)), true) := by
 induction m with
 | zero =>
  intro k i d hi hk
  obtain ⟨k, rfl⟩ := ex_succ hk
  rw [words_Back.l0, if_neg (by omega), List.drop_eq_nil_of_le (by omega)]
  simp [wf, bck]
 | succ m ih =>
  intro k i d hi hk
  obtain ⟨k, rfl⟩ := ex_succ hk
  have hlt : i < L.length := by omega
  have hg := hL _ (List.getElem_mem hlt)
  have hx : L[i].1 < p.length := by omega
  have hnext := fun d => ih k (i + 1) d (by omega) (by omega)
  have hw1 : wrap64 ((i : Int) + 1) = ((i + 1 : Nat) : Int) := wnat (by omega)
  rw [words_Back.l0, List.length_map, rd_mk L i hlt, hw1, hnext, hnext]
  clear hw1 hnext
  rw [if_pos (by omega), if_pos (by omega), if_pos (by omega), show (mk L[i]).f0 = ((L[i].1 : Nat) : Int) from rfl, if_pos (show (0 : Int) ≤ ((L[i].1 : Nat) : Int) by omega), if_pos (show ((L[i].1 : Nat) : Int) < (p.length : Int) by omega), rd_nat p _ hx, words_Class_spec, Option.bind_some, words_empty_spec, Option.bind_some, drop_at L i hlt, wf_cons p _ _ hx]
  by_cases hc : 2 ≤ cls p[L[i].1]
  ·rw [decide_eq_false (by omega), if_pos hc, if_neg (show ¬ false = true by simp), bck]
   split <;> rfl
  ·rw [decide_eq_true (by omega), if_neg hc, if_pos rfl]
   split <;> rfl
theorem words_Back_spec (p : List Int) (hp : p.length ≤ 1000000) (a : Int) (k : Nat) (hk : p.length + 1 < k) : words_Back.f k p a = some (if a ≤ 0 ∨ a > (p.length : Int) then (0, false) else (bck a 0 (wrds p), true)) := by
 obtain ⟨k, rfl⟩ : ∃ k', k = k' + 1 := ⟨k - 1, by omega⟩
 have hl := rn_length p 0
 unfold words_Back.f
 by_cases h1 : a ≤ 0
 ·rw [if_pos h1, if_pos (.inl h1), words_Back.j0, if_pos rfl]
 ·rw [if_neg h1]
  by_cases h2 : a > (p.length : Int)
  ·rw [decide_eq_true h2, if_pos (.inr h2), words_Back.j0, if_pos rfl]
  ·rw [decide_eq_false h2, if_neg (by omega), words_Back.j0, if_neg (by simp), words_Runs_spec p hp k (by omega), Option.bind_some, List.length_map]
   exact words_Back_l0 p hp a (rn 0 p) (rn_mem p) (by omega) (rn 0 p).length k 0 0 (by omega) (by omega)
def wst (p : List Int) (key : Int) (a : Int) : Int × Bool := if key = 119 then (if a < 0 ∨ a ≥ (p.length : Int) then (0, false) else (fwd p.length a (wrds p), true)) else if key = 98 then (if a ≤ 0 ∨ a > (p.length : Int) then (0, false) else (bck a 0 (wrds p), true)) else lst p a (wrds p)
def wrd (p : List Int) (key : Int) (a : Nat) : Option Nat := if (wst p key (a : Int)).2 = true then some (wst p key (a : Int)).1.toNat else none
theorem fwd_facts (len : Nat) (a : Int) (h : a < (len : Int)) (L : List NN) (hL : ∀ x ∈ L, x.1 ≤ len) : a < fwd len a L ∧ fwd len a L ≤ (len : Int) := by
 induction L with
 | nil => exact ⟨h, Int.le_refl _⟩
 | cons x r ih =>
  rw [fwd]
  split
  ·have := hL x (by simp); omega
  ·exact ih fun y hy => hL y (by simp [hy])
theorem bck_facts (a : Int) (L : List NN) : ∀ d : Int, 0 ≤ d → d < a → 0 ≤ bck a d L ∧ bck a d L < a := by
 induction L with
 | nil => intro d h1 h2; exact ⟨h1, h2⟩
 | cons x r ih =>
  intro d h1 h2
  rw [bck]
  split
  ·exact ih _ (by omega) (by omega)
  ·exact ih _ h1 h2
theorem lst_facts (p : List Int) (a : Int) (L : List NN) (hL : ∀ x ∈ L, x.1 + x.2 ≤ p.length) (h : (lst p a L).2 = true) : a < (lst p a L).1 ∧ (lst p a L).1 ≤ (p.length : Int) := by
 induction L with
 | nil => simp [lst] at h
 | cons x r ih =>
  rw [lst] at h ⊢
  split
  ·rename_i g
   have := hL x (by simp)
   dsimp only
   omega
  ·rename_i g
   rw [if_neg g] at h
   exact ih (fun y hy => hL y (by simp [hy])) h
theorem wst_facts {p : List Int} {key : Int} {a : Nat} (ha : a ≤ p.length) (h : (wst p key (a : Int)).2 = true) : 0 ≤ (wst p key (a : Int)).1 ∧ (wst p key (a : Int)).1 ≤ (p.length : Int) ∧ (if key = 98 then (wst p key (a : Int)).1 < (a : Int) else (a : Int) < (wst p key (a : Int)).1) := by
 unfold wst at *
 by_cases h1 : key = 119
 ·rw [if_pos h1] at h ⊢
  rw [if_neg (show ¬ key = 98 by omega)]
  by_cases g : (a : Int) < 0 ∨ (a : Int) ≥ (p.length : Int)
  ·rw [if_pos g] at h; simp at h
  ·rw [if_neg g]
   have := fwd_facts p.length (a : Int) (by omega) (wrds p) (fun x hx => by have := wrds_mem p x hx; omega)
   dsimp only
   omega
 ·rw [if_neg h1] at h ⊢
  by_cases h2 : key = 98
  ·rw [if_pos h2] at h ⊢
   rw [if_pos h2]
   by_cases g : (a : Int) ≤ 0 ∨ (a : Int) > (p.length : Int)
   ·rw [if_pos g] at h; simp at h
   ·rw [if_neg g]
    have := bck_facts (a : Int) (wrds p) 0 (by omega) (by omega)
    dsimp only
    omega
  ·rw [if_neg h2] at h ⊢
   rw [if_neg h2]
   have := lst_facts p (a : Int) (wrds p) (fun x hx => (wrds_mem p x hx).2) h
   omega
theorem wrd_facts {p : List Int} {key : Int} {a b : Nat} (ha : a ≤ p.length) (h : wrd p key a = some b) : b ≤ p.length ∧ (if key = 98 then b < a else a < b) := by
 unfold wrd at h
 split at h
 ·rename_i g
  have hf := wst_facts ha g
  have := Option.some.inj h
  subst this
  refine ⟨by omega, ?_⟩
  by_cases e : key = 98
  ·rw [if_pos e] at hf ⊢; omega
  ·rw [if_neg e] at hf ⊢; omega
 ·simp at h
def isw (key : Int) : Prop := key = 119 ∨ key = 98 ∨ key = 101
theorem step_word (p : List Int) (hb : Bytes p) (hp : p.length ≤ 10000) (key : Int) (hw : isw key) (s n tab : Int) (a k : Nat) (ha : a ≤ p.length) (hk : 20010 < k) : motion_step.f k p (a : Int) key s n tab = some (stz (wrd p key a)) ∧ ∀ b, wrd p key a = some b → b ≤ p.length := by
 refine ⟨?_, fun b hb => (wrd_facts ha hb).1⟩
 obtain ⟨k, rfl⟩ := ex_succ (n := 0) (k := k) (by omega)
 obtain ⟨k, rfl⟩ := ex_succ (n := 0) (k := k) (by omega)
 have hf : ∀ x : Int × Bool, x = wst p key (a : Int) → (if x.2 = true then some (x.1, (0 : Int)) else some (0, 2)) = some (stz (wrd p key a)) := by
  intro x hx
  subst hx
  unfold wrd
  by_cases h : (wst p key (a : Int)).2 = true
  ·have := wst_facts ha h
   rw [if_pos h, if_pos h]
   show _ = some ((((wst p key (a : Int)).1.toNat : Nat) : Int), (0 : Int))
   rw [Int.toNat_of_nonneg this.1]
  ·rw [if_neg h, if_neg h]
   rfl
 rcases hw with rfl | rfl | rfl
 ·have e : motion_step.f (k + 1 + 1) p (a : Int) 119 s n tab = (words_Forward.f k p (a : Int)).bind fun bt => if bt.2 = true then some (bt.1, 0) else some (0, 2) := rfl
  rw [e, words_Forward_spec p (by omega) _ k (by omega), Option.bind_some]
  exact hf _ rfl
 ·have e : motion_step.f (k + 1 + 1) p (a : Int) 98 s n tab = (words_Back.f k p (a : Int)).bind fun bt => if bt.2 = true then some (bt.1, 0) else some (0, 2) := rfl
  rw [e, words_Back_spec p (by omega) _ k (by omega), Option.bind_some]
  exact hf _ rfl
 ·have e : motion_step.f (k + 1 + 1) p (a : Int) 101 s n tab = (words_Last.f k p (a : Int)).bind fun bt => if bt.2 = true then some (bt.1, 0) else some (0, 2) := rfl
  rw [e, words_Last_spec p hb (by omega) _ k (by omega), Option.bind_some]
  exact hf _ rfl
theorem startsF_len (p : List Int) (n : Nat) : ∀ x, (startsF n p x).length ≤ n := by
 induction n with
 | zero => intro x; simp [startsF]
 | succ n ih =>
  intro x; simp only [startsF]; split
  ·have := ih (x + gsz (p.drop x)); simp only [List.length_cons]; omega
  ·simp
theorem platenref01_Starts_l0 (p : List Int) (hp : p.length ≤ 1000000000) (n : Nat) : ∀ (k x : Nat) (acc : List Int), x ≤ p.length → p.length ≤ x + n → acc.length ≤ x → n + 14 < k →
  platenref01_Starts.l0 k p acc (x : Int) = some (acc ++ zs (startsF n p x)) := by
 induction n with
 | zero =>
  intro k x acc h1 h2 _ hk
  obtain ⟨k, rfl⟩ := ex_succ1 hk
  rw [platenref01_Starts.l0, if_neg (by omega)]
  simp [startsF, zs]
 | succ n ih =>
  intro k x acc h1 h2 ha hk
  obtain ⟨k, rfl⟩ := ex_succ1 hk
  rw [platenref01_Starts.l0]
  simp only [startsF]
  by_cases h : x < p.length
  ·have hg := gd_pos p x h
   have hle := gd_le p x h1
   have hnext := ih k (x + gsz (p.drop x)) (acc ++ [(x : Int)]) hle (by omega) (by simp only [List.length_append, List.length_cons, List.length_nil]; omega) (by omega)
   rw [if_pos (by omega), if_pos (by omega), if_pos h, platenref01_Size_spec p x h hp k (by omega), Option.bind_some]
   have hw : wrap64 ((x : Int) + (gsz (p.drop x) : Int)) = ((x + gsz (p.drop x) : Nat) : Int) := by
    rw [← Int.natCast_add]; exact wid (by omega) (by omega)
   rw [hw, hnext]
   simp [zs]
  ·rw [if_neg (by omega), if_neg h]; simp [zs]
theorem platenref01_Starts_spec (p : List Int) (hp : p.length ≤ 1000000000) (k : Nat) (hk : p.length + 14 < k) : platenref01_Starts.f k p = some (zs (starts p)) := by
 have := platenref01_Starts_l0 p hp p.length k 0 [] (by omega) (by omega) (by simp) hk
 simpa [platenref01_Starts.f, starts] using this
theorem platenref01_Floor_l0 (p : List Int) (a : Nat) (ha : a < p.length) (hp : p.length ≤ 1000000000) (n : Nat) : ∀ (k x idx : Nat) (S : List Nat) (acc : Int), Bd p x → p.length ≤ x + n → idx ≤ S.length → S.length ≤ 1000000000 → S.drop idx = startsF n p x → n < k →
  platenref01_Floor.l0 k (a : Int) acc (zs S) (idx : Int) = some (if a < x then acc else (flo p a : Int)) := by
 induction n with
 | zero =>
  intro k x idx S acc hx h2 hi hS hd hk
  obtain ⟨k, rfl⟩ := ex_succ1 hk
  have := congrArg List.length hd
  simp only [List.length_drop, startsF, List.length_nil] at this
  rw [platenref01_Floor.l0, zs_len, if_neg (by omega), if_pos (by omega)]
 | succ n ih =>
  intro k x idx S acc hx h2 hi hS hd hk
  obtain ⟨k, rfl⟩ := ex_succ1 hk
  simp only [startsF] at hd
  by_cases h : x < p.length
  ·rw [if_pos h] at hd
   have hlen := congrArg List.length hd
   simp only [List.length_drop, List.length_cons] at hlen
   have hlt : idx < S.length := by omega
   rw [drop_at S idx hlt, List.cons.injEq] at hd
   obtain ⟨e1, e2⟩ := hd
   have hg := gd_pos p x h
   have hnext := fun acc => ih k (x + gsz (p.drop x)) (idx + 1) S acc (hx.next h) (by omega) (by omega) hS e2 (by omega)
   rw [platenref01_Floor.l0, zs_len, if_pos (by omega), if_pos (by omega), rd_zs S idx hlt, e1]
   have hw : wrap64 ((idx : Int) + 1) = ((idx + 1 : Nat) : Int) := wnat (by omega)
   rw [hw, hnext, hnext]
   clear hw
   by_cases c : a < x
   ·rw [if_neg (by omega), if_pos (by omega), if_pos c]
   ·rw [if_pos (by omega), if_neg c]
    by_cases c2 : a < x + gsz (p.drop x)
    ·rw [if_pos c2, flo_bd hx h a (by omega) c2]
    ·rw [if_neg c2]
  ·rw [if_neg h] at hd
   have := congrArg List.length hd
   simp only [List.length_drop, List.length_nil] at this
   rw [platenref01_Floor.l0, zs_len, if_neg (by omega), if_pos (by omega)]
theorem platenref01_Floor_neg (a : Int) (ha : a < 0) (S : List Nat) (hS : S.length ≤ 1000000000) (n : Nat) : ∀ (k idx : Nat) (acc : Int), idx + n = S.length → n < k → platenref01_Floor.l0 k a acc (zs S) (idx : Int) = some acc := by
 induction n with
 | zero =>
  intro k idx acc hi hk
  obtain ⟨k, rfl⟩ := ex_succ1 hk
  rw [platenref01_Floor.l0, zs_len, if_neg (by omega)]
 | succ n ih =>
  intro k idx acc hi hk
  obtain ⟨k, rfl⟩ := ex_succ1 hk
  have hlt : idx < S.length := by omega
  have hnext := ih k (idx + 1) acc (by omega) (by omega)
  rw [platenref01_Floor.l0, zs_len, if_pos (by omega), if_pos (by omega), rd_zs S idx hlt, if_neg (by omega)]
  have hw : wrap64 ((idx : Int) + 1) = ((idx + 1 : Nat) : Int) := wnat (by omega)
  rw [hw, hnext]
theorem platenref01_Floor_spec (p : List Int) (hp : p.length ≤ 1000000000) (a : Int) (k : Nat) (hk : p.length + 14 < k) : platenref01_Floor.f k p a = some (flo p (clip p a) : Int) := by
 have hsl := startsF_len p p.length 0
 unfold platenref01_Floor.f
 by_cases h : a ≥ (p.length : Int)
 ·have : clip p a = p.length := by unfold clip; omega
  rw [if_pos h, this, flo_self (Bd.end_ p)]
 ·rw [if_neg h, platenref01_Starts_spec p hp k hk, Option.bind_some]
  by_cases h0 : a < 0
  ·have : clip p a = 0 := by unfold clip; omega
   rw [this, flo_self .zero]
   exact platenref01_Floor_neg a h0 (starts p) (by unfold starts; omega) (starts p).length k 0 0 (by omega) (by unfold starts; omega)
  ·have hc : clip p a = a.toNat := by unfold clip; omega
   have := platenref01_Floor_l0 p a.toNat (by omega) hp p.length k 0 0 (starts p) 0 .zero (by omega) (by omega) (by unfold starts; omega) rfl (by omega)
   rw [show ((a.toNat : Nat) : Int) = a by omega, if_neg (by omega)] at this
   rw [hc]
   exact this
theorem steps19_at : platenlaw19_steps.f 60 = some true := by kernel_rfl
theorem steps19_spec (k : Nat) (hk : 60 ≤ k) : platenlaw19_steps.f k = some true := by
 induction hk with
 | refl => exact steps19_at
 | step _ ih => exact platenlaw19_steps.mono _ _ ih
end Go.Proofs.YtloafpnniooliaaDoor.Ad
namespace Go.Proofs.YtloafpnniooliaaDoor.Pure
open Go Go.RowKit Go.Proofs.YtloafpnniooliaaDoor.Pa Go.Proofs.YtloafpnniooliaaDoorW.PrintWords Go.Proofs.YtloafpnniooliaaDoorW.PrintLast Go.Proofs.YtloafpnniooliaaDoorW.PrintMore Go.Proofs.YtloafpnniooliaaDoor.Gen Go.Proofs.YtloafpnniooliaaDoor.Ad
set_option linter.unusedVariables false
set_option linter.unusedSimpArgs false
theorem itr_Q {f : Nat → Option Nat} {Q : Nat → Prop} (hf : ∀ a b, Q a → f a = some b → Q b) (n : Nat) : ∀ {a b : Nat}, Q a → itr f n a = some b → Q b := by
 induction n with
 | zero => intro a b h e; have := Option.some.inj e; subst this; exact h
 | succ n ih =>
  intro a b h e
  rw [itr] at e
  cases g : f a with
  | none => rw [g] at e; simp at e
  | some c => rw [g, Option.bind_some] at e; exact ih (hf a c h g) e
theorem sgn_mu {p : List Int} {on : Bool} {a b : Nat} (h : Bd p a) (hs : sgn p on a = some b) : (if on then p.length - b else b) < (if on then p.length - a else a) := by
 have hle := h.le
 have hb := (sgn_facts h hs).1.le
 have hfe := fr_en hle
 unfold sgn at hs
 cases on with
 | true =>
  rw [if_pos rfl] at hs
  rw [if_pos rfl, if_pos rfl]
  split at hs
  ·have := Option.some.inj hs
   have := gd_pos p a (by omega)
   omega
  ·simp at hs
 | false =>
  rw [if_neg Bool.false_ne_true] at hs
  rw [if_neg Bool.false_ne_true, if_neg Bool.false_ne_true]
  split at hs
  ·have := Option.some.inj hs
   obtain ⟨c, _, h3, _, _, h6⟩ := last_sign h (by omega)
   omega
  ·simp at hs
theorem fwd_bd {p : List Int} (a : Int) (L : List NN) (hL : ∀ x ∈ L, Bd p x.1) : ∃ b : Nat, fwd p.length a L = (b : Int) ∧ Bd p b := by
 induction L with
 | nil => exact ⟨p.length, rfl, Bd.end_ p⟩
 | cons x r ih =>
  rw [fwd]
  split
  ·exact ⟨x.1, rfl, hL x (by simp)⟩
  ·exact ih fun y hy => hL y (by simp [hy])
theorem bck_bd {p : List Int} (a : Int) (L : List NN) (hL : ∀ x ∈ L, Bd p x.1) : ∀ d : Nat, Bd p d → ∃ b : Nat, bck a (d : Int) L = (b : Int) ∧ Bd p b := by
 induction L with
 | nil => intro d hd; exact ⟨d, rfl, hd⟩
 | cons x r ih =>
  intro d hd
  rw [bck]
  split
  ·exact ih (fun y hy => hL y (by simp [hy])) x.1 (hL x (by simp))
  ·exact ih (fun y hy => hL y (by simp [hy])) d hd
theorem lst_bd {p : List Int} (a : Int) (L : List NN) (hL : ∀ x ∈ L, 1 ≤ x.2 ∧ Bd p (x.1 + x.2)) (h : (lst p a L).2 = true) : ∃ b : Nat, (lst p a L).1 = (b : Int) ∧ Bd p b := by
 induction L with
 | nil => simp [lst] at h
 | cons x r ih =>
  rw [lst] at h ⊢
  split
  ·have hx := hL x (by simp)
   obtain ⟨c, h1, h2, h3, h4, h5⟩ := last_sign hx.2 (by omega)
   exact ⟨c, by dsimp only; omega, h1⟩
  ·rename_i g
   rw [if_neg g] at h
   exact ih (fun y hy => hL y (by simp [hy])) h
theorem wrd_bd {p : List Int} {key : Int} {a b : Nat} (h : wrd p key a = some b) : Bd p b := by
 unfold wrd at h
 split at h
 ·rename_i g
  have e := Option.some.inj h
  clear h
  unfold wst at g e
  by_cases h1 : key = 119
  ·rw [if_pos h1] at g e
   split at g
   ·simp at g
   ·rename_i g2
    rw [if_neg g2] at e
    obtain ⟨c, e2, hc⟩ := fwd_bd (p := p) (a : Int) (wrds p) (fun x hx => (bd_wrds hx).1)
    dsimp only at e
    rw [e2, Int.toNat_natCast] at e
    rw [← e]; exact hc
  ·rw [if_neg h1] at g e
   by_cases h2 : key = 98
   ·rw [if_pos h2] at g e
    split at g
    ·simp at g
    ·rename_i g2
     rw [if_neg g2] at e
     obtain ⟨c, e2, hc⟩ := bck_bd (p := p) (a : Int) (wrds p) (fun x hx => (bd_wrds hx).1) 0 Bd.zero
     dsimp only at e
     rw [show ((0 : Nat) : Int) = 0 from rfl] at e2
     rw [e2, Int.toNat_natCast] at e
     rw [← e]; exact hc
   ·rw [if_neg h2] at g e
    obtain ⟨c, e2, hc⟩ := lst_bd (a : Int) (wrds p) (fun x hx => ⟨(wrds_mem p x hx).1, (bd_wrds hx).2⟩) g
    rw [e2, Int.toNat_natCast] at e
    rw [← e]; exact hc
 ·simp at h
theorem dst_bd {p : List Int} {key n tab : Int} {a b : Nat} (h : dst p key n tab a = some b) : Bd p b := by
 unfold dst at h
 cases e : dln p (row p a) (dno key n) with
 | none => rw [e] at h; simp at h
 | some r =>
  rw [e, Option.map_some] at h
  have hr := (dln_lt e).1
  have h := Option.some.inj h
  split at h
  ·rw [← h]; exact bd_dend hr
  ·rw [← h]; exact bd_in hr (at_facts _ _ _).1
def keysL : List Int := [104, 108, 48, 94, 36, 106, 107, 119, 98, 101, 123, 125, 102, 116, 103, 71]
theorem go_any (p : List Int) (hb : Bytes p) (hp : p.length ≤ 10000) (a s n tab : Int) (ht : tab ≤ 1000) (hs0 : 0 ≤ s) (hs1 : s ≤ 255) (h0 : -9223372036854775808 ≤ n) (h1 : n ≤ 9223372036854775807) (key : Int) (hk : key ∈ keysL) (k : Nat) (hkk : 80000 < k) : ∃ (o : Option Nat) (l w : Bool), motion_Go.f k p a key s n tab = some (goz l w o) ∧ ∀ b, o = some b → Bd p b := by
 have hfl := flo_facts (clip_le p a)
 have sg : ∀ on, ∃ (o : Option Nat) (l w : Bool), motion_Go.f k p a (sgk on) s n tab = some (goz l w o) ∧ ∀ b, o = some b → Bd p b := by
  intro on
  have := motion_Go_many p hb hp a tab (sgk on) s n (by cases on <;> decide) (by cases on <;> decide) h1 (sgn p on) (Bd p) (fun x => if on then p.length - x else x) 20010 (fun a k ha hk => ⟨(motion_step_sgn p hb hp on s n tab a k ha hk).1, fun b e => ⟨(sgn_facts ha e).1, sgn_mu ha e⟩⟩) hfl.1 (fun x hx => by have := hx.le; split <;> omega) k (by omega)
  exact ⟨_, _, _, this, fun b e => (itr_sgn _ hfl.1 e).1⟩
 have wd : ∀ key, isw key → ∃ (o : Option Nat) (l w : Bool), motion_Go.f k p a key s n tab = some (goz l w o) ∧ ∀ b, o = some b → Bd p b := by
  intro key hw
  have := motion_Go_many p hb hp a tab key s n (by rcases hw with rfl | rfl | rfl <;> decide) (by rcases hw with rfl | rfl | rfl <;> decide) h1 (wrd p key) (Bd p) (fun x => if key = 98 then x else p.length - x) 20010 (fun a k ha hk => ⟨(step_word p hb hp key hw s n tab a k ha.le hk).1, fun b e => ⟨wrd_bd e, by
   have hf := wrd_facts ha.le e
   have := ha.le
   by_cases g : key = 98
   ·rw [if_pos g] at hf ⊢; rw [if_pos g]; omega
   ·rw [if_neg g] at hf ⊢; rw [if_neg g]; omega⟩⟩) hfl.1 (fun x hx => by have := hx.le; split <;> omega) k (by omega)
  exact ⟨_, _, _, this, fun b e => itr_Q (Q := Bd p) (fun a b _ e => wrd_bd e) _ hfl.1 e⟩
 have pg : ∀ on, ∃ (o : Option Nat) (l w : Bool), motion_Go.f k p a (pgk on) s n tab = some (goz l w o) ∧ ∀ b, o = some b → Bd p b := by
  intro on
  have := motion_Go_many p hb hp a tab (pgk on) s n (by cases on <;> decide) (by cases on <;> decide) h1 (pgr p on) (Bd p) (fun x => if on then p.length - x else x) 50010 (fun a k ha hk => ⟨step_para p hb hp on s n tab a k ha.le hk, fun b e => ⟨(pgr_facts ha.le e).1, by
   have hf := pgr_facts ha.le e
   have h2 := hf.1.le
   cases on with
   | true => rw [if_pos rfl] at hf ⊢; rw [if_pos rfl]; omega
   | false => rw [if_neg Bool.false_ne_true] at hf ⊢; rw [if_neg Bool.false_ne_true]; omega⟩⟩) hfl.1 (fun x hx => by have := hx.le; split <;> omega) k (by omega)
  exact ⟨_, _, _, this, fun b e => itr_Q (Q := Bd p) (fun a b ha e => (pgr_facts ha.le e).1) _ hfl.1 e⟩
 have dn : ∀ key, (key = 106 ∨ key = 107 ∨ key = 36) → ∃ (o : Option Nat) (l w : Bool), motion_Go.f k p a key s n tab = some (goz l w o) ∧ ∀ b, o = some b → Bd p b := by
  intro key hkey
  exact ⟨_, _, _, motion_Go_down p hb hp key hkey a s n tab ht h1 k (by omega), fun b e => dst_bd e⟩
 have fd : ∀ key, (key = 102 ∨ key = 116) → ∃ (o : Option Nat) (l w : Bool), motion_Go.f k p a key s n tab = some (goz l w o) ∧ ∀ b, o = some b → Bd p b := by
  intro key hkey
  exact ⟨_, _, _, motion_Go_find p hb hp key hkey a s n tab hs0 hs1 h1 k (by omega), fun b e => (fstp_facts hfl.1 (by omega) e).1⟩
 have ln : ∀ key, (key = 71 ∨ key = 103) → ∃ (o : Option Nat) (l w : Bool), motion_Go.f k p a key s n tab = some (goz l w o) ∧ ∀ b, o = some b → Bd p b := by
  intro key hkey
  refine ⟨_, _, _, motion_Go_line p hb hp key hkey a s n tab h0 h1 k (by omega), ?_⟩
  intro b e
  cases g : dln p 0 (lno p key n - 1) with
  | none => rw [g] at e; simp at e
  | some r =>
   rw [g, Option.map_some] at e
   have := Option.some.inj e
   subst this
   exact bd_in (dln_lt g).1 (bd_ind _ _ (Nat.le_refl _))
 have hr := row_lt p (flo p (clip p a))
 have on0 : ∃ (o : Option Nat) (l w : Bool), motion_Go.f k p a 48 s n tab = some (goz l w o) ∧ ∀ b, o = some b → Bd p b := by
  refine ⟨_, _, _, motion_Go_one p hb hp a tab 48 s n (by decide) (by decide) rfl _ 20010 (fun k hk => step_zero p hb hp s n tab _ k hfl.1.le hk) k (by omega), ?_⟩
  intro b e
  have := Option.some.inj e
  subst this
  exact bd_line hr
 have on1 : ∃ (o : Option Nat) (l w : Bool), motion_Go.f k p a 94 s n tab = some (goz l w o) ∧ ∀ b, o = some b → Bd p b := by
  refine ⟨_, _, _, motion_Go_one p hb hp a tab 94 s n (by decide) (by decide) rfl _ 20010 (fun k hk => step_hat p hb hp s n tab _ k hfl.1.le hk) k (by omega), ?_⟩
  intro b e
  have := Option.some.inj e
  subst this
  exact bd_in hr (bd_ind _ _ (Nat.le_refl _))
 unfold keysL at hk
 simp only [List.mem_cons, List.not_mem_nil, or_false] at hk
 rcases hk with rfl | rfl | rfl | rfl | rfl | rfl | rfl | rfl | rfl | rfl | rfl | rfl | rfl | rfl | rfl | rfl
 ·exact sg false
 ·exact sg true
 ·exact on0
 ·exact on1
 ·exact dn 36 (by decide)
 ·exact dn 106 (by decide)
 ·exact dn 107 (by decide)
 ·exact wd 119 (.inl rfl)
 ·exact wd 98 (.inr (.inl rfl))
 ·exact wd 101 (.inr (.inr rfl))
 ·exact pg false
 ·exact pg true
 ·exact fd 102 (.inl rfl)
 ·exact fd 116 (.inr rfl)
 ·exact ln 103 (.inr rfl)
 ·exact ln 71 (.inl rfl)
theorem MotionPlaces : platenlaw19_MotionPlaces.Pure := by
 intro p a z s n _ _ hp ha hz hs hn
 have bp := bytes_of hp
 have bz := u8_of hz
 have bs := u8_of hs
 have bn := i64_of hn
 clear ha hz hs hn
 refine ⟨80006, ?_⟩
 unfold platenlaw19_MotionPlaces.f
 rw [steps19_spec 80006 (by omega), Option.bind_some, if_pos rfl]
 by_cases h : (p.length : Int) > 200
 ·rw [decide_eq_true h, platenlaw19_MotionPlaces.j0, if_pos rfl, steps19_spec 80005 (by omega), Option.bind_some]
 ·have w1 : wrap64 z = z := wid (by omega) (by omega)
  obtain ⟨z, rfl⟩ : ∃ y : Nat, z = (y : Int) := ⟨z.toNat, by clear w1; omega⟩
  have hz := Nat.mod_lt z (show 0 < 16 by decide)
  have e3 : Int.tmod (z : Int) 16 = ((z % 16 : Nat) : Int) := (Int.ofNat_tmod z 16).symm
  have hkey : bt (⟨#[104, 108, 48, 94, 36, 106, 107, 119, 98, 101, 123, 125, 102, 116, 103, 71]⟩ : ByteArray) ((z % 16 : Nat) : Int) ∈ keysL := by
   generalize z % 16 = y at hz
   have : y = 0 ∨ y = 1 ∨ y = 2 ∨ y = 3 ∨ y = 4 ∨ y = 5 ∨ y = 6 ∨ y = 7 ∨ y = 8 ∨ y = 9 ∨ y = 10 ∨ y = 11 ∨ y = 12 ∨ y = 13 ∨ y = 14 ∨ y = 15 := by clear w1; omega
   rcases this with rfl | rfl | rfl | rfl | rfl | rfl | rfl | rfl | rfl | rfl | rfl | rfl | rfl | rfl | rfl | rfl <;> decide
  rw [decide_eq_false h, platenlaw19_MotionPlaces.j0, if_neg (by simp), w1, e3]
  clear w1 e3
  rw [if_pos (by omega), if_pos (by omega)]
  generalize bt (⟨#[104, 108, 48, 94, 36, 106, 107, 119, 98, 101, 123, 125, 102, 116, 103, 71]⟩ : ByteArray) ((z % 16 : Nat) : Int) = key at *
  obtain ⟨o, l, w, hg, hbd⟩ := go_any p bp (by omega) a s n 8 (by omega) bs.1 bs.2 bn.1 bn.2 key hkey 80005 (by omega)
  rw [hg, Option.bind_some]
  cases o with
  | none => rfl
  | some b =>
   have hb := hbd b rfl
   have hle := hb.le
   have hgz : goz l w (some b) = ((b : Int), l, w, 0) := rfl
   rw [hgz]
   refine (if_pos rfl).trans ?_
   dsimp only
   rw [if_pos (by omega), if_pos (by omega), platenref01_Floor_spec p (by omega) _ 80005 (by omega), Option.bind_some]
   have hc : clip p (b : Int) = b := by unfold clip; omega
   rw [hc, flo_self hb]
   simp
end Go.Proofs.YtloafpnniooliaaDoor.Pure
