/- Proved: f comes to a sign in the line, t one sign ahead of it, for any bytes, places, signs and numbers. -/
import Derived.Test.YtloafpnniooliaaDoorExtBytes
import Derived.Test.YtloafpnniooliaaDoorExtTabs
import Derived.Test.YtloafpnniooliaaDoorPax10
import Derived.Test.YtloafpnniooliaaDoorPax11
import Derived.Test.YtloafpnniooliaaDoorPax12
import Derived.Test.YtloafpnniooliaaDoorPax13
import Derived.Test.YtloafpnniooliaaDoorPax14
import Derived.Test.YtloafpnniooliaaDoorPax2
import Derived.Test.YtloafpnniooliaaDoorPax28
import Derived.Test.YtloafpnniooliaaDoorPax3
import Derived.Test.YtloafpnniooliaaDoorPax4
import Derived.Test.YtloafpnniooliaaDoorPax8
import Derived.Test.YtloafpnniooliaaDoorPax9
import Derived.Test.YtloafpnniooliaaDoorGenMotionFinds
namespace Go.Proofs.YtloafpnniooliaaDoor.Ad
open Go Go.RowKit Go.Proofs.YtloafpnniooliaaDoor.Pa Go.Proofs.YtloafpnniooliaaDoorW.PrintWords Go.Proofs.YtloafpnniooliaaDoorW.PrintLast Go.Proofs.YtloafpnniooliaaDoorW.PrintMore Go.Proofs.YtloafpnniooliaaDoor.Gen
set_option linter.unusedVariables false
set_option linter.unusedSimpArgs false
theorem ex_succ' {k n : Nat} (h : n < k) : ∃ m, k = m + 1 := ⟨k - 1, by omega⟩
theorem slow_sz (n b0 b1 b2 b3 sz lo hi : Nat) : (Lib.slowN n b0 b1 b2 b3 sz lo hi).2 =
  if n < sz ∨ (b1 < lo ∨ hi < b1) then 1 else if sz ≤ 2 then 2 else if b2 < 128 ∨ 191 < b2 then 1 else if sz ≤ 3 then 3 else if b3 < 128 ∨ 191 < b3 then 1 else 4 := by
 unfold Lib.slowN
 by_cases h1 : n < sz
 ·simp [h1]
 ·by_cases h2 : b1 < lo ∨ hi < b1
  ·simp [h1, h2]
  ·simp only [h1, h2, if_false, or_self]
   (repeat' split) <;> rfl
def szN (n b0 b1 b2 b3 : Nat) : Nat :=
 if need (b0 : Int) = 2 ∧ 2 ≤ n ∧ lo2 (b0 : Int) ≤ (b1 : Int) ∧ (b1 : Int) ≤ hi2 (b0 : Int) then 2
 else if need (b0 : Int) = 3 ∧ 3 ≤ n ∧ lo2 (b0 : Int) ≤ (b1 : Int) ∧ (b1 : Int) ≤ hi2 (b0 : Int) ∧ cont (b2 : Int) then 3
 else if need (b0 : Int) = 4 ∧ 4 ≤ n ∧ lo2 (b0 : Int) ≤ (b1 : Int) ∧ (b1 : Int) ≤ hi2 (b0 : Int) ∧ cont (b2 : Int) ∧ cont (b3 : Int) then 4 else 1
set_option maxHeartbeats 4000000 in
theorem decN_sz (n b0 b1 b2 b3 : Nat) (hn : 1 ≤ n) (h0 : b0 < 256) (h1 : b1 < 256) (h2 : b2 < 256) (h3 : b3 < 256) : (Lib.decodeN n b0 b1 b2 b3).2 = szN n b0 b1 b2 b3 := by
 have one : ∀ b : Nat, need (b : Int) = 1 → szN n b b1 b2 b3 = 1 := by
  intro b hb; simp [szN, hb]
 have slow : Lib.firstT b0 < 240 → (Lib.decodeN n b0 b1 b2 b3).2 = szN n b0 b1 b2 b3 := by
  intro hx
  rw [← Lib.slow_eq n b0 b1 b2 b3 hn h1 h2 h3 hx, slow_sz]
  rcases Lib.firstT_low hx with h | h | h | h | h | h | h
  ·rw [Lib.firstT_C2 h]
   have e : need (b0 : Int) = 2 := by unfold need; rw [if_pos (by omega)]
   have el : lo2 (b0 : Int) = 128 := by unfold lo2; rw [if_neg (by omega), if_neg (by omega)]
   have eh : hi2 (b0 : Int) = 191 := by unfold hi2; rw [if_neg (by omega), if_neg (by omega)]
   simp only [szN, e, el, eh, Lib.accLo, Lib.accHi, cont]
   simp (decide := true) only [if_true, if_false, true_and, false_and, Nat.reduceDiv, Nat.reduceMod]
   (repeat' split) <;> omega
  ·subst h
   simp only [szN, show need ((224 : Nat) : Int) = 3 by decide, show lo2 ((224 : Nat) : Int) = 160 by decide, show hi2 ((224 : Nat) : Int) = 191 by decide, show Lib.firstT 224 = 19 by decide, Lib.accLo, Lib.accHi, cont]
   simp (decide := true) only [if_true, if_false, true_and, false_and, Nat.reduceDiv, Nat.reduceMod]
   (repeat' split) <;> omega
  ·rw [Lib.firstT_E1 h]
   have e : need (b0 : Int) = 3 := by unfold need; rw [if_neg (by omega), if_pos (by omega)]
   have el : lo2 (b0 : Int) = 128 := by unfold lo2; rw [if_neg (by omega), if_neg (by omega)]
   have eh : hi2 (b0 : Int) = 191 := by unfold hi2; rw [if_neg (by omega), if_neg (by omega)]
   simp only [szN, e, el, eh, Lib.accLo, Lib.accHi, cont]
   simp (decide := true) only [if_true, if_false, true_and, false_and, Nat.reduceDiv, Nat.reduceMod]
   (repeat' split) <;> omega
  ·subst h
   simp only [szN, show need ((237 : Nat) : Int) = 3 by decide, show lo2 ((237 : Nat) : Int) = 128 by decide, show hi2 ((237 : Nat) : Int) = 159 by decide, show Lib.firstT 237 = 35 by decide, Lib.accLo, Lib.accHi, cont]
   simp (decide := true) only [if_true, if_false, true_and, false_and, Nat.reduceDiv, Nat.reduceMod]
   (repeat' split) <;> omega
  ·subst h
   simp only [szN, show need ((240 : Nat) : Int) = 4 by decide, show lo2 ((240 : Nat) : Int) = 144 by decide, show hi2 ((240 : Nat) : Int) = 191 by decide, show Lib.firstT 240 = 52 by decide, Lib.accLo, Lib.accHi, cont]
   simp (decide := true) only [if_true, if_false, true_and, false_and, Nat.reduceDiv, Nat.reduceMod]
   (repeat' split) <;> omega
  ·rw [Lib.firstT_F1 h]
   have e : need (b0 : Int) = 4 := by unfold need; rw [if_neg (by omega), if_neg (by omega), if_pos (by omega)]
   have el : lo2 (b0 : Int) = 128 := by unfold lo2; rw [if_neg (by omega), if_neg (by omega)]
   have eh : hi2 (b0 : Int) = 191 := by unfold hi2; rw [if_neg (by omega), if_neg (by omega)]
   simp only [szN, e, el, eh, Lib.accLo, Lib.accHi, cont]
   simp (decide := true) only [if_true, if_false, true_and, false_and, Nat.reduceDiv, Nat.reduceMod]
   (repeat' split) <;> omega
  ·subst h
   simp only [szN, show need ((244 : Nat) : Int) = 4 by decide, show lo2 ((244 : Nat) : Int) = 128 by decide, show hi2 ((244 : Nat) : Int) = 143 by decide, show Lib.firstT 244 = 68 by decide, Lib.accLo, Lib.accHi, cont]
   simp (decide := true) only [if_true, if_false, true_and, false_and, Nat.reduceDiv, Nat.reduceMod]
   (repeat' split) <;> omega
 by_cases ha : b0 < 128
 ·have hx : Lib.firstT b0 = 240 := by unfold Lib.firstT; rw [if_pos ha]
  rw [Lib.ascii_eq n b0 b1 b2 b3 hx, one b0 (by unfold need; rw [if_neg (by omega), if_neg (by omega), if_neg (by omega)])]
 ·by_cases hb : b0 < 194 ∨ 244 < b0
  ·have hx : Lib.firstT b0 = 241 := by unfold Lib.firstT; (repeat' split) <;> omega
   rw [Lib.bad_eq n b0 b1 b2 b3 h0 hx, one b0 (by unfold need; rw [if_neg (by omega), if_neg (by omega), if_neg (by omega)])]
  ·have hx : Lib.firstT b0 < 240 := by
    clear slow one
    have e1 : 194 ≤ b0 := by omega
    have e2 : b0 ≤ 244 := by omega
    clear hb
    unfold Lib.firstT
    (repeat' split) <;> omega
   exact slow hx
theorem decL_sz (l : List Int) (hb : Bytes l) : (decL l).2 = gsz l := by
 have nat : ∀ x ∈ l, ∃ n : Nat, n < 256 ∧ x = (n : Int) := fun x hx => ⟨x.toNat, by have := hb x hx; omega, by have := hb x hx; omega⟩
 match l, nat with
 | [], _ => rfl
 | [b], nat =>
  obtain ⟨b0, h0, rfl⟩ := nat b (by simp)
  simp only [decL, List.length_cons, List.length_nil, List.getD_cons_zero, List.getD_cons_succ, List.getD_nil, Int.toNat_natCast]
  rw [if_neg (by omega), decN_sz _ _ _ _ _ (by omega) h0 (by simp) (by simp) (by simp)]
  simp [szN, gsz]
 | [b, c], nat =>
  obtain ⟨b0, h0, rfl⟩ := nat b (by simp)
  obtain ⟨b1, h1, rfl⟩ := nat c (by simp)
  simp only [decL, List.length_cons, List.length_nil, List.getD_cons_zero, List.getD_cons_succ, List.getD_nil, Int.toNat_natCast]
  rw [if_neg (by omega), decN_sz _ _ _ _ _ (by omega) h0 h1 (by simp) (by simp)]
  simp [szN, gsz]
 | [b, c, d], nat =>
  obtain ⟨b0, h0, rfl⟩ := nat b (by simp)
  obtain ⟨b1, h1, rfl⟩ := nat c (by simp)
  obtain ⟨b2, h2, rfl⟩ := nat d (by simp)
  simp only [decL, List.length_cons, List.length_nil, List.getD_cons_zero, List.getD_cons_succ, List.getD_nil, Int.toNat_natCast]
  rw [if_neg (by omega), decN_sz _ _ _ _ _ (by omega) h0 h1 h2 (by simp)]
  simp [szN, gsz]
 | b :: c :: d :: e :: t, nat =>
  obtain ⟨b0, h0, rfl⟩ := nat b (by simp)
  obtain ⟨b1, h1, rfl⟩ := nat c (by simp)
  obtain ⟨b2, h2, rfl⟩ := nat d (by simp)
  obtain ⟨b3, h3, rfl⟩ := nat e (by simp)
  simp only [decL, List.length_cons, List.length_nil, List.getD_cons_zero, List.getD_cons_succ, List.getD_nil, Int.toNat_natCast]
  rw [if_neg (by omega), decN_sz _ _ _ _ _ (by omega) h0 h1 h2 h3]
  simp [szN, gsz]
theorem bytes_take {l : List Int} (h : Bytes l) (n : Nat) : Bytes (l.take n) := fun x hx => h x (List.mem_of_mem_take hx)
theorem bytes_drop {l : List Int} (h : Bytes l) (n : Nat) : Bytes (l.drop n) := fun x hx => h x (List.mem_of_mem_drop hx)
theorem slow_f (l : List Int) (hb : Bytes l) : utf8_decodeRuneSlow.f l = some (((decL l).1 : Int), ((decL l).2 : Int)) := by
 unfold utf8_decodeRuneSlow.f
 rw [if_pos]
 rw [List.all_eq_true]
 intro x hx
 have := hb x (List.mem_of_mem_take hx)
 simp only [byteB, Bool.and_eq_true, decide_eq_true_eq]
 omega
def runeOf (l : List Int) : Int := if 0 < l.length ∧ l.getD 0 0 < 128 then wrap32 (l.getD 0 0) else ((decL l).1 : Int)
theorem utf8_DecodeRune_spec (l : List Int) (hb : Bytes l) (k : Nat) (hk : 0 < k) : utf8_DecodeRune.f k l = some (runeOf l, (gsz l : Int)) := by
 obtain ⟨k, rfl⟩ := ex_succ' hk
 unfold utf8_DecodeRune.f
 simp only [utf8_DecodeRune.l0]
 by_cases h : 0 < l.length
 ·rw [if_pos (by omega), if_pos (by omega), if_pos (by omega)]
  have e : rd l 0 = l.getD 0 0 := by simp [rd]
  have e2 : l.getD 0 0 = l[0] := by simp [h]
  by_cases h1 : rd l 0 < 128
  ·rw [if_pos h1]
   have : gsz l = 1 := by
    rcases Nat.lt_or_ge (gsz l) 2 with h2 | h2
    ·have := gsz_pos (q := l) (by intro e; rw [e] at h; simp at h); omega
    ·exfalso
     have hn : need l[0] = 1 := by
      unfold need; rw [e, e2] at h1
      rw [if_neg (by omega), if_neg (by omega), if_neg (by omega)]
     match l, h with
     | [_], _ => simp [gsz] at h2
     | [b, c], _ => simp at hn; simp [gsz, hn] at h2
     | [b, c, d], _ => simp at hn; simp [gsz, hn] at h2
     | b :: c :: d :: e :: t, _ => simp at hn; simp [gsz, hn] at h2
   rw [this, e, runeOf, if_pos ⟨h, by rw [← e]; exact h1⟩]; rfl
  ·rw [if_neg h1, slow_f l hb, Option.bind_some, decL_sz l hb, runeOf, if_neg (fun c => h1 (by rw [e]; exact c.2))]
 ·rw [if_neg (by omega), slow_f l hb, Option.bind_some, decL_sz l hb, runeOf, if_neg (fun c => h c.1)]
theorem glyph_Next_spec (p : List Int) (hb : Bytes p) (i : Nat) (hi : i < p.length) (k : Nat) (hk : 0 < k) : glyph_Next.f k p (i : Int) = some (gsz (p.drop i) : Int) := by
 unfold glyph_Next.f
 rw [if_neg (by omega), if_neg (by omega), if_pos (by omega), if_pos (by omega), Int.toNat_natCast, utf8_DecodeRune_spec _ (bytes_drop hb i) k hk, Option.bind_some]
theorem glyph_Floor_l0 (p : List Int) (hb : Bytes p) (hp : p.length ≤ 1000000000) (a : Nat) (ha : a ≤ p.length) (m : Nat) : ∀ (k j : Nat), j + m = min a 3 → m < k → 0 < k - m - 1 → (∀ i, 1 ≤ i → i ≤ j → ¬ a < a - i + gsz (p.drop (a - i))) →
  glyph_Floor.l0 k p (a : Int) ((min a 3 : Nat) : Int) (j : Int) = some (flo p a : Int) := by
 induction m with
 | zero =>
  intro k j hj hk _ hc
  obtain ⟨k, rfl⟩ := ex_succ' hk
  simp only [glyph_Floor.l0]
  rw [if_neg (by omega)]
  unfold flo
  rw [if_neg (fun e => hc 1 (by omega) (by omega) e.2), if_neg (fun e => hc 2 (by omega) (by omega) e.2), if_neg (fun e => hc 3 (by omega) (by omega) e.2)]
 | succ m ih =>
  intro k j hj hk hk2 hc
  obtain ⟨k, rfl⟩ := ex_succ' hk
  simp only [glyph_Floor.l0]
  have hlt : a - (j + 1) < p.length := by omega
  have h4 := gd_four p (a - (j + 1))
  have hnx := glyph_Next_spec p hb (a - (j + 1)) hlt k (by omega)
  have hnext := ih k (j + 1) (by omega) (by omega) (by omega)
  have c1 : (j : Int) < ((min a 3 : Nat) : Int) := by omega
  have w1 : wrap64 ((a : Int) - (j : Int)) = (a : Int) - (j : Int) := wid (by omega) (by omega)
  have w2 : wrap64 ((a : Int) - (j : Int) - 1) = ((a - (j + 1) : Nat) : Int) := by
   clear w1
   rw [show (a : Int) - (j : Int) - 1 = ((a - (j + 1) : Nat) : Int) by omega]; exact wid (by omega) (by omega)
  have w3 : wrap64 (((a - (j + 1) : Nat) : Int) + (gsz (p.drop (a - (j + 1))) : Int)) = ((a - (j + 1) + gsz (p.drop (a - (j + 1))) : Nat) : Int) := by
   clear w1 w2
   rw [← Int.natCast_add]; exact wid (by omega) (by omega)
  have w4 : wrap64 ((j : Int) + 1) = ((j + 1 : Nat) : Int) := by clear w1 w2 w3; exact wnat (by omega)
  rw [if_pos c1, w1, w2, hnx, Option.bind_some, w3, w4]
  clear w1 w2 w3 w4
  by_cases h : a < a - (j + 1) + gsz (p.drop (a - (j + 1)))
  ·rw [if_pos (by omega)]
   have hj3 : j + 1 = 1 ∨ j + 1 = 2 ∨ j + 1 = 3 := by omega
   have n1 : 1 ≤ j → ¬ (1 ≤ a ∧ a < a - 1 + gsz (p.drop (a - 1))) := fun e1 e => hc 1 (Nat.le_refl _) e1 e.2
   have n2 : 2 ≤ j → ¬ (2 ≤ a ∧ a < a - 2 + gsz (p.drop (a - 2))) := fun e1 e => hc 2 (by omega) e1 e.2
   have hja : j + 1 ≤ a := by omega
   clear hc hnext hnx
   unfold flo
   rcases hj3 with e | e | e
   ·rw [e] at h hja ⊢
    rw [if_pos ⟨hja, h⟩]
   ·have := n1 (by omega)
    rw [e] at h hja ⊢
    rw [if_neg this, if_pos ⟨hja, h⟩]
   ·have h1 := n1 (by omega)
    have h2 := n2 (by omega)
    rw [e] at h hja ⊢
    rw [if_neg h1, if_neg h2, if_pos ⟨hja, h⟩]
  ·rw [if_neg (by omega)]
   exact hnext (fun i h1 h2 => by
    rcases Nat.lt_or_ge i (j + 1) with h3 | h3
    ·exact hc i h1 (by omega)
    ·have : i = j + 1 := by omega
     subst this; exact h)
theorem glyph_Floor_spec (p : List Int) (hb : Bytes p) (hp : p.length ≤ 1000000000) (a : Int) (k : Nat) (hk : 5 < k) : glyph_Floor.f k p a = some (flo p (clip p a) : Int) := by
 have e1 : mn (mx a 0) (p.length : Int) = (clip p a : Int) := by unfold mn mx clip; (repeat' split) <;> omega
 have e2 : mn (clip p a : Int) 3 = ((min (clip p a) 3 : Nat) : Int) := by unfold mn; split <;> omega
 unfold glyph_Floor.f
 rw [e1, e2]
 exact glyph_Floor_l0 p hb hp (clip p a) (by unfold clip; omega) (min (clip p a) 3) k 0 (by omega) (by omega) (by omega) (fun i h1 h2 => by omega)
theorem u8_inj {a b : Int} (ha : 0 ≤ a ∧ a ≤ 255) (hb : 0 ≤ b ∧ b ≤ 255) : (UInt8.ofNat a.toNat = UInt8.ofNat b.toNat) ↔ a = b := by
 constructor
 ·intro h
  have h3 := congrArg UInt8.toNat h
  rw [UInt8.toNat_ofNat', UInt8.toNat_ofNat'] at h3
  omega
 ·intro h; rw [h]
theorem countByte_nl (p : List Int) (hb : Bytes p) : Lib.countByte (Lib.bytesOf p) (10 : Int).toNat.toUInt8 = nls p := by
 induction p with
 | nil => rfl
 | cons c t ih =>
  have hc := hb c (by simp)
  have := ih fun x hx => hb x (by simp [hx])
  rw [nls_cons, ← this]
  unfold Lib.countByte Lib.bytesOf
  rw [List.map_cons, List.count_cons]
  have e := u8_inj hc (show 0 ≤ (10 : Int) ∧ (10 : Int) ≤ 255 by omega)
  by_cases h : c = 10
  ·subst h; simp; omega
  ·rw [if_neg h, if_neg (by intro hh; exact h (e.1 (by simpa using hh)))]; omega
theorem bytes_Count_spec (p : List Int) (hb : Bytes p) : bytes_Count.f p [10] = some (nls p : Int) := by
 unfold bytes_Count.f
 rw [if_pos (show ([10] : List Int).length = 1 from rfl), show ([10] : List Int).getD 0 0 = 10 from rfl, countByte_nl p hb]
theorem indexByte_fb (p : List Int) (hb : Bytes p) (c : Int) (hc : 0 ≤ c ∧ c ≤ 255) : Lib.indexByte (Lib.bytesOf p) c.toNat.toUInt8 = fb p c := by
 induction p with
 | nil => rfl
 | cons b t ih =>
  have hbb := hb b (by simp)
  have := ih fun x hx => hb x (by simp [hx])
  have e := u8_inj hbb hc
  have e' : Lib.bytesOf (b :: t) = UInt8.ofNat b.toNat :: Lib.bytesOf t := rfl
  rw [e', Lib.indexByte, fb, this]
  by_cases h : b = c
  ·subst h; simp
  ·rw [if_neg h, if_neg (by intro hh; exact h (e.1 (by simpa using hh)))]
   by_cases h2 : fb t c = -1
   ·rw [if_pos h2, if_pos (by simp [h2])]
   ·rw [if_neg h2, if_neg (by simp [h2])]
theorem lines_Of_spec (p : List Int) (hb : Bytes p) (a : Int) : lines_Of.f p a = some (row p (clip p a) : Int) := by
 have := clip_le p a
 unfold lines_Of.f
 rw [mn_clip, if_pos (by omega), if_pos (by omega), Int.toNat_natCast, bytes_Count_spec _ (fun x hx => hb x (List.mem_of_mem_take hx)), Option.bind_some]
 rfl
theorem bytes_IndexByte_spec (p : List Int) (hb : Bytes p) (c : Int) (hc : 0 ≤ c ∧ c ≤ 255) : bytes_IndexByte.f p c = some (fb p c) := by
 unfold bytes_IndexByte.f
 rw [indexByte_fb p hb c hc]
def spr : Option NN → Int × Int × Bool
 | some x => ((x.1 : Int), (x.2 : Int), true)
 | none => (0, 0, false)
theorem fb_at {p : List Int} {i : Nat} (h : i < (lns p).length) : fb (p.drop (off ((lns p).take i))) 10 = if i + 1 = (lns p).length then -1 else ((lns p)[i].length : Int) := by
 have h1 : lns (p.drop (off ((lns p).take i))) = (lns p).drop i := by
  rw [line_drop h, lns_jn (by intro e; have := congrArg List.length e; simp only [List.length_drop, List.length_nil] at this; omega) (fun l hl => lns_free p l (List.mem_of_mem_drop hl))]
 rw [List.drop_eq_getElem_cons h] at h1
 rw [fb_line _ h1]
 by_cases e : i + 1 = (lns p).length
 ·rw [if_pos e, if_pos (List.drop_eq_nil_of_le (by omega))]
 ·rw [if_neg e, if_neg]
  intro hn
  have := congrArg List.length hn
  simp only [List.length_drop, List.length_nil] at this
  omega
theorem lines_Span_l0 (p : List Int) (hb : Bytes p) (hp : p.length ≤ 1000000000) (line : Int) (m : Nat) : ∀ (k i : Nat), i + m = (lns p).length → (i = 0 ∨ (i : Int) ≤ line) → i < (lns p).length → 2 * m + 1 < k →
  lines_Span.l0 k p line (off ((lns p).take i) : Int) (i : Int) = some (spr (sp p line)) := by
 have hc10 : 0 ≤ (10 : Int) ∧ (10 : Int) ≤ 255 := by omega
 have hcnt := lns_count p
 have hnl := nls_le p
 induction m with
 | zero => intro k i hi _ hlt _; omega
 | succ m ih =>
  intro k i hi hl hlt hk
  obtain ⟨k, rfl⟩ := ex_succ (n := 0) (k := k) (by omega)
  obtain ⟨k, rfl⟩ := ex_succ (n := 0) (k := k) (by omega)
  have hol := off_last hlt
  have hf := fb_at hlt
  have bd : Bytes (p.drop (off ((lns p).take i))) := fun x hx => hb x (List.mem_of_mem_drop hx)
  rw [lines_Span.l0]
  by_cases h : (i : Int) < line
  ·rw [if_pos h, decide_eq_true (by omega), lines_Span.j1, if_pos rfl, if_pos (by omega), if_pos (by omega), Int.toNat_natCast, bytes_IndexByte_spec _ bd 10 hc10, Option.bind_some, hf]
   by_cases e : i + 1 = (lns p).length
   ·rw [if_pos e, if_pos (by omega), sp_out (.inr (by omega))]; rfl
   ·have hw1 : wrap64 (((lns p)[i].length : Int) + 1) = (((lns p)[i].length + 1 : Nat) : Int) := wnat (by omega)
    have hw2 : wrap64 ((off ((lns p).take i) : Int) + (((lns p)[i].length + 1 : Nat) : Int)) = (off ((lns p).take (i + 1)) : Int) := by
     clear hw1
     rw [off_take hlt, wid (by omega) (by omega)]; omega
    have hw3 : wrap64 ((i : Int) + 1) = ((i + 1 : Nat) : Int) := by clear hw1 hw2; exact wnat (by omega)
    rw [if_neg e, if_neg (by clear hw1 hw2 hw3; omega), hw1, hw2, hw3]
    clear hw1 hw2 hw3
    exact ih k (i + 1) (by omega) (.inr (by omega)) (by omega) (by omega)
  ·rw [if_neg h, lines_Span.j1, if_neg (by simp)]
   by_cases hn : line < 0
   ·rw [if_pos hn, sp_out (.inl hn)]; rfl
   ·have hli : line = (i : Int) := by omega
    subst hli
    have hs := sp_in (p := p) (line := (i : Int)) (by omega) (by rw [Int.toNat_natCast]; exact hlt)
    simp only [Int.toNat_natCast] at hs
    rw [if_neg hn, if_pos (by omega), if_pos (by omega), Int.toNat_natCast, bytes_IndexByte_spec _ bd 10 hc10, Option.bind_some, hf, hs]
    by_cases e : i + 1 = (lns p).length
    ·have hw1 : wrap64 ((p.length : Int) - (off ((lns p).take i) : Int)) = ((lns p)[i].length : Int) := by
      rw [wid (by omega) (by omega)]; omega
     rw [if_pos e, if_pos (by omega), hw1]; rfl
    ·rw [if_neg e, if_neg (by omega)]; rfl
theorem lines_Span_spec (p : List Int) (hb : Bytes p) (hp : p.length ≤ 1000000000) (line : Int) (k : Nat) (hk : 2 * p.length + 4 < k) : lines_Span.f k p line = some (spr (sp p line)) := by
 have hcnt := lns_count p
 have hnl := nls_le p
 have := lines_Span_l0 p hb hp line (lns p).length k 0 (by omega) (.inl rfl) (by omega) (by omega)
 simpa [lines_Span.f, off] using this
theorem clip_nat {p : List Int} {a : Nat} (h : a ≤ p.length) : clip p (a : Int) = a := by unfold clip; omega
theorem spr_some (x : NN) : spr (some x) = ((x.1 : Int), (x.2 : Int), true) := rfl
theorem motion_span_spec (p : List Int) (hb : Bytes p) (hp : p.length ≤ 10000) (a : Nat) (ha : a ≤ p.length) (k : Nat) (hk : 2 * p.length + 4 < k) : motion_span.f k p (a : Int) = some ((fr p a : Int), (en p a : Int)) := by
 have hr := row_lt p a
 have hfe := fr_en ha
 unfold motion_span.f
 rw [lines_Of_spec p hb, clip_nat ha, Option.bind_some, lines_Span_spec p hb (by omega) _ k hk, Option.bind_some, sp_nat hr, spr_some]
 dsimp only
 have e : (lns p)[row p a].length = (lin p (row p a)).length := by rw [lin_at hr]
 have e2 : off ((lns p).take (row p a)) = fr p a := rfl
 rw [e, e2]
 unfold en at *
 generalize (lin p (row p a)).length = z at *
 generalize fr p a = o at *
 have hw : wrap64 ((o : Int) + (z : Int)) = ((o + z : Nat) : Int) := by rw [wid (by omega) (by omega)]; omega
 rw [hw]
def stz (o : Option Nat) : Int × Int := match o with
 | some b => ((b : Int), 0)
 | none => (0, 2)
def goz (l w : Bool) (o : Option Nat) : Int × Bool × Bool × Int := match o with
 | some b => ((b : Int), l, w, 0)
 | none => (0, false, false, 2)
theorem motion_Go_l0 (p : List Int) (tab key s n : Int) (l w : Bool) (f : Nat → Option Nat) (Q : Nat → Prop) (big : Nat) (hs : ∀ a k, Q a → big < k → motion_step.f k p (a : Int) key s n tab = some (stz (f a)) ∧ ∀ b, f a = some b → Q b) (t : Nat) (ht : t ≤ 9223372036854775807) (m : Nat) : ∀ (k i a : Nat), i + m = t → Q a → big + m < k →
  motion_Go.l0 k p tab (t : Int) (i : Int) key s n (a : Int) l w = some (goz l w (itr f m a)) := by
 induction m with
 | zero =>
  intro k i a hi ha hk
  obtain ⟨k, rfl⟩ := ex_succ (n := 0) (k := k) (by omega)
  rw [motion_Go.l0, if_neg (by omega)]
  rfl
 | succ m ih =>
  intro k i a hi ha hk
  obtain ⟨k, rfl⟩ := ex_succ (n := 0) (k := k) (by omega)
  obtain ⟨h1, h2⟩ := hs a k ha (by omega)
  rw [motion_Go.l0, if_pos (by omega), h1, Option.bind_some]
  rw [itr]
  cases e : f a with
  | none => rfl
  | some b =>
   have hw : wrap64 ((i : Int) + 1) = ((i + 1 : Nat) : Int) := by
    by_cases g : i + 1 ≤ 9223372036854775807
    ·rw [wid (by omega) (by omega)]; omega
    ·omega
   rw [Option.bind_some, hw]
   exact (if_pos rfl).trans (ih k (i + 1) b (by omega) (h2 b e) (by omega))
def tms (key n : Int) : Int := if key = 48 ∨ key = 94 ∨ key = 102 ∨ key = 116 ∨ key = 106 ∨ key = 107 ∨ key = 36 then 1 else max n 1
theorem motion_times_spec (key s n : Int) : motion_times.f key s n = some (tms key n) := by
 have e : mx n 1 = max n 1 := by unfold mx; split <;> omega
 unfold motion_times.f tms
 rw [e]
 by_cases h1 : key = 48
 ·rw [if_pos h1, if_pos (by omega)]
 rw [if_neg h1]
 by_cases h2 : key = 94
 ·rw [if_pos h2, if_pos (by omega)]
 rw [if_neg h2]
 by_cases h3 : key = 102
 ·rw [if_pos h3, if_pos (by omega)]
 rw [if_neg h3]
 by_cases h4 : key = 116
 ·rw [if_pos h4, if_pos (by omega)]
 rw [if_neg h4]
 by_cases h5 : key = 106
 ·rw [if_pos h5, if_pos (by omega)]
 rw [if_neg h5]
 by_cases h6 : key = 107
 ·rw [if_pos h6, if_pos (by omega)]
 rw [if_neg h6]
 by_cases h7 : key = 36
 ·rw [if_pos h7, if_pos (by omega)]
 rw [if_neg h7, if_neg (by omega)]
theorem motion_Go_key (p : List Int) (hb : Bytes p) (hp : p.length ≤ 10000) (a tab key s n : Int) (h1 : key ≠ 71) (h2 : key ≠ 103) (k : Nat) (hk : 5 < k) :
  motion_Go.f (k + 3) p a key s n tab = motion_Go.l0 k p tab (tms key n) 0 key s n (flo p (clip p a) : Int) (decide (key = 106 ∨ key = 107)) (decide (key = 101 ∨ key = 102 ∨ key = 116)) := by
 have e103 : (key == 103) = false := by simpa using h2
 have j2 : ∀ l w, motion_Go.j2 (k + 1) p tab key s n (flo p (clip p a) : Int) l w = motion_Go.l0 k p tab (tms key n) 0 key s n (flo p (clip p a) : Int) l w := by
  intro l w
  rw [motion_Go.j2, motion_times_spec, Option.bind_some]
 unfold motion_Go.f
 rw [glyph_Floor_spec p hb (by omega) a (k + 3) (by omega), Option.bind_some, if_neg h1, e103, motion_Go.j0, if_neg (by simp)]
 by_cases g1 : key = 106
 ·subst g1
  rw [if_pos rfl, motion_Go.j1, if_pos (by decide), j2]
  rfl
 ·rw [if_neg g1]
  by_cases g2 : key = 107
  ·subst g2
   rw [motion_Go.j1, if_pos (by decide), j2]
   rfl
  ·have e2 : (key == 107) = false := by simpa using g2
   have d1 : decide (key = 106 ∨ key = 107) = false := decide_eq_false (by omega)
   rw [e2, motion_Go.j1, if_neg (by simp), d1]
   by_cases g3 : key = 101
   ·rw [if_pos g3, j2, decide_eq_true (by omega)]
   ·rw [if_neg g3]
    by_cases g4 : key = 102
    ·rw [if_pos g4, j2, decide_eq_true (by omega)]
    ·rw [if_neg g4]
     by_cases g5 : key = 116
     ·rw [if_pos g5, j2, decide_eq_true (by omega)]
     ·rw [if_neg g5, j2, decide_eq_false (by omega)]
theorem motion_Go_itr (p : List Int) (hb : Bytes p) (hp : p.length ≤ 10000) (a tab key s n : Int) (h1 : key ≠ 71) (h2 : key ≠ 103) (f : Nat → Option Nat) (Q : Nat → Prop) (big : Nat) (hs : ∀ a k, Q a → big < k → motion_step.f k p (a : Int) key s n tab = some (stz (f a)) ∧ ∀ b, f a = some b → Q b) (hQ : Q (flo p (clip p a))) (t : Nat) (ht : tms key n = (t : Int)) (ht2 : t ≤ 9223372036854775807) (k : Nat) (hk : big + t + 9 < k) :
  motion_Go.f k p a key s n tab = some (goz (decide (key = 106 ∨ key = 107)) (decide (key = 101 ∨ key = 102 ∨ key = 116)) (itr f t (flo p (clip p a)))) := by
 obtain ⟨k, rfl⟩ : ∃ j, k = j + 3 := ⟨k - 3, by omega⟩
 rw [motion_Go_key p hb hp a tab key s n h1 h2 k (by omega), ht]
 exact motion_Go_l0 p tab key s n _ _ f Q big hs t ht2 t k 0 _ (by omega) hQ (by omega)
set_option maxRecDepth 100000 in
theorem start_byte : ∀ x : Fin 256, (Go.bits .and .u8 ((x.val : Nat) : Int) 192 != 128) = decide (¬ (128 ≤ ((x.val : Nat) : Int) ∧ ((x.val : Nat) : Int) ≤ 191)) := by decide
theorem utf8_RuneStart_spec (b : Int) (h0 : 0 ≤ b) (h1 : b ≤ 255) : utf8_RuneStart.f b = some (decide (¬ cont b)) := by
 obtain ⟨n, rfl⟩ : ∃ n : Nat, b = (n : Int) := ⟨b.toNat, by omega⟩
 unfold utf8_RuneStart.f cont
 exact congrArg some (start_byte ⟨n, by omega⟩)
theorem lsz_stop (l : List Int) (j : Nat) (h2 : 2 ≤ j) (h4 : j ≤ 4) (hj : j ≤ l.length) (hc : ∀ i, 2 ≤ i → i < j → ∃ h : l.length - i < l.length, cont (l[l.length - i])) (hn : ∀ h : l.length - j < l.length, ¬ cont (l[l.length - j])) :
  lsz l = if gsz (l.drop (l.length - j)) = j then j else 1 := by
 have hne : l ≠ [] := by rintro rfl; simp at hj; omega
 have small : ∀ m, 2 ≤ m → m < j → ¬ (m ≤ l.length ∧ gsz (l.drop (l.length - m)) = m) := by
  intro m h1 h3 h5
  obtain ⟨hl, hcm⟩ := hc m h1 h3
  rw [gd_cont hl hcm] at h5; omega
 have big : ∀ m, j < m → m ≤ 4 → ¬ (m ≤ l.length ∧ gsz (l.drop (l.length - m)) = m) := by
  intro m h1 h3 h5
  obtain ⟨hl, hcm⟩ := cont_in (p := l) (b := l.length - m) (i := l.length - j) (by omega) (by omega)
  exact hn hl hcm
 unfold lsz
 rw [if_neg hne]
 have : j = 2 ∨ j = 3 ∨ j = 4 := by omega
 rcases this with rfl | rfl | rfl
 ·rw [if_neg (big 3 (by omega) (by omega)), if_neg (big 4 (by omega) (by omega))]
  by_cases h : gsz (l.drop (l.length - 2)) = 2
  ·rw [if_pos ⟨hj, h⟩, if_pos h]
  ·rw [if_neg (fun e => h e.2), if_neg h]
 ·rw [if_neg (small 2 (by omega) (by omega)), if_neg (big 4 (by omega) (by omega))]
  by_cases h : gsz (l.drop (l.length - 3)) = 3
  ·rw [if_pos ⟨hj, h⟩, if_pos h]
  ·rw [if_neg (fun e => h e.2), if_neg h]
 ·rw [if_neg (small 2 (by omega) (by omega)), if_neg (small 3 (by omega) (by omega))]
  by_cases h : gsz (l.drop (l.length - 4)) = 4
  ·rw [if_pos ⟨hj, h⟩, if_pos h]
  ·rw [if_neg (fun e => h e.2), if_neg h]
theorem lsz_none (l : List Int) (hne : l ≠ []) (hc : ∀ i, 2 ≤ i → i ≤ 4 → i ≤ l.length → ∃ h : l.length - i < l.length, cont (l[l.length - i])) : lsz l = 1 := by
 have small : ∀ m, 2 ≤ m → m ≤ 4 → ¬ (m ≤ l.length ∧ gsz (l.drop (l.length - m)) = m) := by
  intro m h1 h3 h5
  obtain ⟨hl, hcm⟩ := hc m h1 h3 h5.1
  rw [gd_cont hl hcm] at h5; omega
 unfold lsz
 rw [if_neg hne, if_neg (small 2 (by omega) (by omega)), if_neg (small 3 (by omega) (by omega)), if_neg (small 4 (by omega) (by omega))]
theorem lsz_low (l : List Int) (hl : 0 < l.length) (h : ¬ cont (l[l.length - 1])) : lsz l = 1 := by
 have hne : l ≠ [] := by rintro rfl; simp at hl
 have small : ∀ m, 2 ≤ m → m ≤ 4 → ¬ (m ≤ l.length ∧ gsz (l.drop (l.length - m)) = m) := by
  intro m h1 h3 h5
  obtain ⟨hl, hcm⟩ := cont_in (p := l) (b := l.length - m) (i := l.length - 1) (by omega) (by omega)
  exact h hcm
 unfold lsz
 rw [if_neg hne, if_neg (small 2 (by omega) (by omega)), if_neg (small 3 (by omega) (by omega)), if_neg (small 4 (by omega) (by omega))]
theorem last_j1 (l : List Int) (hb : Bytes l) (s : Nat) (hs : s ≤ l.length) (hl : l.length ≤ 1000000000) (k : Nat) (hk : 1 < k) :
  ∃ r, utf8_DecodeLastRune.j1 k l (l.length : Int) (s : Int) = some (r, if s + gsz (l.drop s) = l.length then (gsz (l.drop s) : Int) else 1) := by
 obtain ⟨k, rfl⟩ := ex_succ' (n := 0) (k := k) (by omega)
 have h4 := (gsz_le (l.drop s)).2
 simp only [utf8_DecodeLastRune.j1]
 rw [if_neg (by omega), if_pos (by omega), if_pos (by omega), if_pos (by omega), Int.toNat_natCast, Int.toNat_natCast, List.take_of_length_le (Nat.le_refl _), utf8_DecodeRune_spec _ (bytes_drop hb s) k (by omega), Option.bind_some]
 have hw : wrap64 ((s : Int) + (gsz (l.drop s) : Int)) = (s : Int) + (gsz (l.drop s) : Int) := wid (by omega) (by omega)
 simp only [hw]
 clear hw
 by_cases h : s + gsz (l.drop s) = l.length
 ·rw [if_pos (by omega), if_pos h]; exact ⟨_, rfl⟩
 ·rw [if_neg (by omega), if_neg h]; exact ⟨_, rfl⟩
theorem last_l0 (l : List Int) (hb : Bytes l) (hl : l.length ≤ 1000000000) (hl0 : 0 < l.length) (m : Nat) : ∀ (j k : Nat), j + m = 5 → 2 ≤ j → j ≤ l.length + 1 → m + 3 < k →
  (∀ i, 2 ≤ i → i < j → ∃ h : l.length - i < l.length, cont (l[l.length - i])) →
  ∃ r, utf8_DecodeLastRune.l0 k l (l.length : Int) ((l.length : Int) - (j : Int)) (mx ((l.length : Int) - 4) 0) = some (r, (lsz l : Int)) := by
 have hne : l ≠ [] := by rintro rfl; simp at hl0
 have out : ∀ (j k : Nat), 2 ≤ j → 2 < k → (j = 5 ∨ j = l.length + 1) → j ≤ l.length + 1 → (∀ i, 2 ≤ i → i < j → ∃ h : l.length - i < l.length, cont (l[l.length - i])) → ∃ r, utf8_DecodeLastRune.j1 k l (l.length : Int) ((l.length : Int) - (j : Int)) = some (r, (lsz l : Int)) := by
  intro j k h2 hk hj hjl hc
  have h1 : lsz l = 1 := lsz_none l hne (fun i hi h4 hil => hc i hi (by omega))
  rw [h1]
  rcases Nat.lt_or_ge l.length j with hlt | hge
  ·have hj' : j = l.length + 1 := by omega
   obtain ⟨k, rfl⟩ := ex_succ' (n := 0) (k := k) (by omega)
   simp only [utf8_DecodeLastRune.j1]
   rw [if_pos (by omega), if_pos (by omega), if_pos (by omega), Int.toNat_natCast, List.take_of_length_le (Nat.le_refl _), List.drop_zero, utf8_DecodeRune_spec _ hb k (by omega), Option.bind_some]
   have h4 := gsz_le l
   have hw : wrap64 (gsz l : Int) = (gsz l : Int) := wid (by omega) (by omega)
   simp only [hw]
   clear hw
   by_cases h : (gsz l : Int) = (l.length : Int)
   ·have hg : gsz l = 1 := by
     by_cases hn1 : l.length = 1
     ·omega
     ·obtain ⟨hh, hcm⟩ := hc l.length (by omega) (by omega)
      exact gsz_head_cont hl0 (by simpa using hcm)
    rw [if_pos h, hg]; exact ⟨_, rfl⟩
   ·rw [if_neg h]; exact ⟨_, rfl⟩
  ·have hj5 : j = 5 := by omega
   subst hj5
   obtain ⟨r, hr⟩ := last_j1 l hb (l.length - 5) (by omega) hl k (by omega)
   have h4 := (gsz_le (l.drop (l.length - 5))).2
   rw [if_neg (by omega)] at hr
   rw [show ((l.length - 5 : Nat) : Int) = (l.length : Int) - ((5 : Nat) : Int) by omega] at hr
   exact ⟨r, hr⟩
 induction m with
 | zero =>
  intro j k hj h2 hjl hk hc
  obtain ⟨k, rfl⟩ := ex_succ' hk
  simp only [utf8_DecodeLastRune.l0]
  rw [if_neg (by unfold mx; split <;> omega)]
  exact out j k h2 (by omega) (by omega) hjl hc
 | succ m ih =>
  intro j k hj h2 hjl hk hc
  obtain ⟨k, rfl⟩ := ex_succ' hk
  simp only [utf8_DecodeLastRune.l0]
  by_cases hlt : l.length < j
  ·rw [if_neg (by unfold mx; split <;> omega)]
   exact out j k h2 (by omega) (by omega) hjl hc
  ·have hi : l.length - j < l.length := by omega
   have hbb := hb _ (List.getElem_mem hi)
   have e : (l.length : Int) - (j : Int) = ((l.length - j : Nat) : Int) := by omega
   rw [if_pos (by unfold mx; split <;> omega), if_pos (by omega), if_pos (by omega), e, rd_nat l _ hi, utf8_RuneStart_spec _ hbb.1 hbb.2, Option.bind_some]
   by_cases hcc : cont (l[l.length - j])
   ·rw [if_neg (by simpa using hcc)]
    have hw : wrap64 (((l.length - j : Nat) : Int) - 1) = (l.length : Int) - ((j + 1 : Nat) : Int) := by
     rw [show ((l.length - j : Nat) : Int) - 1 = (l.length : Int) - ((j + 1 : Nat) : Int) by omega]
     exact wid (by omega) (by omega)
    rw [hw]
    clear hw
    exact ih (j + 1) k (by omega) (by omega) (by omega) (by omega) (fun i h1 h3 => by
     rcases Nat.lt_or_ge i j with h | h
     ·exact hc i h1 h
     ·have : i = j := by omega
      subst this
      exact ⟨hi, hcc⟩)
   ·rw [if_pos (by simpa using hcc)]
    obtain ⟨r, hr⟩ := last_j1 l hb (l.length - j) (by omega) hl k (by omega)
    refine ⟨r, ?_⟩
    rw [hr, lsz_stop l j h2 (by omega) (by omega) hc (fun _ => hcc)]
    by_cases hg : gsz (l.drop (l.length - j)) = j
    ·rw [if_pos (by omega), if_pos hg, hg]
    ·rw [if_neg (by omega), if_neg hg]; rfl
theorem utf8_DecodeLastRune_spec (l : List Int) (hb : Bytes l) (hl : l.length ≤ 1000000000) (k : Nat) (hk : 6 < k) : ∃ r, utf8_DecodeLastRune.f k l = some (r, (lsz l : Int)) := by
 unfold utf8_DecodeLastRune.f
 by_cases h : l.length = 0
 ·have : l = [] := List.eq_nil_of_length_eq_zero h
  subst this
  exact ⟨_, rfl⟩
 ·have hi : l.length - 1 < l.length := by omega
  have hbb := hb _ (List.getElem_mem hi)
  have w1 : wrap64 ((l.length : Int) - 1) = ((l.length - 1 : Nat) : Int) := by
   rw [show (l.length : Int) - 1 = ((l.length - 1 : Nat) : Int) by omega]; exact wid (by omega) (by omega)
  have w2 : wrap64 (((l.length - 1 : Nat) : Int) - 1) = (l.length : Int) - ((2 : Nat) : Int) := by
   clear w1
   rw [show ((l.length - 1 : Nat) : Int) - 1 = (l.length : Int) - ((2 : Nat) : Int) by omega]; exact wid (by omega) (by omega)
  have w3 : wrap64 ((l.length : Int) - 4) = (l.length : Int) - 4 := by clear w1 w2; exact wid (by omega) (by omega)
  have w4 : wrap32 (l[l.length - 1]) = l[l.length - 1] := by clear w1 w2 w3; unfold wrap32; omega
  rw [w1, w2, w3, rd_nat l _ hi, w4]
  clear w1 w2 w3 w4
  rw [if_neg (by omega), if_pos (by omega), if_pos (by omega)]
  by_cases h1 : l[l.length - 1] < 128
  ·rw [if_pos h1, lsz_low l (by omega) (fun c => by unfold cont at c; omega)]
   exact ⟨_, rfl⟩
  ·rw [if_neg h1]
   exact last_l0 l hb hl (by omega) 3 2 k (by omega) (by omega) (by omega) (by omega) (fun i h1 h2 => by omega)
theorem glyph_Prev_spec (p : List Int) (hb : Bytes p) (hp : p.length ≤ 1000000000) (i : Nat) (hi : i ≤ p.length) (k : Nat) (hk : 6 < k) : glyph_Prev.f k p (i : Int) = some (lsz (p.take i) : Int) := by
 unfold glyph_Prev.f
 by_cases h0 : i = 0
 ·subst h0; rfl
 ·rw [if_neg (by omega), if_neg (by omega), if_pos (by omega), if_pos (by omega), Int.toNat_natCast]
  obtain ⟨r, hr⟩ := utf8_DecodeLastRune_spec (p.take i) (bytes_take hb i) (by simp only [List.length_take]; omega) k hk
  rw [hr, Option.bind_some]
def fnb (p : List Int) (e : Nat) (s : Int) (u : Nat) : Option Nat := if u < e then (if fb ((p.take e).drop (u + 1)) s < 0 then none else some (u + 1 + (fb ((p.take e).drop (u + 1)) s).toNat)) else none
theorem fnb_facts {p : List Int} {e : Nat} {s : Int} {a b : Nat} (he : e ≤ p.length) (h : fnb p e s a = some b) : a < b ∧ b < e := by
 unfold fnb at h
 split at h
 ·have hf := (fb_ge ((p.take e).drop (a + 1)) s).2
  simp only [List.length_drop, List.length_take] at hf
  split at h
  ·simp at h
  ·have := Option.some.inj h; omega
 ·simp at h
theorem itr_fnb {p : List Int} {e : Nat} {s : Int} (he : e ≤ p.length) (n : Nat) : ∀ {a b : Nat}, itr (fnb p e s) n a = some b → a ≤ b ∧ (0 < n → a < b ∧ b < e) := by
 induction n with
 | zero => intro a b h; have := Option.some.inj h; omega
 | succ n ih =>
  intro a b h
  rw [itr] at h
  cases g : fnb p e s a with
  | none => rw [g] at h; simp at h
  | some c =>
   rw [g, Option.bind_some] at h
   have h1 := fnb_facts he g
   have h2 := ih h
   refine ⟨by omega, fun _ => ⟨by omega, ?_⟩⟩
   by_cases g0 : n = 0
   ·subst g0
    have := Option.some.inj h
    omega
   ·exact (h2.2 (by omega)).2
def finR (p : List Int) (key : Int) (a : Nat) (o : Option Nat) : Int × Bool := match o with
 | none => (0, false)
 | some b => if key = 102 then ((flo p b : Int), true) else (((flo p b - lsz (p.take (flo p b)) : Nat) : Int), decide (a < flo p b))
theorem lsz_le' {p : List Int} {a : Nat} (h : Bd p a) : lsz (p.take a) ≤ a := by
 by_cases h0 : a = 0
 ·subst h0; simp [lsz]
 ·obtain ⟨b, _, h2, _, h4, _⟩ := last_sign h (by omega)
  omega
theorem motion_find_l0 (p : List Int) (hb : Bytes p) (hp : p.length ≤ 10000) (a e : Nat) (he : e ≤ p.length) (key s n : Int) (hs0 : 0 ≤ s) (hs1 : s ≤ 255) (t : Nat) (ht : t ≤ 9223372036854775807) (d : Nat) : ∀ (k i u m : Nat), i + m = t → e ≤ u + d → u ≤ p.length → 100 + d < k →
  motion_find.l0 k p (a : Int) (e : Int) (u : Int) (t : Int) (i : Int) key s n = some (finR p key a (itr (fnb p e s) m u)) := by
 have fini : ∀ k u, u ≤ p.length → 50 < k → ((glyph_Floor.f k p (u : Int)).bind fun t232 => (if key = 102 then (some (t232, true)) else ((glyph_Prev.f k p t232).bind fun t233 => (some (wrap64 (t232 - t233), decide (t232 > (a : Int))))))) = some (finR p key a (some u)) := by
  intro k u hu hk
  have hf := flo_facts hu
  have hl := lsz_le' hf.1
  rw [glyph_Floor_spec p hb (by omega) _ k (by omega), Option.bind_some, clip_nat hu]
  unfold finR
  by_cases g : key = 102
  ·rw [if_pos g]; dsimp only; rw [if_pos g]
  ·have hw : wrap64 ((flo p u : Int) - (lsz (p.take (flo p u)) : Int)) = ((flo p u - lsz (p.take (flo p u)) : Nat) : Int) := wsub hl (by omega)
   rw [if_neg g, glyph_Prev_spec p hb (by omega) _ (by omega) k (by omega), Option.bind_some, hw]
   dsimp only
   rw [if_neg g]
   congr 2
   exact decide_eq_decide.2 (by omega)
 induction d with
 | zero =>
  intro k i u m hi hd hu hk
  obtain ⟨k, rfl⟩ := ex_succ (n := 0) (k := k) (by omega)
  rw [motion_find.l0]
  cases m with
  | zero =>
   rw [if_neg (by omega)]
   exact fini k u hu (by omega)
  | succ m =>
   have e1 : fnb p e s u = none := by unfold fnb; rw [if_neg (by omega)]
   rw [if_pos (by omega), if_pos (by omega), itr, e1]
   rfl
 | succ d ih =>
  intro k i u m hi hd hu hk
  obtain ⟨k, rfl⟩ := ex_succ (n := 0) (k := k) (by omega)
  rw [motion_find.l0]
  cases m with
  | zero =>
   rw [if_neg (by omega)]
   exact fini k u hu (by omega)
  | succ m =>
   rw [if_pos (by omega), itr]
   by_cases g : u < e
   ·have hf := fb_ge ((p.take e).drop (u + 1)) s
    have hlen : ((p.take e).drop (u + 1)).length = e - (u + 1) := by simp only [List.length_drop, List.length_take]; omega
    have bd : Bytes ((p.take e).drop (u + 1)) := fun x hx => hb x (List.mem_of_mem_take (List.mem_of_mem_drop hx))
    have hn := ih k (i + 1)
    have hw1 : wrap64 ((u : Int) + 1) = ((u + 1 : Nat) : Int) := wnat (by omega)
    have hw2 : wrap64 ((i : Int) + 1) = ((i + 1 : Nat) : Int) := by clear hw1; rw [wid (by omega) (by omega)]; omega
    rw [if_neg (by clear hw1 hw2; omega), hw1, hw2, Int.toNat_natCast, Int.toNat_natCast]
    clear hw1 hw2
    rw [if_pos (by omega), if_pos (by omega), if_pos (by omega), bytes_IndexByte_spec _ bd s ⟨hs0, hs1⟩, Option.bind_some]
    unfold fnb at hn ⊢
    rw [if_pos g]
    generalize fb ((p.take e).drop (u + 1)) s = z at *
    by_cases g2 : z < 0
    ·rw [if_pos g2, if_pos g2]; rfl
    ·have hw3 : wrap64 ((u : Int) + wrap64 (z + 1)) = ((u + 1 + z.toNat : Nat) : Int) := by
      rw [wid (x := z + 1) (by omega) (by omega), wid (by omega) (by omega)]; omega
     rw [if_neg g2, if_neg g2, hw3, Option.bind_some]
     clear hw3
     exact hn (u + 1 + z.toNat) m (by omega) (by omega) (by omega) (by omega)
   ·have e1 : fnb p e s u = none := by unfold fnb; rw [if_neg g]
    rw [if_pos (by omega), e1]
    rfl
def fstp (p : List Int) (key s : Int) (t a : Nat) : Option Nat := match itr (fnb p (en p a) s) t a with
 | none => none
 | some b => if key = 102 then some (flo p b) else if a < flo p b then some (flo p b - lsz (p.take (flo p b))) else none
theorem step_find (p : List Int) (hb : Bytes p) (hp : p.length ≤ 10000) (key : Int) (hkey : key = 102 ∨ key = 116) (s n tab : Int) (hs0 : 0 ≤ s) (hs1 : s ≤ 255) (hn1 : n ≤ 9223372036854775807) (a k : Nat) (ha : a ≤ p.length) (hk : 30010 < k) : motion_step.f k p (a : Int) key s n tab = some (stz (fstp p key s (max n 1).toNat a)) := by
 have hfe := fr_en ha
 obtain ⟨k, rfl⟩ : ∃ j, k = j + 4 := ⟨k - 4, by omega⟩
 have e0 : mx n 1 = (((max n 1).toNat : Nat) : Int) := by unfold mx; split <;> omega
 have e : motion_step.f (k + 4) p (a : Int) key s n tab = (motion_find.f k p (a : Int) key s n).bind fun bt => if bt.2 = true then some (bt.1, 0) else some (0, 2) := by
  rcases hkey with rfl | rfl <;> rfl
 rw [e]
 unfold motion_find.f
 rw [motion_span_spec p hb hp a ha k (by omega), Option.bind_some, e0]
 have := motion_find_l0 p hb hp a (en p a) hfe.2.2 key s n hs0 hs1 (max n 1).toNat (by omega) p.length k 0 a (max n 1).toNat (by omega) (by omega) ha (by omega)
 dsimp only
 rw [show ((0 : Nat) : Int) = 0 from rfl] at this
 rw [this, Option.bind_some]
 have hz : ∀ o : Option Nat, (if (finR p key a o).2 = true then some ((finR p key a o).1, (0 : Int)) else some (0, 2)) = some (stz (match o with
  | none => none
  | some b => if key = 102 then some (flo p b) else if a < flo p b then some (flo p b - lsz (p.take (flo p b))) else none)) := by
  intro o
  cases o with
  | none => rfl
  | some b =>
   have e2 : finR p key a (some b) = if key = 102 then ((flo p b : Int), true) else (((flo p b - lsz (p.take (flo p b)) : Nat) : Int), decide (a < flo p b)) := rfl
   rw [e2]
   dsimp only
   by_cases g : key = 102
   ·rw [if_pos g, if_pos g]; rfl
   ·rw [if_neg g, if_neg g]
    by_cases g2 : a < flo p b
    ·rw [if_pos g2]
     exact if_pos (decide_eq_true g2)
    ·rw [if_neg g2]
     exact if_neg (by simpa using g2)
 exact hz _
theorem fnd_facts {p : List Int} {s : Int} {t a b : Nat} (h : Bd p a) (ht : 0 < t) (hi : itr (fnb p (en p a) s) t a = some b) : Bd p (flo p b) ∧ a ≤ flo p b ∧ row p (flo p b) = row p a ∧ b < en p a := by
 have hle := h.le
 have hfe := fr_en hle
 have h1 := (itr_fnb hfe.2.2 t hi).2 ht
 have hf := flo_facts (p := p) (a := b) (by omega)
 have hg := flo_ge (p := p) (a := b) (by omega) h (by omega)
 exact ⟨hf.1, hg, row_same (by omega) (by omega), h1.2⟩
theorem fstp_facts {p : List Int} {key s : Int} {t a c : Nat} (h : Bd p a) (ht : 0 < t) (hi : fstp p key s t a = some c) : Bd p c ∧ a ≤ c := by
 unfold fstp at hi
 cases e : itr (fnb p (en p a) s) t a with
 | none => rw [e] at hi; simp at hi
 | some b =>
  rw [e] at hi
  dsimp only at hi
  have hf := fnd_facts h ht e
  by_cases g : key = 102
  ·rw [if_pos g] at hi
   have := Option.some.inj hi
   subst this
   exact ⟨hf.1, hf.2.1⟩
  ·rw [if_neg g] at hi
   split at hi
   ·rename_i g2
    have := Option.some.inj hi
    subst this
    obtain ⟨d, h1, h2, h3, h4, h5⟩ := last_sign hf.1 (by omega)
    rw [h5]
    refine ⟨h1, ?_⟩
    by_cases g3 : a ≤ d
    ·exact g3
    ·have := h.clear d (by omega); omega
   ·simp at hi
theorem motion_Go_find (p : List Int) (hb : Bytes p) (hp : p.length ≤ 10000) (key : Int) (hkey : key = 102 ∨ key = 116) (a s n tab : Int) (hs0 : 0 ≤ s) (hs1 : s ≤ 255) (hn1 : n ≤ 9223372036854775807) (k : Nat) (hk : 30030 < k) :
  motion_Go.f k p a key s n tab = some (goz false true (fstp p key s (max n 1).toNat (flo p (clip p a)))) := by
 have e1 : key ≠ 71 := by rcases hkey with rfl | rfl <;> decide
 have e2 : key ≠ 103 := by rcases hkey with rfl | rfl <;> decide
 have e3 : tms key n = ((1 : Nat) : Int) := by rcases hkey with rfl | rfl <;> rfl
 have e4 : decide (key = 106 ∨ key = 107) = false := by rcases hkey with rfl | rfl <;> decide
 have e5 : decide (key = 101 ∨ key = 102 ∨ key = 116) = true := by rcases hkey with rfl | rfl <;> decide
 have := motion_Go_itr p hb hp a tab key s n e1 e2 (fstp p key s (max n 1).toNat) (Bd p) 30010 (fun a k ha hk => ⟨step_find p hb hp key hkey s n tab hs0 hs1 hn1 a k ha.le hk, fun b hb2 => (fstp_facts ha (by omega) hb2).1⟩) (flo_facts (clip_le p a)).1 1 e3 (by omega) k (by omega)
 rw [e4, e5] at this
 rw [this]
 congr 2
 rw [itr]
 cases fstp p key s (max n 1).toNat (flo p (clip p a)) <;> rfl
theorem ex_succ1 {k n : Nat} (h : n < k) : ∃ m, k = m + 1 := ⟨k - 1, by omega⟩
theorem need_cases (b : Int) : need b = 1 ∨ need b = 2 ∨ need b = 3 ∨ need b = 4 := by
 unfold need; (repeat' split) <;> omega
theorem gsz_eq (b : Int) (t : List Int) : gsz (b :: t) =
  if need b = 1 ∨ t.length + 1 < need b then 1 else if t.getD 0 0 < lo2 b ∨ hi2 b < t.getD 0 0 then 1
  else if 3 ≤ need b ∧ ¬ cont (t.getD 1 0) then 1 else if 4 ≤ need b ∧ ¬ cont (t.getD 2 0) then 1 else need b := by
 match t with
 | [] =>
  have : need b = 1 ∨ ([] : List Int).length + 1 < need b := by rcases need_cases b with h | h | h | h <;> simp [h]
  rw [if_pos this]; rfl
 | [c] =>
  simp only [gsz, List.length_cons, List.length_nil, List.getD_cons_zero, List.getD_cons_succ, List.getD_nil]
  rcases need_cases b with h | h | h | h <;> simp only [h] <;> simp (decide := true) only [true_and, false_and, if_false, if_true, or_self, or_true, true_or, false_or]
  (repeat' split) <;> omega
 | [c, d] =>
  simp only [gsz, List.length_cons, List.length_nil, List.getD_cons_zero, List.getD_cons_succ, List.getD_nil]
  rcases need_cases b with h | h | h | h <;> simp only [h] <;> simp (decide := true) only [true_and, false_and, if_false, if_true, or_self, or_true, true_or, false_or]
  ·(repeat' split) <;> omega
  ·unfold cont; (repeat' split) <;> omega
 | c :: d :: e :: t =>
  simp only [gsz, List.length_cons, List.length_nil, List.getD_cons_zero, List.getD_cons_succ, List.getD_nil]
  have e1 : ¬ (t.length + 1 + 1 + 1 + 1 < 2) := by omega
  have e2 : ¬ (t.length + 1 + 1 + 1 + 1 < 3) := by omega
  have e3 : ¬ (t.length + 1 + 1 + 1 + 1 < 4) := by omega
  rcases need_cases b with h | h | h | h <;> simp only [h, e1, e2, e3] <;> simp (decide := true) only [true_and, false_and, if_false, if_true, or_self, or_true, true_or, false_or]
  ·(repeat' split) <;> omega
  ·unfold cont; (repeat' split) <;> omega
  ·unfold cont; (repeat' split) <;> omega
theorem getD_drop' (p : List Int) (i j : Nat) (h : i + j < p.length) : (p.drop i).getD j 0 = p[i + j] := by
 simp [List.getD_eq_getElem?_getD, h]
theorem size_j3 (p : List Int) (x1 b sz : Int) (k : Nat) : platenref01_Size.j3 (k + 1) p x1 b sz 128 191 = platenref01_Size.j4 k p x1 sz (lo2 b) (hi2 b) := by
 rw [platenref01_Size.j3]
 unfold lo2 hi2
 by_cases h1 : b = 224
 ·subst h1; rfl
 ·by_cases h2 : b = 237
  ·subst h2; rfl
  ·by_cases h3 : b = 240
   ·subst h3; rfl
   ·by_cases h4 : b = 244
    ·subst h4; rfl
    ·simp only [h1, h2, h3, h4, if_false]
theorem size_j4 (p : List Int) (i : Nat) (h : i < p.length) (hp : p.length ≤ 1000000000) (k : Nat) : platenref01_Size.j4 (k + 6) p (i : Int) (need p[i] : Int) (lo2 p[i]) (hi2 p[i]) = some (gsz (p.drop i) : Int) := by
 have hg := gsz_eq p[i] (p.drop (i + 1))
 rw [← drop_at p i h] at hg
 simp only [List.length_drop] at hg
 have hw0 : wrap64 ((p.length : Int) - (i : Int)) = (p.length : Int) - (i : Int) := wid (by omega) (by omega)
 have hw1 : wrap64 ((i : Int) + 1) = ((i + 1 : Nat) : Int) := wnat (by clear hw0; omega)
 have hw2 : wrap64 ((i : Int) + 2) = ((i + 2 : Nat) : Int) := by clear hw0 hw1; rw [show (i : Int) + 2 = ((i + 2 : Nat) : Int) by omega]; exact wid (by omega) (by omega)
 have hw3 : wrap64 ((i : Int) + 3) = ((i + 3 : Nat) : Int) := by clear hw0 hw1 hw2; rw [show (i : Int) + 3 = ((i + 3 : Nat) : Int) by omega]; exact wid (by omega) (by omega)
 have w23 : wrap64 (2 + 1) = 3 := by decide +kernel
 have w34 : wrap64 (3 + 1) = 4 := by decide +kernel
 rw [platenref01_Size.j4]
 rw [hw0, hw1]
 clear hw0 hw1
 by_cases h1 : need p[i] = 1
 ·rw [h1, if_pos (by rfl)]
  rw [platenref01_Size.j5]
  rw [if_pos rfl, hg, if_pos (.inl h1)]; rfl
 ·have hn := need_cases p[i]
  rw [if_neg (by omega)]
  by_cases h2 : p.length - (i + 1) + 1 < need p[i]
  ·rw [if_pos (by omega)]
   rw [platenref01_Size.j5]
   rw [if_pos rfl, hg, if_pos (.inr h2)]; rfl
  ·have l1 : i + 1 < p.length := by clear hw2 hw3 w23 w34 hg; omega
   have l2 : 3 ≤ need p[i] → i + 2 < p.length := by clear hw2 hw3 w23 w34 hg; omega
   have l3 : 4 ≤ need p[i] → i + 3 < p.length := by clear hw2 hw3 w23 w34 hg; omega
   rw [if_neg (by omega), if_pos (by omega), if_pos (by omega), rd_nat p (i + 1) l1]
   rw [if_neg (by omega), getD_drop' p (i + 1) 0 (by omega)] at hg
   simp only [Nat.add_zero] at hg
   by_cases h3 : p[i + 1] < lo2 p[i]
   ·rw [if_pos h3]
    rw [platenref01_Size.j5]
    rw [if_pos rfl, hg, if_pos (.inl h3)]; rfl
   ·rw [if_neg h3]
    by_cases h4 : hi2 p[i] < p[i + 1]
    ·rw [decide_eq_true h4]
     rw [platenref01_Size.j5]
     rw [if_pos rfl, hg, if_pos (.inr h4)]; rfl
    ·rw [decide_eq_false h4]
     rw [if_neg (by omega)] at hg
     rw [platenref01_Size.j5]
     rw [if_neg (by simp)]
     rw [platenref01_Size.l0]
     rcases hn with hn | hn | hn | hn
     ·exact absurd hn h1
     ·rw [hn, if_neg (by decide), hg, hn]; rfl
     ·have l2 := l2 (by rw [hn]; omega)
      rw [hn, if_pos (by decide), hw2, if_pos (by omega), if_pos (by omega), rd_nat p (i + 2) l2, w23]
      rw [hn, getD_drop' p (i + 1) 1 (by omega)] at hg
      simp only [show i + 1 + 1 = i + 2 by omega] at hg
      clear hw2 hw3
      by_cases c1 : p[i + 2] < 128
      ·rw [if_pos c1, hg, if_pos ⟨by omega, fun c => by unfold cont at c; omega⟩]; rfl
      ·rw [if_neg c1]
       by_cases c2 : p[i + 2] > 191
       ·rw [if_pos c2, hg, if_pos ⟨by omega, fun c => by unfold cont at c; omega⟩]; rfl
       ·rw [if_neg c2]
        rw [platenref01_Size.l0]
        rw [if_neg (by decide), hg, if_neg (fun e => e.2 (by unfold cont; omega)), if_neg (by omega)]
     ·have l2 := l2 (by rw [hn]; omega)
      have l3 := l3 (by rw [hn]; omega)
      rw [hn, if_pos (by decide), hw2, if_pos (by omega), if_pos (by omega), rd_nat p (i + 2) l2, w23]
      rw [hn, getD_drop' p (i + 1) 1 (by omega), getD_drop' p (i + 1) 2 (by omega)] at hg
      simp only [show i + 1 + 1 = i + 2 by omega, show i + 1 + 2 = i + 3 by omega] at hg
      clear hw2
      by_cases c1 : p[i + 2] < 128
      ·rw [if_pos c1, hg, if_pos ⟨by omega, fun c => by unfold cont at c; omega⟩]; rfl
      ·rw [if_neg c1]
       by_cases c2 : p[i + 2] > 191
       ·rw [if_pos c2, hg, if_pos ⟨by omega, fun c => by unfold cont at c; omega⟩]; rfl
       ·rw [if_neg c2]
        rw [platenref01_Size.l0]
        rw [if_pos (by decide), hw3, if_pos (by omega), if_pos (by omega), rd_nat p (i + 3) l3, w34]
        rw [if_neg (fun e => e.2 (by unfold cont; omega))] at hg
        clear hw3
        by_cases c3 : p[i + 3] < 128
        ·rw [if_pos c3, hg, if_pos ⟨by omega, fun c => by unfold cont at c; omega⟩]; rfl
        ·rw [if_neg c3]
         by_cases c4 : p[i + 3] > 191
         ·rw [if_pos c4, hg, if_pos ⟨by omega, fun c => by unfold cont at c; omega⟩]; rfl
         ·rw [if_neg c4]
          rw [platenref01_Size.l0]
          rw [if_neg (by decide), hg, if_neg (fun e => e.2 (by unfold cont; omega))]
theorem platenref01_Size_spec (p : List Int) (i : Nat) (h : i < p.length) (hp : p.length ≤ 1000000000) (k : Nat) (hk : 12 < k) : platenref01_Size.f k p (i : Int) = some (gsz (p.drop i) : Int) := by
 obtain ⟨k, rfl⟩ : ∃ k', k = k' + 10 := ⟨k - 10, by omega⟩
 have h4 := size_j4 p i h hp
 unfold platenref01_Size.f
 rw [if_neg (by omega), decide_eq_false (by omega)]
 rw [platenref01_Size.j0]
 rw [if_neg (by simp), if_pos (by omega), if_pos (by omega), rd_nat p i h]
 generalize p[i] = b at *
 by_cases g1 : b ≥ 194 ∧ b ≤ 223
 ·have hn : need b = 2 := by unfold need; rw [if_pos (by omega)]
  rw [if_pos g1.1, decide_eq_true g1.2]
  rw [platenref01_Size.j1]
  rw [if_pos rfl, size_j3]
  rw [hn] at h4
  exact h4 (k + 1)
 ·have hj1 : (if b ≥ 194 then platenref01_Size.j1 (k + 9) p (i : Int) b 1 128 191 (decide (b ≤ 223)) else platenref01_Size.j1 (k + 9) p (i : Int) b 1 128 191 false) = platenref01_Size.j1 (k + 9) p (i : Int) b 1 128 191 false := by
   by_cases g : b ≥ 194
   ·rw [if_pos g, decide_eq_false (by omega)]
   ·rw [if_neg g]
  rw [hj1]
  rw [platenref01_Size.j1]
  rw [if_neg (by simp)]
  by_cases g2 : b ≥ 224 ∧ b ≤ 239
  ·have hn : need b = 3 := by unfold need; rw [if_neg (by omega), if_pos (by omega)]
   rw [if_pos g2.1, decide_eq_true g2.2]
   rw [platenref01_Size.j2]
   rw [if_pos rfl, size_j3]
   rw [hn] at h4
   exact h4 k
  ·have hj2 : (if b ≥ 224 then platenref01_Size.j2 (k + 8) p (i : Int) b 1 128 191 (decide (b ≤ 239)) else platenref01_Size.j2 (k + 8) p (i : Int) b 1 128 191 false) = platenref01_Size.j2 (k + 8) p (i : Int) b 1 128 191 false := by
    by_cases g : b ≥ 224
    ·rw [if_pos g, decide_eq_false (by omega)]
    ·rw [if_neg g]
   rw [hj2]
   rw [platenref01_Size.j2]
   rw [if_neg (by simp)]
   by_cases g3 : b ≥ 240 ∧ b ≤ 244
   ·have hn : need b = 4 := by unfold need; rw [if_neg (by omega), if_neg (by omega), if_pos (by omega)]
    rw [if_pos g3.1, if_pos g3.2, size_j3]
    rw [hn] at h4
    exact h4 k
   ·have hn : need b = 1 := by unfold need; rw [if_neg (by omega), if_neg (by omega), if_neg (by omega)]
    rw [hn] at h4
    by_cases g : b ≥ 240
    ·rw [if_pos g, if_neg (by omega), size_j3]; exact h4 k
    ·rw [if_neg g, size_j3]; exact h4 k
theorem startsF_len (p : List Int) (n : Nat) : ∀ x, (startsF n p x).length ≤ n := by
 induction n with
 | zero => intro x; simp [startsF]
 | succ n ih =>
  intro x; simp only [startsF]; split
  ·have := ih (x + gsz (p.drop x)); simp only [List.length_cons]; omega
  ·simp
theorem platenref01_Starts_l0 (p : List Int) (hp : p.length ≤ 1000000000) (n : Nat) : ∀ (k x : Nat) (acc : List Int), x ≤ p.length → p.length ≤ x + n → acc.length ≤ x → n + 14 < k →
  platenref01_Starts.l0 k p acc (x : Int) = some (acc ++ zs (startsF n p x)) := by
 induction n with
 | zero =>
  intro k x acc h1 h2 _ hk
  obtain ⟨k, rfl⟩ := ex_succ1 hk
  rw [platenref01_Starts.l0, if_neg (by omega)]
  simp [startsF, zs]
 | succ n ih =>
  intro k x acc h1 h2 ha hk
  obtain ⟨k, rfl⟩ := ex_succ1 hk
  rw [platenref01_Starts.l0]
  simp only [startsF]
  by_cases h : x < p.length
  ·have hg := gd_pos p x h
   have hle := gd_le p x h1
   have hnext := ih k (x + gsz (p.drop x)) (acc ++ [(x : Int)]) hle (by omega) (by simp only [List.length_append, List.length_cons, List.length_nil]; omega) (by omega)
   rw [if_pos (by omega), if_pos (by omega), if_pos h, platenref01_Size_spec p x h hp k (by omega), Option.bind_some]
   have hw : wrap64 ((x : Int) + (gsz (p.drop x) : Int)) = ((x + gsz (p.drop x) : Nat) : Int) := by
    rw [← Int.natCast_add]; exact wid (by omega) (by omega)
   rw [hw, hnext]
   simp [zs]
  ·rw [if_neg (by omega), if_neg h]; simp [zs]
theorem platenref01_Starts_spec (p : List Int) (hp : p.length ≤ 1000000000) (k : Nat) (hk : p.length + 14 < k) : platenref01_Starts.f k p = some (zs (starts p)) := by
 have := platenref01_Starts_l0 p hp p.length k 0 [] (by omega) (by omega) (by simp) hk
 simpa [platenref01_Starts.f, starts] using this
theorem platenref01_Floor_l0 (p : List Int) (a : Nat) (ha : a < p.length) (hp : p.length ≤ 1000000000) (n : Nat) : ∀ (k x idx : Nat) (S : List Nat) (acc : Int), Bd p x → p.length ≤ x + n → idx ≤ S.length → S.length ≤ 1000000000 → S.drop idx = startsF n p x → n < k →
  platenref01_Floor.l0 k (a : Int) acc (zs S) (idx : Int) = some (if a < x then acc else (flo p a : Int)) := by
 induction n with
 | zero =>
  intro k x idx S acc hx h2 hi hS hd hk
  obtain ⟨k, rfl⟩ := ex_succ1 hk
  have := congrArg List.length hd
  simp only [List.length_drop, startsF, List.length_nil] at this
  rw [platenref01_Floor.l0, zs_len, if_neg (by omega), if_pos (by omega)]
 | succ n ih =>
  intro k x idx S acc hx h2 hi hS hd hk
  obtain ⟨k, rfl⟩ := ex_succ1 hk
  simp only [startsF] at hd
  by_cases h : x < p.length
  ·rw [if_pos h] at hd
   have hlen := congrArg List.length hd
   simp only [List.length_drop, List.length_cons] at hlen
   have hlt : idx < S.length := by omega
   rw [drop_at S idx hlt, List.cons.injEq] at hd
   obtain ⟨e1, e2⟩ := hd
   have hg := gd_pos p x h
   have hnext := fun acc => ih k (x + gsz (p.drop x)) (idx + 1) S acc (hx.next h) (by omega) (by omega) hS e2 (by omega)
   rw [platenref01_Floor.l0, zs_len, if_pos (by omega), if_pos (by omega), rd_zs S idx hlt, e1]
   have hw : wrap64 ((idx : Int) + 1) = ((idx + 1 : Nat) : Int) := wnat (by omega)
   rw [hw, hnext, hnext]
   clear hw
   by_cases c : a < x
   ·rw [if_neg (by omega), if_pos (by omega), if_pos c]
   ·rw [if_pos (by omega), if_neg c]
    by_cases c2 : a < x + gsz (p.drop x)
    ·rw [if_pos c2, flo_bd hx h a (by omega) c2]
    ·rw [if_neg c2]
  ·rw [if_neg h] at hd
   have := congrArg List.length hd
   simp only [List.length_drop, List.length_nil] at this
   rw [platenref01_Floor.l0, zs_len, if_neg (by omega), if_pos (by omega)]
theorem platenref01_Floor_neg (a : Int) (ha : a < 0) (S : List Nat) (hS : S.length ≤ 1000000000) (n : Nat) : ∀ (k idx : Nat) (acc : Int), idx + n = S.length → n < k → platenref01_Floor.l0 k a acc (zs S) (idx : Int) = some acc := by
 induction n with
 | zero =>
  intro k idx acc hi hk
  obtain ⟨k, rfl⟩ := ex_succ1 hk
  rw [platenref01_Floor.l0, zs_len, if_neg (by omega)]
 | succ n ih =>
  intro k idx acc hi hk
  obtain ⟨k, rfl⟩ := ex_succ1 hk
  have hlt : idx < S.length := by omega
  have hnext := ih k (idx + 1) acc (by omega) (by omega)
  rw [platenref01_Floor.l0, zs_len, if_pos (by omega), if_pos (by omega), rd_zs S idx hlt, if_neg (by omega)]
  have hw : wrap64 ((idx : Int) + 1) = ((idx + 1 : Nat) : Int) := wnat (by omega)
  rw [hw, hnext]
theorem platenref01_Floor_spec (p : List Int) (hp : p.length ≤ 1000000000) (a : Int) (k : Nat) (hk : p.length + 14 < k) : platenref01_Floor.f k p a = some (flo p (clip p a) : Int) := by
 have hsl := startsF_len p p.length 0
 unfold platenref01_Floor.f
 by_cases h : a ≥ (p.length : Int)
 ·have : clip p a = p.length := by unfold clip; omega
  rw [if_pos h, this, flo_self (Bd.end_ p)]
 ·rw [if_neg h, platenref01_Starts_spec p hp k hk, Option.bind_some]
  by_cases h0 : a < 0
  ·have : clip p a = 0 := by unfold clip; omega
   rw [this, flo_self .zero]
   exact platenref01_Floor_neg a h0 (starts p) (by unfold starts; omega) (starts p).length k 0 0 (by omega) (by unfold starts; omega)
  ·have hc : clip p a = a.toNat := by unfold clip; omega
   have := platenref01_Floor_l0 p a.toNat (by omega) hp p.length k 0 0 (starts p) 0 .zero (by omega) (by omega) (by unfold starts; omega) rfl (by omega)
   rw [show ((a.toNat : Nat) : Int) = a by omega, if_neg (by omega)] at this
   rw [hc]
   exact this
theorem last_size (p : List Int) (hp : p.length ≤ 1000000000) (i n : Nat) (h0 : 0 < i) (hi : i ≤ p.length) (h1 : 1 ≤ n) (hn : n ≤ i) (k : Nat) (hk : 12 < k) :
  platenref01_Size.f k (p.take i) (wrap64 ((i : Int) - (n : Int))) = some (gsz ((p.take i).drop (i - n)) : Int) := by
 have hw : wrap64 ((i : Int) - (n : Int)) = ((i - n : Nat) : Int) := by
  rw [show (i : Int) - (n : Int) = ((i - n : Nat) : Int) by omega]; exact wid (by omega) (by omega)
 rw [hw]
 clear hw
 exact platenref01_Size_spec _ _ (by simp only [List.length_take]; omega) (by simp only [List.length_take]; omega) k hk
theorem last_step (p : List Int) (hp : p.length ≤ 1000000000) (i n : Nat) (h0 : 0 < i) (hi : i ≤ p.length) (h2 : 2 ≤ n) (h4 : n ≤ 4) (k : Nat) (hk : 12 < k) :
  platenref01_Last.l0 (k + 2) p (i : Int) (n : Int) = if n ≤ i ∧ gsz ((p.take i).drop (i - n)) = n then some (n : Int) else if n ≤ i then platenref01_Last.l0 k p (i : Int) ((n + 1 : Nat) : Int) else some 1 := by
 rw [platenref01_Last.l0, if_pos (by omega)]
 by_cases hn : n ≤ i
 ·rw [decide_eq_true (by omega), platenref01_Last.j2, if_pos rfl, if_pos (by omega), if_pos (by omega), Int.toNat_natCast, last_size p hp i n h0 hi (by omega) hn k hk, Option.bind_some]
  have hw : wrap64 ((n : Int) + 1) = ((n + 1 : Nat) : Int) := wnat (by omega)
  rw [hw]
  clear hw
  by_cases hg : gsz ((p.take i).drop (i - n)) = n
  ·rw [if_pos (by omega), if_pos ⟨hn, hg⟩]
  ·rw [if_neg (by omega), if_neg (fun e => hg e.2), if_pos hn]
 ·rw [decide_eq_false (by omega), platenref01_Last.j2, if_neg (by simp), if_neg (fun e => hn e.1), if_neg hn]
theorem platenref01_Last_spec (p : List Int) (hp : p.length ≤ 1000000000) (i : Nat) (h0 : 0 < i) (hi : i ≤ p.length) (k : Nat) (hk : 30 < k) : platenref01_Last.f k p (i : Int) = some (lsz (p.take i) : Int) := by
 obtain ⟨k, rfl⟩ : ∃ k', k = k' + 9 := ⟨k - 9, by omega⟩
 have hlen : (p.take i).length = i := by simp only [List.length_take]; omega
 have hne : p.take i ≠ [] := by intro e; rw [e] at hlen; simp at hlen; omega
 unfold platenref01_Last.f lsz
 rw [if_neg (by omega), decide_eq_false (by omega), platenref01_Last.j0, if_neg (by simp), if_neg hne, hlen]
 have s2 := last_step p hp i 2 h0 hi (by omega) (by omega) (k + 6) (by omega)
 have s3 := last_step p hp i 3 h0 hi (by omega) (by omega) (k + 4) (by omega)
 have s4 := last_step p hp i 4 h0 hi (by omega) (by omega) (k + 2) (by omega)
 rw [show platenref01_Last.l0 (k + 8) p (i : Int) 2 = platenref01_Last.l0 (k + 6 + 2) p (i : Int) ((2 : Nat) : Int) from rfl, s2]
 by_cases c2 : 2 ≤ i ∧ gsz ((p.take i).drop (i - 2)) = 2
 ·rw [if_pos c2, if_pos c2]
 ·rw [if_neg c2, if_neg c2]
  by_cases d2 : 2 ≤ i
  ·rw [if_pos d2, show platenref01_Last.l0 (k + 6) p (i : Int) ((2 + 1 : Nat) : Int) = platenref01_Last.l0 (k + 4 + 2) p (i : Int) ((3 : Nat) : Int) from rfl, s3]
   by_cases c3 : 3 ≤ i ∧ gsz ((p.take i).drop (i - 3)) = 3
   ·rw [if_pos c3, if_pos c3]
   ·rw [if_neg c3, if_neg c3]
    by_cases d3 : 3 ≤ i
    ·rw [if_pos d3, show platenref01_Last.l0 (k + 4) p (i : Int) ((3 + 1 : Nat) : Int) = platenref01_Last.l0 (k + 2 + 2) p (i : Int) ((4 : Nat) : Int) from rfl, s4]
     by_cases c4 : 4 ≤ i ∧ gsz ((p.take i).drop (i - 4)) = 4
     ·rw [if_pos c4, if_pos c4]
     ·rw [if_neg c4, if_neg c4]
      by_cases d4 : 4 ≤ i
      ·rw [if_pos d4, platenref01_Last.l0, if_neg (by omega), platenref01_Last.j2, if_neg (by simp)]; rfl
      ·rw [if_neg d4]; rfl
    ·rw [if_neg d3, if_neg (fun e => d3 (by omega))]; rfl
  ·rw [if_neg d2, if_neg (fun e => d2 (by omega)), if_neg (fun e => d2 (by omega))]; rfl
theorem platenref03_Ends_l0 (p : List Int) (hp : p.length ≤ 1000000000) (m : Nat) : ∀ (k i : Nat) (acc : List Int), i + m = p.length → acc.length ≤ i → m < k →
  platenref03_Ends.l0 k p acc (i : Int) = some (acc ++ zs (endsF i (p.drop i))) := by
 induction m with
 | zero =>
  intro k i acc hi ha hk
  obtain ⟨k, rfl⟩ := ex_succ hk
  rw [platenref03_Ends.l0, if_neg (by omega), List.drop_eq_nil_of_le (by omega)]
  simp [endsF, zs]
 | succ m ih =>
  intro k i acc hi ha hk
  obtain ⟨k, rfl⟩ := ex_succ hk
  have hlt : i < p.length := by omega
  have hw : wrap64 ((i : Int) + 1) = ((i + 1 : Nat) : Int) := wnat (by omega)
  have h1 := ih k (i + 1) acc (by omega) (by omega) (by omega)
  have h2 := ih k (i + 1) (acc ++ [(i : Int)]) (by omega) (by simp only [List.length_append, List.length_cons, List.length_nil]; omega) (by omega)
  rw [platenref03_Ends.l0, hw, h1, h2]
  clear hw h1 h2
  rw [if_pos (by omega), if_pos (by omega), rd_nat p i hlt, if_pos (show acc.length < 17592186044416 by omega), drop_at p i hlt]
  simp only [endsF]
  by_cases h : p[i] = 10
  ·rw [if_pos h, if_pos h]; simp [zs]
  ·rw [if_neg h, if_neg h]
theorem platenref03_Ends_spec (p : List Int) (hp : p.length ≤ 1000000000) (k : Nat) (hk : p.length < k) : platenref03_Ends.f k p = some (zs (endsF 0 p)) := by
 have := platenref03_Ends_l0 p hp p.length k 0 [] (by omega) (by simp) hk
 simpa [platenref03_Ends.f] using this
theorem platenref03_Of_l0 (L : List Nat) (a : Int) (hL : L.length ≤ 1000000000) (m : Nat) : ∀ (k i n : Nat), i + m = L.length → n ≤ i → m < k →
  platenref03_Of.l0 k a (n : Int) (zs L) (i : Int) = some ((n + ((L.drop i).filter fun (e : Nat) => decide ((e : Int) < a)).length : Nat) : Int) := by
 induction m with
 | zero =>
  intro k i n hi hn hk
  obtain ⟨k, rfl⟩ := ex_succ hk
  rw [platenref03_Of.l0, zs_len, if_neg (by omega), List.drop_eq_nil_of_le (by omega)]; rfl
 | succ m ih =>
  intro k i n hi hn hk
  obtain ⟨k, rfl⟩ := ex_succ hk
  have hlt : i < L.length := by omega
  have hw : wrap64 ((i : Int) + 1) = ((i + 1 : Nat) : Int) := wnat (by omega)
  have hw2 : wrap64 ((n : Int) + 1) = ((n + 1 : Nat) : Int) := by clear hw; exact wnat (by omega)
  have h1 := ih k (i + 1) n (by omega) (by omega) (by omega)
  have h2 := ih k (i + 1) (n + 1) (by omega) (by omega) (by omega)
  rw [platenref03_Of.l0, hw, hw2, h1, h2]
  clear hw hw2 h1 h2
  rw [zs_len, if_pos (by omega), if_pos (by omega), rd_zs L i hlt, drop_at L i hlt]
  by_cases h : (L[i] : Int) < a
  ·rw [if_pos h, List.filter_cons_of_pos (by simpa using h), List.length_cons]
   congr 2; omega
  ·rw [if_neg h, List.filter_cons_of_neg (by simpa using h)]
theorem platenref03_Of_spec (p : List Int) (hp : p.length ≤ 1000000000) (a : Int) (k : Nat) (hk : p.length < k) : platenref03_Of.f k p a = some (row p (clip p a) : Int) := by
 have hn := nls_le p
 have hl := endsF_length p 0
 unfold platenref03_Of.f
 rw [platenref03_Ends_spec p hp k hk, Option.bind_some]
 have := platenref03_Of_l0 (endsF 0 p) a (by omega) (endsF 0 p).length k 0 0 (by omega) (by omega) (by omega)
 rw [Int.natCast_zero, List.drop_zero, Nat.zero_add] at this
 rw [this]
 have he := ends_ahead p 0 a.toNat
 have ef : (endsF 0 p).filter (fun (e : Nat) => decide ((e : Int) < a)) = (endsF 0 p).filter (fun e => decide (e < 0 + a.toNat)) := by
  refine List.filter_congr fun x _ => ?_
  rw [decide_eq_decide]; omega
 rw [ef, he]
 unfold row clip
 by_cases hc : a.toNat ≤ p.length
 ·rw [show min a.toNat p.length = a.toNat by omega]
 ·rw [show min a.toNat p.length = p.length by omega, List.take_of_length_le (by omega), List.take_of_length_le (by omega)]
theorem steps19_at : platenlaw19_steps.f 60 = some true := by kernel_rfl
theorem steps19_spec (k : Nat) (hk : 60 ≤ k) : platenlaw19_steps.f k = some true := by
 induction hk with
 | refl => exact steps19_at
 | step _ ih => exact platenlaw19_steps.mono _ _ ih
end Go.Proofs.YtloafpnniooliaaDoor.Ad
namespace Go.Proofs.YtloafpnniooliaaDoor.Pure
open Go Go.RowKit Go.Proofs.YtloafpnniooliaaDoor.Pa Go.Proofs.YtloafpnniooliaaDoorW.PrintWords Go.Proofs.YtloafpnniooliaaDoorW.PrintLast Go.Proofs.YtloafpnniooliaaDoorW.PrintMore Go.Proofs.YtloafpnniooliaaDoor.Gen Go.Proofs.YtloafpnniooliaaDoor.Ad
set_option linter.unusedVariables false
set_option linter.unusedSimpArgs false
theorem MotionFinds : platenlaw19_MotionFinds.Pure := by
 intro p a s n _ _ hp ha hs hn
 have bp := bytes_of hp
 have ba := u8_of ha
 have bs := u8_of hs
 have bn := u8_of hn
 clear ha hs hn
 refine ⟨31106, ?_⟩
 unfold platenlaw19_MotionFinds.f
 rw [steps19_spec 31106 (by omega), Option.bind_some, if_pos rfl]
 by_cases h : (p.length : Int) > 200
 ·rw [decide_eq_true h, platenlaw19_MotionFinds.j0, if_pos rfl, steps19_spec 31105 (by omega), Option.bind_some]
 ·have w1 : wrap64 n = n := wid (by omega) (by omega)
  have w2 : wrap64 a = a := by clear w1; exact wid (by omega) (by omega)
  obtain ⟨n, rfl⟩ : ∃ z : Nat, n = (z : Int) := ⟨n.toNat, by clear w1 w2; omega⟩
  have hn := Nat.mod_lt n (show 0 < 4 by decide)
  have w3 : wrap64 (Int.tmod (n : Int) 4 + 1) = ((n % 4 + 1 : Nat) : Int) := by
   clear w1 w2
   rw [show Int.tmod (n : Int) 4 = ((n % 4 : Nat) : Int) from (Int.ofNat_tmod n 4).symm]
   exact wnat (by omega)
  rw [decide_eq_false h, platenlaw19_MotionFinds.j0, if_neg (by simp), w1, w2, w3]
  clear w1 w2 w3
  have hfl := flo_facts (clip_le p a)
  have g1 := motion_Go_find p bp (by omega) 102 (.inl rfl) (flo p (clip p a) : Int) s ((n % 4 + 1 : Nat) : Int) 8 bs.1 bs.2 (by omega) 31105 (by omega)
  have g2 := motion_Go_find p bp (by omega) 116 (.inr rfl) (flo p (clip p a) : Int) s ((n % 4 + 1 : Nat) : Int) 8 bs.1 bs.2 (by omega) 31105 (by omega)
  rw [clip_nat hfl.1.le, flo_self hfl.1, show (max ((n % 4 + 1 : Nat) : Int) 1).toNat = n % 4 + 1 by omega] at g1 g2
  rw [platenref01_Floor_spec p (by omega) a 31105 (by omega), Option.bind_some, g1, Option.bind_some, g2, Option.bind_some]
  clear g1 g2
  have hBf := hfl.1
  generalize flo p (clip p a) = f at *
  have hle := hBf.le
  cases e : itr (fnb p (en p f) s) (n % 4 + 1) f with
  | none =>
   have e1 : ∀ key, fstp p key s (n % 4 + 1) f = none := by intro key; unfold fstp; rw [e]
   rw [e1, e1]
   rfl
  | some b =>
   have hf := fnd_facts hBf (by omega) e
   have hfle := hf.1.le
   have e1 : fstp p 102 s (n % 4 + 1) f = some (flo p b) := by
    unfold fstp; rw [e]; exact if_pos rfl
   have e2 : fstp p 116 s (n % 4 + 1) f = if f < flo p b then some (flo p b - lsz (p.take (flo p b))) else none := by
    unfold fstp; rw [e]; exact if_neg (by decide)
   rw [e1, e2]
   have hj : ∀ v : Int × Bool × Bool × Int, v = goz false true (if f < flo p b then some (flo p b - lsz (p.take (flo p b))) else none) → platenlaw19_MotionFinds.j1 31105 p (f : Int) v.2.2.2 (decide ((flo p b : Int) < (f : Int))) (flo p b : Int) false true v.1 v.2.1 v.2.2.1 = some true := by
    rintro v rfl
    rw [decide_eq_false (by omega), platenlaw19_MotionFinds.j1, if_neg (by simp)]
    by_cases g : f < flo p b
    ·obtain ⟨d, h1, h2, h3, h4, h5⟩ := last_sign hf.1 (by omega)
     have hfd : f ≤ d := by
      by_cases g3 : f ≤ d
      ·exact g3
      ·have := hBf.clear d (by omega); omega
     have hw : wrap64 ((flo p b : Int) - (lsz (p.take (flo p b)) : Int)) = (d : Int) := by rw [wid (by omega) (by omega)]; omega
     rw [if_pos g, h5]
     refine (if_pos rfl).trans ?_
     rw [platenref01_Last_spec p (by omega) (flo p b) (by omega) hfle 31104 (by omega), Option.bind_some, hw]
     refine (if_pos rfl).trans ((if_pos ?_).trans rfl)
     show (d : Int) ≥ (f : Int)
     clear hw
     omega
    ·rw [if_neg g]
     refine (if_neg (by decide)).trans ?_
     have : flo p b = f := by omega
     rw [this]
     simp
   have hgz : ∀ l w b', goz l w (some b') = ((b' : Int), l, w, 0) := fun _ _ _ => rfl
   rw [hgz]
   refine (if_pos rfl).trans ((if_pos rfl).trans ?_)
   dsimp only
   rw [platenref03_Of_spec p (by omega) _ 31105 (by omega), Option.bind_some, platenref03_Of_spec p (by omega) _ 31105 (by omega), Option.bind_some, clip_nat hfle, clip_nat hle, hf.2.2.1, if_pos rfl]
   exact hj _ rfl
end Go.Proofs.YtloafpnniooliaaDoor.Pure
