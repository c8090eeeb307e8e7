/- Proved: down by n lines comes to the line that it says, at the column where it began, or the line's end, for any bytes, places and tabs. -/
import Derived.Test.YtloafpnniooliaaDoorExtBytes
import Derived.Test.YtloafpnniooliaaDoorExtTabs
import Derived.Test.YtloafpnniooliaaDoorPax0
import Derived.Test.YtloafpnniooliaaDoorPax10
import Derived.Test.YtloafpnniooliaaDoorPax11
import Derived.Test.YtloafpnniooliaaDoorPax12
import Derived.Test.YtloafpnniooliaaDoorPax13
import Derived.Test.YtloafpnniooliaaDoorPax14
import Derived.Test.YtloafpnniooliaaDoorPax15
import Derived.Test.YtloafpnniooliaaDoorPax2
import Derived.Test.YtloafpnniooliaaDoorPax26
import Derived.Test.YtloafpnniooliaaDoorPax3
import Derived.Test.YtloafpnniooliaaDoorPax4
import Derived.Test.YtloafpnniooliaaDoorPax5
import Derived.Test.YtloafpnniooliaaDoorPax9
import Derived.Test.YtloafpnniooliaaDoorGenMotionLines
namespace Go.Proofs.YtloafpnniooliaaDoor.Ad
open Go Go.RowKit Go.Proofs.YtloafpnniooliaaDoor.Pa Go.Proofs.YtloafpnniooliaaDoorW.PrintWords Go.Proofs.YtloafpnniooliaaDoorW.PrintLast Go.Proofs.YtloafpnniooliaaDoorW.PrintMore Go.Proofs.YtloafpnniooliaaDoor.Gen
set_option linter.unusedVariables false
set_option linter.unusedSimpArgs false
def mk (x : NN) : S39 := ⟨(x.1 : Int), (x.2 : Int)⟩
theorem rd_mk (l : List NN) (i : Nat) (h : i < l.length) : rd_T39 (l.map mk) (i : Int) = mk l[i] := by
 simp [rd_T39, h]
theorem mk_f0 (a b : Nat) : (mk (a, b)).f0 = (a : Int) := rfl
theorem mk_f1 (a b : Nat) : (mk (a, b)).f1 = (b : Int) := rfl
theorem ex_succ' {k n : Nat} (h : n < k) : ∃ m, k = m + 1 := ⟨k - 1, by omega⟩
theorem slow_sz (n b0 b1 b2 b3 sz lo hi : Nat) : (Lib.slowN n b0 b1 b2 b3 sz lo hi).2 =
  if n < sz ∨ (b1 < lo ∨ hi < b1) then 1 else if sz ≤ 2 then 2 else if b2 < 128 ∨ 191 < b2 then 1 else if sz ≤ 3 then 3 else if b3 < 128 ∨ 191 < b3 then 1 else 4 := by
 unfold Lib.slowN
 by_cases h1 : n < sz
 ·simp [h1]
 ·by_cases h2 : b1 < lo ∨ hi < b1
  ·simp [h1, h2]
  ·simp only [h1, h2, if_false, or_self]
   (repeat' split) <;> rfl
def szN (n b0 b1 b2 b3 : Nat) : Nat :=
 if need (b0 : Int) = 2 ∧ 2 ≤ n ∧ lo2 (b0 : Int) ≤ (b1 : Int) ∧ (b1 : Int) ≤ hi2 (b0 : Int) then 2
 else if need (b0 : Int) = 3 ∧ 3 ≤ n ∧ lo2 (b0 : Int) ≤ (b1 : Int) ∧ (b1 : Int) ≤ hi2 (b0 : Int) ∧ cont (b2 : Int) then 3
 else if need (b0 : Int) = 4 ∧ 4 ≤ n ∧ lo2 (b0 : Int) ≤ (b1 : Int) ∧ (b1 : Int) ≤ hi2 (b0 : Int) ∧ cont (b2 : Int) ∧ cont (b3 : Int) then 4 else 1
set_option maxHeartbeats 4000000 in
theorem decN_sz (n b0 b1 b2 b3 : Nat) (hn : 1 ≤ n) (h0 : b0 < 256) (h1 : b1 < 256) (h2 : b2 < 256) (h3 : b3 < 256) : (Lib.decodeN n b0 b1 b2 b3).2 = szN n b0 b1 b2 b3 := by
 have one : ∀ b : Nat, need (b : Int) = 1 → szN n b b1 b2 b3 = 1 := by
  intro b hb; simp [szN, hb]
 have slow : Lib.firstT b0 < 240 → (Lib.decodeN n b0 b1 b2 b3).2 = szN n b0 b1 b2 b3 := by
  intro hx
  rw [← Lib.slow_eq n b0 b1 b2 b3 hn h1 h2 h3 hx, slow_sz]
  rcases Lib.firstT_low hx with h | h | h | h | h | h | h
  ·rw [Lib.firstT_C2 h]
   have e : need (b0 : Int) = 2 := by unfold need; rw [if_pos (by omega)]
   have el : lo2 (b0 : Int) = 128 := by unfold lo2; rw [if_neg (by omega), if_neg (by omega)]
   have eh : hi2 (b0 : Int) = 191 := by unfold hi2; rw [if_neg (by omega), if_neg (by omega)]
   simp only [szN, e, el, eh, Lib.accLo, Lib.accHi, cont]
   simp (decide := true) only [if_true, if_false, true_and, false_and, Nat.reduceDiv, Nat.reduceMod]
   (repeat' split) <;> omega
  ·subst h
   simp only [szN, show need ((224 : Nat) : Int) = 3 by decide, show lo2 ((224 : Nat) : Int) = 160 by decide, show hi2 ((224 : Nat) : Int) = 191 by decide, show Lib.firstT 224 = 19 by decide, Lib.accLo, Lib.accHi, cont]
   simp (decide := true) only [if_true, if_false, true_and, false_and, Nat.reduceDiv, Nat.reduceMod]
   (repeat' split) <;> omega
  ·rw [Lib.firstT_E1 h]
   have e : need (b0 : Int) = 3 := by unfold need; rw [if_neg (by omega), if_pos (by omega)]
   have el : lo2 (b0 : Int) = 128 := by unfold lo2; rw [if_neg (by omega), if_neg (by omega)]
   have eh : hi2 (b0 : Int) = 191 := by unfold hi2; rw [if_neg (by omega), if_neg (by omega)]
   simp only [szN, e, el, eh, Lib.accLo, Lib.accHi, cont]
   simp (decide := true) only [if_true, if_false, true_and, false_and, Nat.reduceDiv, Nat.reduceMod]
   (repeat' split) <;> omega
  ·subst h
   simp only [szN, show need ((237 : Nat) : Int) = 3 by decide, show lo2 ((237 : Nat) : Int) = 128 by decide, show hi2 ((237 : Nat) : Int) = 159 by decide, show Lib.firstT 237 = 35 by decide, Lib.accLo, Lib.accHi, cont]
   simp (decide := true) only [if_true, if_false, true_and, false_and, Nat.reduceDiv, Nat.reduceMod]
   (repeat' split) <;> omega
  ·subst h
   simp only [szN, show need ((240 : Nat) : Int) = 4 by decide, show lo2 ((240 : Nat) : Int) = 144 by decide, show hi2 ((240 : Nat) : Int) = 191 by decide, show Lib.firstT 240 = 52 by decide, Lib.accLo, Lib.accHi, cont]
   simp (decide := true) only [if_true, if_false, true_and, false_and, Nat.reduceDiv, Nat.reduceMod]
   (repeat' split) <;> omega
  ·rw [Lib.firstT_F1 h]
   have e : need (b0 : Int) = 4 := by unfold need; rw [if_neg (by omega), if_neg (by omega), if_pos (by omega)]
   have el : lo2 (b0 : Int) = 128 := by unfold lo2; rw [if_neg (by omega), if_neg (by omega)]
   have eh : hi2 (b0 : Int) = 191 := by unfold hi2; rw [if_neg (by omega), if_neg (by omega)]
   simp only [szN, e, el, eh, Lib.accLo, Lib.accHi, cont]
   simp (decide := true) only [if_true, if_false, true_and, false_and, Nat.reduceDiv, Nat.reduceMod]
   (repeat' split) <;> omega
  ·subst h
   simp only [szN, show need ((244 : Nat) : Int) = 4 by decide, show lo2 ((244 : Nat) : Int) = 128 by decide, show hi2 ((244 : Nat) : Int) = 143 by decide, show Lib.firstT 244 = 68 by decide, Lib.accLo, Lib.accHi, cont]
   simp (decide := true) only [if_true, if_false, true_and, false_and, Nat.reduceDiv, Nat.reduceMod]
   (repeat' split) <;> omega
 by_cases ha : b0 < 128
 ·have hx : Lib.firstT b0 = 240 := by unfold Lib.firstT; rw [if_pos ha]
  rw [Lib.ascii_eq n b0 b1 b2 b3 hx, one b0 (by unfold need; rw [if_neg (by omega), if_neg (by omega), if_neg (by omega)])]
 ·by_cases hb : b0 < 194 ∨ 244 < b0
  ·have hx : Lib.firstT b0 = 241 := by unfold Lib.firstT; (repeat' split) <;> omega
   rw [Lib.bad_eq n b0 b1 b2 b3 h0 hx, one b0 (by unfold need; rw [if_neg (by omega), if_neg (by omega), if_neg (by omega)])]
  ·have hx : Lib.firstT b0 < 240 := by
    clear slow one
    have e1 : 194 ≤ b0 := by omega
    have e2 : b0 ≤ 244 := by omega
    clear hb
    unfold Lib.firstT
    (repeat' split) <;> omega
   exact slow hx
theorem decL_sz (l : List Int) (hb : Bytes l) : (decL l).2 = gsz l := by
 have nat : ∀ x ∈ l, ∃ n : Nat, n < 256 ∧ x = (n : Int) := fun x hx => ⟨x.toNat, by have := hb x hx; omega, by have := hb x hx; omega⟩
 match l, nat with
 | [], _ => rfl
 | [b], nat =>
  obtain ⟨b0, h0, rfl⟩ := nat b (by simp)
  simp only [decL, List.length_cons, List.length_nil, List.getD_cons_zero, List.getD_cons_succ, List.getD_nil, Int.toNat_natCast]
  rw [if_neg (by omega), decN_sz _ _ _ _ _ (by omega) h0 (by simp) (by simp) (by simp)]
  simp [szN, gsz]
 | [b, c], nat =>
  obtain ⟨b0, h0, rfl⟩ := nat b (by simp)
  obtain ⟨b1, h1, rfl⟩ := nat c (by simp)
  simp only [decL, List.length_cons, List.length_nil, List.getD_cons_zero, List.getD_cons_succ, List.getD_nil, Int.toNat_natCast]
  rw [if_neg (by omega), decN_sz _ _ _ _ _ (by omega) h0 h1 (by simp) (by simp)]
  simp [szN, gsz]
 | [b, c, d], nat =>
  obtain ⟨b0, h0, rfl⟩ := nat b (by simp)
  obtain ⟨b1, h1, rfl⟩ := nat c (by simp)
  obtain ⟨b2, h2, rfl⟩ := nat d (by simp)
  simp only [decL, List.length_cons, List.length_nil, List.getD_cons_zero, List.getD_cons_succ, List.getD_nil, Int.toNat_natCast]
  rw [if_neg (by omega), decN_sz _ _ _ _ _ (by omega) h0 h1 h2 (by simp)]
  simp [szN, gsz]
 | b :: c :: d :: e :: t, nat =>
  obtain ⟨b0, h0, rfl⟩ := nat b (by simp)
  obtain ⟨b1, h1, rfl⟩ := nat c (by simp)
  obtain ⟨b2, h2, rfl⟩ := nat d (by simp)
  obtain ⟨b3, h3, rfl⟩ := nat e (by simp)
  simp only [decL, List.length_cons, List.length_nil, List.getD_cons_zero, List.getD_cons_succ, List.getD_nil, Int.toNat_natCast]
  rw [if_neg (by omega), decN_sz _ _ _ _ _ (by omega) h0 h1 h2 h3]
  simp [szN, gsz]
theorem bytes_drop {l : List Int} (h : Bytes l) (n : Nat) : Bytes (l.drop n) := fun x hx => h x (List.mem_of_mem_drop hx)
theorem slow_f (l : List Int) (hb : Bytes l) : utf8_decodeRuneSlow.f l = some (((decL l).1 : Int), ((decL l).2 : Int)) := by
 unfold utf8_decodeRuneSlow.f
 rw [if_pos]
 rw [List.all_eq_true]
 intro x hx
 have := hb x (List.mem_of_mem_take hx)
 simp only [byteB, Bool.and_eq_true, decide_eq_true_eq]
 omega
def runeOf (l : List Int) : Int := if 0 < l.length ∧ l.getD 0 0 < 128 then wrap32 (l.getD 0 0) else ((decL l).1 : Int)
theorem utf8_DecodeRune_spec (l : List Int) (hb : Bytes l) (k : Nat) (hk : 0 < k) : utf8_DecodeRune.f k l = some (runeOf l, (gsz l : Int)) := by
 obtain ⟨k, rfl⟩ := ex_succ' hk
 unfold utf8_DecodeRune.f
 simp only [utf8_DecodeRune.l0]
 by_cases h : 0 < l.length
 ·rw [if_pos (by omega), if_pos (by omega), if_pos (by omega)]
  have e : rd l 0 = l.getD 0 0 := by simp [rd]
  have e2 : l.getD 0 0 = l[0] := by simp [h]
  by_cases h1 : rd l 0 < 128
  ·rw [if_pos h1]
   have : gsz l = 1 := by
    rcases Nat.lt_or_ge (gsz l) 2 with h2 | h2
    ·have := gsz_pos (q := l) (by intro e; rw [e] at h; simp at h); omega
    ·exfalso
     have hn : need l[0] = 1 := by
      unfold need; rw [e, e2] at h1
      rw [if_neg (by omega), if_neg (by omega), if_neg (by omega)]
     match l, h with
     | [_], _ => simp [gsz] at h2
     | [b, c], _ => simp at hn; simp [gsz, hn] at h2
     | [b, c, d], _ => simp at hn; simp [gsz, hn] at h2
     | b :: c :: d :: e :: t, _ => simp at hn; simp [gsz, hn] at h2
   rw [this, e, runeOf, if_pos ⟨h, by rw [← e]; exact h1⟩]; rfl
  ·rw [if_neg h1, slow_f l hb, Option.bind_some, decL_sz l hb, runeOf, if_neg (fun c => h1 (by rw [e]; exact c.2))]
 ·rw [if_neg (by omega), slow_f l hb, Option.bind_some, decL_sz l hb, runeOf, if_neg (fun c => h c.1)]
theorem glyph_Next_spec (p : List Int) (hb : Bytes p) (i : Nat) (hi : i < p.length) (k : Nat) (hk : 0 < k) : glyph_Next.f k p (i : Int) = some (gsz (p.drop i) : Int) := by
 unfold glyph_Next.f
 rw [if_neg (by omega), if_neg (by omega), if_pos (by omega), if_pos (by omega), Int.toNat_natCast, utf8_DecodeRune_spec _ (bytes_drop hb i) k hk, Option.bind_some]
theorem glyph_Floor_l0 (p : List Int) (hb : Bytes p) (hp : p.length ≤ 1000000000) (a : Nat) (ha : a ≤ p.length) (m : Nat) : ∀ (k j : Nat), j + m = min a 3 → m < k → 0 < k - m - 1 → (∀ i, 1 ≤ i → i ≤ j → ¬ a < a - i + gsz (p.drop (a - i))) →
  glyph_Floor.l0 k p (a : Int) ((min a 3 : Nat) : Int) (j : Int) = some (flo p a : Int) := by
 induction m with
 | zero =>
  intro k j hj hk _ hc
  obtain ⟨k, rfl⟩ := ex_succ' hk
  simp only [glyph_Floor.l0]
  rw [if_neg (by omega)]
  unfold flo
  rw [if_neg (fun e => hc 1 (by omega) (by omega) e.2), if_neg (fun e => hc 2 (by omega) (by omega) e.2), if_neg (fun e => hc 3 (by omega) (by omega) e.2)]
 | succ m ih =>
  intro k j hj hk hk2 hc
  obtain ⟨k, rfl⟩ := ex_succ' hk
  simp only [glyph_Floor.l0]
  have hlt : a - (j + 1) < p.length := by omega
  have h4 := gd_four p (a - (j + 1))
  have hnx := glyph_Next_spec p hb (a - (j + 1)) hlt k (by omega)
  have hnext := ih k (j + 1) (by omega) (by omega) (by omega)
  have c1 : (j : Int) < ((min a 3 : Nat) : Int) := by omega
  have w1 : wrap64 ((a : Int) - (j : Int)) = (a : Int) - (j : Int) := wid (by omega) (by omega)
  have w2 : wrap64 ((a : Int) - (j : Int) - 1) = ((a - (j + 1) : Nat) : Int) := by
   clear w1
   rw [show (a : Int) - (j : Int) - 1 = ((a - (j + 1) : Nat) : Int) by omega]; exact wid (by omega) (by omega)
  have w3 : wrap64 (((a - (j + 1) : Nat) : Int) + (gsz (p.drop (a - (j + 1))) : Int)) = ((a - (j + 1) + gsz (p.drop (a - (j + 1))) : Nat) : Int) := by
   clear w1 w2
   rw [← Int.natCast_add]; exact wid (by omega) (by omega)
  have w4 : wrap64 ((j : Int) + 1) = ((j + 1 : Nat) : Int) := by clear w1 w2 w3; exact wnat (by omega)
  rw [if_pos c1, w1, w2, hnx, Option.bind_some, w3, w4]
  clear w1 w2 w3 w4
  by_cases h : a < a - (j + 1) + gsz (p.drop (a - (j + 1)))
  ·rw [if_pos (by omega)]
   have hj3 : j + 1 = 1 ∨ j + 1 = 2 ∨ j + 1 = 3 := by omega
   have n1 : 1 ≤ j → ¬ (1 ≤ a ∧ a < a - 1 + gsz (p.drop (a - 1))) := fun e1 e => hc 1 (Nat.le_refl _) e1 e.2
   have n2 : 2 ≤ j → ¬ (2 ≤ a ∧ a < a - 2 + gsz (p.drop (a - 2))) := fun e1 e => hc 2 (by omega) e1 e.2
   have hja : j + 1 ≤ a := by omega
   clear hc hnext hnx
   unfold flo
   rcases hj3 with e | e | e
   ·rw [e] at h hja ⊢
    rw [if_pos ⟨hja, h⟩]
   ·have := n1 (by omega)
    rw [e] at h hja ⊢
    rw [if_neg this, if_pos ⟨hja, h⟩]
   ·have h1 := n1 (by omega)
    have h2 := n2 (by omega)
    rw [e] at h hja ⊢
    rw [if_neg h1, if_neg h2, if_pos ⟨hja, h⟩]
  ·rw [if_neg (by omega)]
   exact hnext (fun i h1 h2 => by
    rcases Nat.lt_or_ge i (j + 1) with h3 | h3
    ·exact hc i h1 (by omega)
    ·have : i = j + 1 := by omega
     subst this; exact h)
theorem glyph_Floor_spec (p : List Int) (hb : Bytes p) (hp : p.length ≤ 1000000000) (a : Int) (k : Nat) (hk : 5 < k) : glyph_Floor.f k p a = some (flo p (clip p a) : Int) := by
 have e1 : mn (mx a 0) (p.length : Int) = (clip p a : Int) := by unfold mn mx clip; (repeat' split) <;> omega
 have e2 : mn (clip p a : Int) 3 = ((min (clip p a) 3 : Nat) : Int) := by unfold mn; split <;> omega
 unfold glyph_Floor.f
 rw [e1, e2]
 exact glyph_Floor_l0 p hb hp (clip p a) (by unfold clip; omega) (min (clip p a) 3) k 0 (by omega) (by omega) (by omega) (fun i h1 h2 => by omega)
theorem u8_inj {a b : Int} (ha : 0 ≤ a ∧ a ≤ 255) (hb : 0 ≤ b ∧ b ≤ 255) : (UInt8.ofNat a.toNat = UInt8.ofNat b.toNat) ↔ a = b := by
 constructor
 ·intro h
  have h3 := congrArg UInt8.toNat h
  rw [UInt8.toNat_ofNat', UInt8.toNat_ofNat'] at h3
  omega
 ·intro h; rw [h]
theorem countByte_nl (p : List Int) (hb : Bytes p) : Lib.countByte (Lib.bytesOf p) (10 : Int).toNat.toUInt8 = nls p := by
 induction p with
 | nil => rfl
 | cons c t ih =>
  have hc := hb c (by simp)
  have := ih fun x hx => hb x (by simp [hx])
  rw [nls_cons, ← this]
  unfold Lib.countByte Lib.bytesOf
  rw [List.map_cons, List.count_cons]
  have e := u8_inj hc (show 0 ≤ (10 : Int) ∧ (10 : Int) ≤ 255 by omega)
  by_cases h : c = 10
  ·subst h; simp; omega
  ·rw [if_neg h, if_neg (by intro hh; exact h (e.1 (by simpa using hh)))]; omega
theorem bytes_Count_spec (p : List Int) (hb : Bytes p) : bytes_Count.f p [10] = some (nls p : Int) := by
 unfold bytes_Count.f
 rw [if_pos (show ([10] : List Int).length = 1 from rfl), show ([10] : List Int).getD 0 0 = 10 from rfl, countByte_nl p hb]
theorem indexByte_fb (p : List Int) (hb : Bytes p) (c : Int) (hc : 0 ≤ c ∧ c ≤ 255) : Lib.indexByte (Lib.bytesOf p) c.toNat.toUInt8 = fb p c := by
 induction p with
 | nil => rfl
 | cons b t ih =>
  have hbb := hb b (by simp)
  have := ih fun x hx => hb x (by simp [hx])
  have e := u8_inj hbb hc
  have e' : Lib.bytesOf (b :: t) = UInt8.ofNat b.toNat :: Lib.bytesOf t := rfl
  rw [e', Lib.indexByte, fb, this]
  by_cases h : b = c
  ·subst h; simp
  ·rw [if_neg h, if_neg (by intro hh; exact h (e.1 (by simpa using hh)))]
   by_cases h2 : fb t c = -1
   ·rw [if_pos h2, if_pos (by simp [h2])]
   ·rw [if_neg h2, if_neg (by simp [h2])]
theorem lines_Of_spec (p : List Int) (hb : Bytes p) (a : Int) : lines_Of.f p a = some (row p (clip p a) : Int) := by
 have := clip_le p a
 unfold lines_Of.f
 rw [mn_clip, if_pos (by omega), if_pos (by omega), Int.toNat_natCast, bytes_Count_spec _ (fun x hx => hb x (List.mem_of_mem_take hx)), Option.bind_some]
 rfl
theorem bytes_IndexByte_spec (p : List Int) (hb : Bytes p) (c : Int) (hc : 0 ≤ c ∧ c ≤ 255) : bytes_IndexByte.f p c = some (fb p c) := by
 unfold bytes_IndexByte.f
 rw [indexByte_fb p hb c hc]
def spr : Option NN → Int × Int × Bool
 | some x => ((x.1 : Int), (x.2 : Int), true)
 | none => (0, 0, false)
theorem fb_at {p : List Int} {i : Nat} (h : i < (lns p).length) : fb (p.drop (off ((lns p).take i))) 10 = if i + 1 = (lns p).length then -1 else ((lns p)[i].length : Int) := by
 have h1 : lns (p.drop (off ((lns p).take i))) = (lns p).drop i := by
  rw [line_drop h, lns_jn (by intro e; have := congrArg List.length e; simp only [List.length_drop, List.length_nil] at this; omega) (fun l hl => lns_free p l (List.mem_of_mem_drop hl))]
 rw [List.drop_eq_getElem_cons h] at h1
 rw [fb_line _ h1]
 by_cases e : i + 1 = (lns p).length
 ·rw [if_pos e, if_pos (List.drop_eq_nil_of_le (by omega))]
 ·rw [if_neg e, if_neg]
  intro hn
  have := congrArg List.length hn
  simp only [List.length_drop, List.length_nil] at this
  omega
theorem lines_Span_l0 (p : List Int) (hb : Bytes p) (hp : p.length ≤ 1000000000) (line : Int) (m : Nat) : ∀ (k i : Nat), i + m = (lns p).length → (i = 0 ∨ (i : Int) ≤ line) → i < (lns p).length → 2 * m + 1 < k →
  lines_Span.l0 k p line (off ((lns p).take i) : Int) (i : Int) = some (spr (sp p line)) := by
 have hc10 : 0 ≤ (10 : Int) ∧ (10 : Int) ≤ 255 := by omega
 have hcnt := lns_count p
 have hnl := nls_le p
 induction m with
 | zero => intro k i hi _ hlt _; omega
 | succ m ih =>
  intro k i hi hl hlt hk
  obtain ⟨k, rfl⟩ := ex_succ (n := 0) (k := k) (by omega)
  obtain ⟨k, rfl⟩ := ex_succ (n := 0) (k := k) (by omega)
  have hol := off_last hlt
  have hf := fb_at hlt
  have bd : Bytes (p.drop (off ((lns p).take i))) := fun x hx => hb x (List.mem_of_mem_drop hx)
  rw [lines_Span.l0]
  by_cases h : (i : Int) < line
  ·rw [if_pos h, decide_eq_true (by omega), lines_Span.j1, if_pos rfl, if_pos (by omega), if_pos (by omega), Int.toNat_natCast, bytes_IndexByte_spec _ bd 10 hc10, Option.bind_some, hf]
   by_cases e : i + 1 = (lns p).length
   ·rw [if_pos e, if_pos (by omega), sp_out (.inr (by omega))]; rfl
   ·have hw1 : wrap64 (((lns p)[i].length : Int) + 1) = (((lns p)[i].length + 1 : Nat) : Int) := wnat (by omega)
    have hw2 : wrap64 ((off ((lns p).take i) : Int) + (((lns p)[i].length + 1 : Nat) : Int)) = (off ((lns p).take (i + 1)) : Int) := by
     clear hw1
     rw [off_take hlt, wid (by omega) (by omega)]; omega
    have hw3 : wrap64 ((i : Int) + 1) = ((i + 1 : Nat) : Int) := by clear hw1 hw2; exact wnat (by omega)
    rw [if_neg e, if_neg (by clear hw1 hw2 hw3; omega), hw1, hw2, hw3]
    clear hw1 hw2 hw3
    exact ih k (i + 1) (by omega) (.inr (by omega)) (by omega) (by omega)
  ·rw [if_neg h, lines_Span.j1, if_neg (by simp)]
   by_cases hn : line < 0
   ·rw [if_pos hn, sp_out (.inl hn)]; rfl
   ·have hli : line = (i : Int) := by omega
    subst hli
    have hs := sp_in (p := p) (line := (i : Int)) (by omega) (by rw [Int.toNat_natCast]; exact hlt)
    simp only [Int.toNat_natCast] at hs
    rw [if_neg hn, if_pos (by omega), if_pos (by omega), Int.toNat_natCast, bytes_IndexByte_spec _ bd 10 hc10, Option.bind_some, hf, hs]
    by_cases e : i + 1 = (lns p).length
    ·have hw1 : wrap64 ((p.length : Int) - (off ((lns p).take i) : Int)) = ((lns p)[i].length : Int) := by
      rw [wid (by omega) (by omega)]; omega
     rw [if_pos e, if_pos (by omega), hw1]; rfl
    ·rw [if_neg e, if_neg (by omega)]; rfl
theorem lines_Span_spec (p : List Int) (hb : Bytes p) (hp : p.length ≤ 1000000000) (line : Int) (k : Nat) (hk : 2 * p.length + 4 < k) : lines_Span.f k p line = some (spr (sp p line)) := by
 have hcnt := lns_count p
 have hnl := nls_le p
 have := lines_Span_l0 p hb hp line (lns p).length k 0 (by omega) (.inl rfl) (by omega) (by omega)
 simpa [lines_Span.f, off] using this
theorem clip_nat {p : List Int} {a : Nat} (h : a ≤ p.length) : clip p (a : Int) = a := by unfold clip; omega
theorem spr_some (x : NN) : spr (some x) = ((x.1 : Int), (x.2 : Int), true) := rfl
def stz (o : Option Nat) : Int × Int := match o with
 | some b => ((b : Int), 0)
 | none => (0, 2)
def goz (l w : Bool) (o : Option Nat) : Int × Bool × Bool × Int := match o with
 | some b => ((b : Int), l, w, 0)
 | none => (0, false, false, 2)
def tms (key n : Int) : Int := if key = 48 ∨ key = 94 ∨ key = 102 ∨ key = 116 ∨ key = 106 ∨ key = 107 ∨ key = 36 then 1 else max n 1
theorem motion_times_spec (key s n : Int) : motion_times.f key s n = some (tms key n) := by
 have e : mx n 1 = max n 1 := by unfold mx; split <;> omega
 unfold motion_times.f tms
 rw [e]
 by_cases h1 : key = 48
 ·rw [if_pos h1, if_pos (by omega)]
 rw [if_neg h1]
 by_cases h2 : key = 94
 ·rw [if_pos h2, if_pos (by omega)]
 rw [if_neg h2]
 by_cases h3 : key = 102
 ·rw [if_pos h3, if_pos (by omega)]
 rw [if_neg h3]
 by_cases h4 : key = 116
 ·rw [if_pos h4, if_pos (by omega)]
 rw [if_neg h4]
 by_cases h5 : key = 106
 ·rw [if_pos h5, if_pos (by omega)]
 rw [if_neg h5]
 by_cases h6 : key = 107
 ·rw [if_pos h6, if_pos (by omega)]
 rw [if_neg h6]
 by_cases h7 : key = 36
 ·rw [if_pos h7, if_pos (by omega)]
 rw [if_neg h7, if_neg (by omega)]
theorem motion_Go_key (p : List Int) (hb : Bytes p) (hp : p.length ≤ 10000) (a tab key s n : Int) (h1 : key ≠ 71) (h2 : key ≠ 103) (k : Nat) (hk : 5 < k) :
  motion_Go.f (k + 3) p a key s n tab = motion_Go.l0 k p tab (tms key n) 0 key s n (flo p (clip p a) : Int) (decide (key = 106 ∨ key = 107)) (decide (key = 101 ∨ key = 102 ∨ key = 116)) := by
 have e103 : (key == 103) = false := by simpa using h2
 have j2 : ∀ l w, motion_Go.j2 (k + 1) p tab key s n (flo p (clip p a) : Int) l w = motion_Go.l0 k p tab (tms key n) 0 key s n (flo p (clip p a) : Int) l w := by
  intro l w
  rw [motion_Go.j2, motion_times_spec, Option.bind_some]
 unfold motion_Go.f
 rw [glyph_Floor_spec p hb (by omega) a (k + 3) (by omega), Option.bind_some, if_neg h1, e103, motion_Go.j0, if_neg (by simp)]
 by_cases g1 : key = 106
 ·subst g1
  rw [if_pos rfl, motion_Go.j1, if_pos (by decide), j2]
  rfl
 ·rw [if_neg g1]
  by_cases g2 : key = 107
  ·subst g2
   rw [motion_Go.j1, if_pos (by decide), j2]
   rfl
  ·have e2 : (key == 107) = false := by simpa using g2
   have d1 : decide (key = 106 ∨ key = 107) = false := decide_eq_false (by omega)
   rw [e2, motion_Go.j1, if_neg (by simp), d1]
   by_cases g3 : key = 101
   ·rw [if_pos g3, j2, decide_eq_true (by omega)]
   ·rw [if_neg g3]
    by_cases g4 : key = 102
    ·rw [if_pos g4, j2, decide_eq_true (by omega)]
    ·rw [if_neg g4]
     by_cases g5 : key = 116
     ·rw [if_pos g5, j2, decide_eq_true (by omega)]
     ·rw [if_neg g5, j2, decide_eq_false (by omega)]
theorem glyph_Step_spec (c b t : Nat) (x : Int) (hx : x = (b : Int)) (hc : c ≤ 1000000000) (ht : t ≤ 1000000000) (h0 : 0 < t) : glyph_Step.f (c : Int) x (t : Int) = some (stp c b t : Int) := by
 subst hx
 unfold glyph_Step.f stp
 by_cases h : b = 9
 ·have e1 : Int.tmod (c : Int) (t : Int) = ((c % t : Nat) : Int) := by rw [Int.tmod_eq_emod_of_nonneg (by omega)]; rfl
  have hm := Nat.mod_lt c h0
  have hl := Nat.mod_le c t
  have w1 : wrap64 ((c : Int) + (t : Int)) = (c : Int) + (t : Int) := wid (by omega) (by omega)
  have w2 : wrap64 ((c : Int) + (t : Int) - ((c % t : Nat) : Int)) = (c : Int) + (t : Int) - ((c % t : Nat) : Int) := by clear w1; exact wid (by omega) (by omega)
  rw [if_pos (by omega), if_neg (by omega), w1, e1, w2, if_pos h]
  clear w1 w2
  congr 1; omega
 ·have w1 : wrap64 ((c : Int) + 1) = ((c + 1 : Nat) : Int) := wnat (by omega)
  rw [if_neg (by omega), w1, if_neg h]
theorem byte_nat {p : List Int} (hb : Bytes p) (i : Nat) (h : i < p.length) : p[i] = ((p[i]).toNat : Int) := by
 have := hb p[i] (List.getElem_mem h); omega
theorem glyph_At_l0 (p : List Int) (hb : Bytes p) (col t : Nat) (h0 : 0 < t) (ht : t ≤ 1000) (hp : p.length ≤ 10000) (n : Nat) : ∀ (k x c : Nat), x ≤ p.length → p.length ≤ x + n → c + (p.length - x) * t ≤ 900000000 → n + 1 < k →
  glyph_At.l0 k p (col : Int) (t : Int) (c : Int) (x : Int) = some (atF n p x c col t : Int) := by
 induction n with
 | zero =>
  intro k x c h1 h2 _ hk
  obtain ⟨k, rfl⟩ := ex_succ' hk
  rw [glyph_At.l0, if_neg (by omega)]; rfl
 | succ n ih =>
  intro k x c h1 h2 hc hk
  obtain ⟨k, rfl⟩ := ex_succ' hk
  simp only [atF]
  by_cases h : x < p.length
  ·have hg := gd_pos p x h
   have hle := gd_le p x h1
   have hs := stp_le c p[x].toNat t h0
   have hmul : (p.length - (x + gsz (p.drop x))) * t + t ≤ (p.length - x) * t := by
    have := Nat.mul_le_mul_right t (show (p.length - (x + gsz (p.drop x))) + 1 ≤ p.length - x by omega)
    rw [Nat.add_mul, Nat.one_mul] at this; exact this
   have hnext := ih k (x + gsz (p.drop x)) (stp c p[x].toNat t) (by omega) (by omega) (by omega) (by omega)
   have hnx := glyph_Next_spec p hb x h k (by omega)
   rw [glyph_At.l0, if_pos (by omega), if_pos (by omega), rd_nat p x h, glyph_Step_spec c p[x].toNat t _ (byte_nat hb x h) (by omega) (by omega) h0, Option.bind_some, dif_pos h]
   by_cases c1 : col < stp c p[x].toNat t
   ·rw [if_pos (by omega), if_pos c1]
   ·rw [if_neg (by omega), if_neg c1, hnx, Option.bind_some]
    have hw : wrap64 ((x : Int) + (gsz (p.drop x) : Int)) = ((x + gsz (p.drop x) : Nat) : Int) := by
     rw [← Int.natCast_add]; exact wid (by omega) (by omega)
    rw [hw, hnext]
  ·rw [glyph_At.l0, if_neg (by omega), dif_neg h]
theorem glyph_At_spec (p : List Int) (hb : Bytes p) (col t : Nat) (h0 : 0 < t) (ht : t ≤ 1000) (hp : p.length ≤ 10000) (k : Nat) (hk : p.length + 1 < k) :
  glyph_At.f k p (col : Int) (t : Int) = some (at_ p col t : Int) := by
 have hm : p.length * t ≤ 10000 * 1000 := Nat.mul_le_mul hp ht
 have := glyph_At_l0 p hb col t h0 ht hp p.length k 0 0 (by omega) (by omega) (by simp only [Nat.sub_zero]; omega) hk
 simpa [glyph_At.f, at_] using this
theorem glyph_Wide_l0 (p : List Int) (hb : Bytes p) (t : Nat) (h0 : 0 < t) (ht : t ≤ 1000) (hp : p.length ≤ 100000000) (n : Nat) : ∀ (k x c : Nat), x ≤ p.length → p.length ≤ x + n → c + (p.length - x) * t ≤ 900000000 → n + 1 < k →
  glyph_Wide.l0 k p (c : Int) (t : Int) (x : Int) = some (wid_ (p.drop x) c t : Int) := by
 induction n with
 | zero =>
  intro k x c h1 h2 _ hk
  obtain ⟨k, rfl⟩ := ex_succ' hk
  simp only [glyph_Wide.l0]
  rw [if_neg (by omega), List.drop_eq_nil_of_le (by omega), wid_nil]
 | succ n ih =>
  intro k x c h1 h2 hc hk
  obtain ⟨k, rfl⟩ := ex_succ' hk
  simp only [glyph_Wide.l0]
  by_cases h : x < p.length
  ·have hg := gd_pos p x h
   have hle := gd_le p x h1
   have hs := stp_le c p[x].toNat t h0
   have hmul : (p.length - (x + gsz (p.drop x))) * t + t ≤ (p.length - x) * t := by
    have := Nat.mul_le_mul_right t (show (p.length - (x + gsz (p.drop x))) + 1 ≤ p.length - x by omega)
    rw [Nat.add_mul, Nat.one_mul] at this; exact this
   have hnext := ih k (x + gsz (p.drop x)) (stp c p[x].toNat t) (by omega) (by omega) (by omega) (by omega)
   have hnx := glyph_Next_spec p hb x h k (by omega)
   rw [if_pos (by omega), if_pos (by omega), rd_nat p x h, glyph_Step_spec c p[x].toNat t _ (byte_nat hb x h) (by omega) (by omega) h0, Option.bind_some]
   have hw : wrap64 ((x : Int) + (gsz (p.drop x) : Int)) = ((x + gsz (p.drop x) : Nat) : Int) := by
    rw [← Int.natCast_add]
    exact wid (by omega) (by omega)
   rw [hnx, Option.bind_some, hw, hnext, wid_at p x h]
  ·rw [if_neg (by omega), List.drop_eq_nil_of_le (by omega), wid_nil]
theorem glyph_Wide_long (p : List Int) (hb : Bytes p) (c t : Nat) (h0 : 0 < t) (ht : t ≤ 1000) (hp : p.length ≤ 100000000) (hm : p.length * t ≤ 100000000) (hc : c ≤ 1000000) (k : Nat) (hk : p.length + 1 < k) :
  glyph_Wide.f k p (c : Int) (t : Int) = some (wid_ p c t : Int) := by
 have := glyph_Wide_l0 p hb t h0 ht hp p.length k 0 c (by omega) (by omega) (by simp only [Nat.sub_zero]; omega) hk
 simpa [glyph_Wide.f] using this
theorem glyph_Wide_spec (p : List Int) (hb : Bytes p) (c t : Nat) (h0 : 0 < t) (ht : t ≤ 1000) (hp : p.length ≤ 10000) (hc : c ≤ 1000000) (k : Nat) (hk : p.length + 1 < k) :
  glyph_Wide.f k p (c : Int) (t : Int) = some (wid_ p c t : Int) := by
 have hm : p.length * t ≤ 10000 * 1000 := Nat.mul_le_mul hp ht
 exact glyph_Wide_long p hb c t h0 ht (by omega) (by omega) hc k hk
theorem lastIndex_l0 (q : List Int) (hq : q.length ≤ 1000000000) {A : List (List Int)} {x : List Int} (hx : lns q = A ++ [x]) (m : Nat) : ∀ (k : Nat) (i : Int), i + 1 = (m : Int) → m ≤ q.length → (∀ c ∈ q.drop m, c ≠ 10) → m < k →
  bytealg_LastIndexByte.l0 k q 10 i = some ((q.length : Int) - (x.length : Int) - 1) := by
 induction m with
 | zero =>
  intro k i hi hm hf hk
  obtain ⟨k, rfl⟩ := ex_succ hk
  rw [bytealg_LastIndexByte.l0, if_neg (by omega)]
  rw [List.drop_zero] at hf
  have := lns_one hf
  rw [hx] at this
  have e : A = [] ∧ x = q := by
   cases A with
   | nil => exact ⟨rfl, by simpa using this⟩
   | cons a A => simp at this
  rw [e.2]; congr 1; omega
 | succ m ih =>
  intro k i hi hm hf hk
  obtain ⟨k, rfl⟩ := ex_succ hk
  obtain rfl : i = (m : Int) := by omega
  have hlt : m < q.length := by omega
  rw [bytealg_LastIndexByte.l0, if_pos (by omega), if_pos (by omega), if_pos (by omega), rd_nat q m hlt]
  by_cases h : q[m] = 10
  ·rw [if_pos h]
   have e1 : q = q.take m ++ 10 :: q.drop (m + 1) := by
    rw [← h, ← drop_at q m hlt, List.take_append_drop]
   have e2 : lns q = lns (q.take m) ++ [q.drop (m + 1)] := by
    conv => lhs; rw [e1]
    rw [lns_mid, lns_one hf]
   rw [hx] at e2
   have e3 := (List.append_inj' e2 rfl).2
   have e4 : x = q.drop (m + 1) := by simpa using e3
   rw [e4, List.length_drop]; congr 1; omega
  ·have hw : wrap64 ((m : Int) - 1) = (m : Int) - 1 := wid (by omega) (by omega)
   rw [if_neg h, hw]
   clear hw
   exact ih k ((m : Int) - 1) (by omega) (by omega) (fun c hc => by
    rw [drop_at q m hlt] at hc
    rcases List.mem_cons.1 hc with rfl | hc
    ·exact h
    ·exact hf c hc) (by omega)
theorem lastIndex_spec (q : List Int) (hq : q.length ≤ 1000000000) {A : List (List Int)} {x : List Int} (hx : lns q = A ++ [x]) (k : Nat) (hk : q.length < k) : bytes_LastIndexByte.f k q 10 = some ((q.length : Int) - (x.length : Int) - 1) := by
 unfold bytes_LastIndexByte.f bytealg_LastIndexByte.f
 rw [wid (by omega) (by omega), lastIndex_l0 q hq hx q.length k _ (by omega) (Nat.le_refl _) (by simp) hk, Option.bind_some]
theorem lines_Column_spec (p : List Int) (hb : Bytes p) (hp : p.length ≤ 10000) (a t : Int) (ht : t ≤ 1000) (k : Nat) (hk : p.length + 1 < k) : lines_Column.f k p a t = some (wid_ (ahd p (clip p a)) 0 (tb t) : Int) := by
 have hc := clip_le p a
 unfold lines_Column.f
 rw [mn_clip, mx_tb, if_pos (by omega), if_pos (by omega), Int.toNat_natCast]
 generalize clip p a = c at *
 obtain ⟨A, x, h1⟩ := lns_last (p.take c)
 have hl := last_line h1
 have ha := ahead_last hc h1
 have hlen : (p.take c).length = c := by simp only [List.length_take]; omega
 rw [hlen] at hl
 rw [lastIndex_spec (p.take c) (by omega) h1 k (by omega), Option.bind_some, hlen, ha]
 have hw : wrap64 ((c : Int) - (x.length : Int) - 1 + 1) = (off A : Int) := by rw [wid (by omega) (by omega)]; omega
 rw [hw]
 clear hw
 have hxl : x.length ≤ p.length := by omega
 have bx : Bytes x := fun z hz => hb z (by
  rw [← hl.1] at hz
  exact List.mem_of_mem_take (List.mem_of_mem_drop hz))
 have htb := tb_pos t
 rw [if_pos (by omega), if_pos (by omega), Int.toNat_natCast, hl.1]
 rw [show glyph_Wide.f k x 0 (tb t : Int) = some (wid_ x 0 (tb t) : Int) from glyph_Wide_spec x bx 0 (tb t) htb (by unfold tb; omega) (by omega) (by omega) k (by omega), Option.bind_some]
def dln (p : List Int) (r : Nat) (x : Int) : Option Nat := if 0 ≤ (r : Int) + x ∧ (r : Int) + x < ((lns p).length : Int) then some ((r : Int) + x).toNat else none
def dcl (p : List Int) (c t : Nat) (r : Nat) : Nat := off ((lns p).take r) + at_ (lin p r) c t
def dend (p : List Int) (r : Nat) : Nat := off ((lns p).take r) + (lin p r).length
theorem at_facts (l : List Int) (c t : Nat) : Bd l (at_ l c t) ∧ wid_ (l.take (at_ l c t)) 0 t ≤ c ∧ (at_ l c t < l.length → c < wid_ (l.take (at_ l c t + gsz (l.drop (at_ l c t)))) 0 t) := by
 obtain ⟨h1, h2, h3⟩ := atF_spec l c t l.length 0 .zero (by omega) (by simp [wid_nil])
 have e0 : wid_ (l.take 0) 0 t = 0 := rfl
 rw [e0] at h1 h2 h3
 exact ⟨h1, h2, fun h => h3 h⟩
def dwz (key : Int) (p : List Int) (c t : Nat) (o : Option Nat) : Int × Bool := match o with
 | none => (0, false)
 | some r => if key = 36 then ((dend p r : Int), true) else ((dcl p c t r : Int), true)
theorem motion_down_j0 (p : List Int) (hb : Bytes p) (hp : p.length ≤ 10000) (a : Nat) (ha : a ≤ p.length) (tab : Int) (ht : tab ≤ 1000) (x key s n : Int) (h0 : -9223372036854775807 ≤ x) (h1 : x ≤ 9223372036854775807) (k : Nat) (hk : 20010 < k) :
  motion_down.j0 (k + 1) p (a : Int) tab x key s n = some (dwz key p (wid_ (ahd p a) 0 (tb tab)) (tb tab) (dln p (row p a) x)) := by
 have hcnt := lns_count p
 have hnl := nls_le p
 have hr := row_lt p a
 rw [motion_down.j0, lines_Of_spec p hb, clip_nat ha, Option.bind_some, lines_Span_spec p hb (by omega) _ k (by omega), Option.bind_some]
 by_cases h : 0 ≤ (row p a : Int) + x ∧ (row p a : Int) + x < ((lns p).length : Int)
 ·have hw : wrap64 ((row p a : Int) + x) = ((((row p a : Int) + x).toNat : Nat) : Int) := by rw [wid (by omega) (by omega)]; omega
  have ed : dln p (row p a) x = some ((row p a : Int) + x).toNat := if_pos h
  rw [hw, ed]
  clear hw ed
  have hz : ((row p a : Int) + x).toNat < (lns p).length := by omega
  generalize ((row p a : Int) + x).toNat = z at *
  rw [sp_nat hz, spr_some]
  dsimp only
  have hle := off_le hz
  have hs := line_str (p := p) (by omega) hz
  have hlb := line_bytes hb hz
  have ez := lin_at hz
  rw [hs]
  rw [show dwz key p (wid_ (ahd p a) 0 (tb tab)) (tb tab) (some z) = if key = 36 then ((dend p z : Int), true) else ((dcl p (wid_ (ahd p a) 0 (tb tab)) (tb tab) z : Int), true) from rfl]
  unfold dend dcl
  rw [ez]
  have hat := at_facts (lns p)[z] (wid_ (ahd p a) 0 (tb tab)) (tb tab)
  have hal := hat.1.le
  have hll : (lns p)[z].length ≤ 10000 := by omega
  rw [lines_Column_spec p hb hp (a : Int) tab ht k (by omega), Option.bind_some, clip_nat ha, mx_tb, glyph_At_spec _ hlb _ _ (tb_pos tab) (by unfold tb; omega) hll k (by omega), Option.bind_some]
  generalize at_ (lns p)[z] (wid_ (ahd p a) 0 (tb tab)) (tb tab) = i at *
  generalize (lns p)[z].length = y at *
  generalize off ((lns p).take z) = o at *
  have hw : wrap64 ((o : Int) + (y : Int)) = ((o + y : Nat) : Int) := by rw [wid (by omega) (by omega)]; omega
  have hw2 : wrap64 ((o : Int) + (i : Int)) = ((o + i : Nat) : Int) := by clear hw; rw [wid (by omega) (by omega)]; omega
  rw [hw, hw2, if_pos rfl]
  clear hw hw2
  by_cases g : key = 36
  ·rw [if_pos g, if_pos g]
  ·rw [if_neg g, if_neg g, if_pos (by omega), if_pos (by omega), if_pos (by omega)]
 ·have ed : dln p (row p a) x = none := if_neg h
  have hw : wrap64 ((row p a : Int) + x) < 0 ∨ ((lns p).length : Int) ≤ wrap64 ((row p a : Int) + x) := by unfold wrap64; omega
  have es : sp p (wrap64 ((row p a : Int) + x)) = none := by
   generalize wrap64 ((row p a : Int) + x) = z at *
   exact sp_out (by omega)
  rw [ed, es]
  rfl
def dno (key n : Int) : Int := if key = 107 then -(max n 1) else if key = 36 then max n 1 - 1 else max n 1
def dst (p : List Int) (key n tab : Int) (a : Nat) : Option Nat := (dln p (row p a) (dno key n)).map fun r => if key = 36 then dend p r else dcl p (wid_ (ahd p a) 0 (tb tab)) (tb tab) r
theorem step_down (p : List Int) (hb : Bytes p) (hp : p.length ≤ 10000) (key : Int) (hkey : key = 106 ∨ key = 107 ∨ key = 36) (s n tab : Int) (ht : tab ≤ 1000) (hn1 : n ≤ 9223372036854775807) (a k : Nat) (ha : a ≤ p.length) (hk : 30010 < k) : motion_step.f k p (a : Int) key s n tab = some (stz (dst p key n tab a)) := by
 obtain ⟨k, rfl⟩ : ∃ j, k = j + 3 := ⟨k - 3, by omega⟩
 have e0 : mx n 1 = max n 1 := by unfold mx; split <;> omega
 have w1 : wrap64 (-(max n 1)) = -(max n 1) := wid (by omega) (by omega)
 have w2 : wrap64 (max n 1 - 1) = max n 1 - 1 := by clear w1; exact wid (by omega) (by omega)
 have e : motion_step.f (k + 3) p (a : Int) key s n tab = (motion_down.f (k + 1) p (a : Int) key s n tab).bind fun bt => if bt.2 = true then some (bt.1, 0) else some (0, 2) := by
  rcases hkey with rfl | rfl | rfl <;> rfl
 have e2 : motion_down.f (k + 1) p (a : Int) key s n tab = motion_down.j0 (k + 1) p (a : Int) tab (dno key n) key s n := by
  unfold motion_down.f dno
  rw [e0, w1, w2]
  clear w1 w2
  by_cases g1 : key = 107
  ·rw [if_pos g1, if_pos g1]
  ·rw [if_neg g1, if_neg g1]
   by_cases g2 : key = 36
   ·rw [if_pos g2, if_pos g2]
   ·rw [if_neg g2, if_neg g2]
 clear w1 w2
 have hd : -9223372036854775807 ≤ dno key n ∧ dno key n ≤ 9223372036854775807 := by unfold dno; split <;> (try split) <;> omega
 rw [e, e2, motion_down_j0 p hb hp a ha tab ht (dno key n) key s n hd.1 hd.2 k (by omega), Option.bind_some]
 unfold dst
 cases dln p (row p a) (dno key n) with
 | none => rfl
 | some r =>
  have e3 : dwz key p (wid_ (ahd p a) 0 (tb tab)) (tb tab) (some r) = if key = 36 then ((dend p r : Int), true) else ((dcl p (wid_ (ahd p a) 0 (tb tab)) (tb tab) r : Int), true) := rfl
  rw [e3, Option.map_some]
  by_cases g : key = 36
  ·rw [if_pos g, if_pos g]; rfl
  ·rw [if_neg g, if_neg g]; rfl
theorem motion_Go_down (p : List Int) (hb : Bytes p) (hp : p.length ≤ 10000) (key : Int) (hkey : key = 106 ∨ key = 107 ∨ key = 36) (a s n tab : Int) (ht : tab ≤ 1000) (hn1 : n ≤ 9223372036854775807) (k : Nat) (hk : 30030 < k) :
  motion_Go.f k p a key s n tab = some (goz (decide (key = 106 ∨ key = 107)) false (dst p key n tab (flo p (clip p a)))) := by
 have e1 : key ≠ 71 := by rcases hkey with rfl | rfl | rfl <;> decide
 have e2 : key ≠ 103 := by rcases hkey with rfl | rfl | rfl <;> decide
 have e3 : tms key n = ((1 : Nat) : Int) := by rcases hkey with rfl | rfl | rfl <;> rfl
 have e5 : decide (key = 101 ∨ key = 102 ∨ key = 116) = false := by rcases hkey with rfl | rfl | rfl <;> decide
 obtain ⟨k, rfl⟩ : ∃ j, k = j + 5 := ⟨k - 5, by omega⟩
 have hfl := flo_facts (clip_le p a)
 have hst := step_down p hb hp key hkey s n tab ht hn1 (flo p (clip p a)) (k + 1) hfl.1.le (by omega)
 rw [motion_Go_key p hb hp a tab key s n e1 e2 (k + 2) (by omega), e3, e5, motion_Go.l0, if_pos (by omega), hst, Option.bind_some]
 cases dst p key n tab (flo p (clip p a)) with
 | none => rfl
 | some b =>
  refine (if_pos rfl).trans ?_
  rw [motion_Go.l0, if_neg (by unfold wrap64; omega)]
  rfl
theorem ex_succ1 {k n : Nat} (h : n < k) : ∃ m, k = m + 1 := ⟨k - 1, by omega⟩
theorem need_cases (b : Int) : need b = 1 ∨ need b = 2 ∨ need b = 3 ∨ need b = 4 := by
 unfold need; (repeat' split) <;> omega
theorem gsz_eq (b : Int) (t : List Int) : gsz (b :: t) =
  if need b = 1 ∨ t.length + 1 < need b then 1 else if t.getD 0 0 < lo2 b ∨ hi2 b < t.getD 0 0 then 1
  else if 3 ≤ need b ∧ ¬ cont (t.getD 1 0) then 1 else if 4 ≤ need b ∧ ¬ cont (t.getD 2 0) then 1 else need b := by
 match t with
 | [] =>
  have : need b = 1 ∨ ([] : List Int).length + 1 < need b := by rcases need_cases b with h | h | h | h <;> simp [h]
  rw [if_pos this]; rfl
 | [c] =>
  simp only [gsz, List.length_cons, List.length_nil, List.getD_cons_zero, List.getD_cons_succ, List.getD_nil]
  rcases need_cases b with h | h | h | h <;> simp only [h] <;> simp (decide := true) only [true_and, false_and, if_false, if_true, or_self, or_true, true_or, false_or]
  (repeat' split) <;> omega
 | [c, d] =>
  simp only [gsz, List.length_cons, List.length_nil, List.getD_cons_zero, List.getD_cons_succ, List.getD_nil]
  rcases need_cases b with h | h | h | h <;> simp only [h] <;> simp (decide := true) only [true_and, false_and, if_false, if_true, or_self, or_true, true_or, false_or]
  ·(repeat' split) <;> omega
  ·unfold cont; (repeat' split) <;> omega
 | c :: d :: e :: t =>
  simp only [gsz, List.length_cons, List.length_nil, List.getD_cons_zero, List.getD_cons_succ, List.getD_nil]
  have e1 : ¬ (t.length + 1 + 1 + 1 + 1 < 2) := by omega
  have e2 : ¬ (t.length + 1 + 1 + 1 + 1 < 3) := by omega
  have e3 : ¬ (t.length + 1 + 1 + 1 + 1 < 4) := by omega
  rcases need_cases b with h | h | h | h <;> simp only [h, e1, e2, e3] <;> simp (decide := true) only [true_and, false_and, if_false, if_true, or_self, or_true, true_or, false_or]
  ·(repeat' split) <;> omega
  ·unfold cont; (repeat' split) <;> omega
  ·unfold cont; (repeat' split) <;> omega
theorem getD_drop' (p : List Int) (i j : Nat) (h : i + j < p.length) : (p.drop i).getD j 0 = p[i + j] := by
 simp [List.getD_eq_getElem?_getD, h]
theorem size_j3 (p : List Int) (x1 b sz : Int) (k : Nat) : platenref01_Size.j3 (k + 1) p x1 b sz 128 191 = platenref01_Size.j4 k p x1 sz (lo2 b) (hi2 b) := by
 rw [platenref01_Size.j3]
 unfold lo2 hi2
 by_cases h1 : b = 224
 ·subst h1; rfl
 ·by_cases h2 : b = 237
  ·subst h2; rfl
  ·by_cases h3 : b = 240
   ·subst h3; rfl
   ·by_cases h4 : b = 244
    ·subst h4; rfl
    ·simp only [h1, h2, h3, h4, if_false]
theorem size_j4 (p : List Int) (i : Nat) (h : i < p.length) (hp : p.length ≤ 1000000000) (k : Nat) : platenref01_Size.j4 (k + 6) p (i : Int) (need p[i] : Int) (lo2 p[i]) (hi2 p[i]) = some (gsz (p.drop i) : Int) := by
 have hg := gsz_eq p[i] (p.drop (i + 1))
 rw [← drop_at p i h] at hg
 simp only [List.length_drop] at hg
 have hw0 : wrap64 ((p.length : Int) - (i : Int)) = (p.length : Int) - (i : Int) := wid (by omega) (by omega)
 have hw1 : wrap64 ((i : Int) + 1) = ((i + 1 : Nat) : Int) := wnat (by clear hw0; omega)
 have hw2 : wrap64 ((i : Int) + 2) = ((i + 2 : Nat) : Int) := by clear hw0 hw1; rw [show (i : Int) + 2 = ((i + 2 : Nat) : Int) by omega]; exact wid (by omega) (by omega)
 have hw3 : wrap64 ((i : Int) + 3) = ((i + 3 : Nat) : Int) := by clear hw0 hw1 hw2; rw [show (i : Int) + 3 = ((i + 3 : Nat) : Int) by omega]; exact wid (by omega) (by omega)
 have w23 : wrap64 (2 + 1) = 3 := by decide +kernel
 have w34 : wrap64 (3 + 1) = 4 := by decide +kernel
 rw [platenref01_Size.j4]
 rw [hw0, hw1]
 clear hw0 hw1
 by_cases h1 : need p[i] = 1
 ·rw [h1, if_pos (by rfl)]
  rw [platenref01_Size.j5]
  rw [if_pos rfl, hg, if_pos (.inl h1)]; rfl
 ·have hn := need_cases p[i]
  rw [if_neg (by omega)]
  by_cases h2 : p.length - (i + 1) + 1 < need p[i]
  ·rw [if_pos (by omega)]
   rw [platenref01_Size.j5]
   rw [if_pos rfl, hg, if_pos (.inr h2)]; rfl
  ·have l1 : i + 1 < p.length := by clear hw2 hw3 w23 w34 hg; omega
   have l2 : 3 ≤ need p[i] → i + 2 < p.length := by clear hw2 hw3 w23 w34 hg; omega
   have l3 : 4 ≤ need p[i] → i + 3 < p.length := by clear hw2 hw3 w23 w34 hg; omega
   rw [if_neg (by omega), if_pos (by omega), if_pos (by omega), rd_nat p (i + 1) l1]
   rw [if_neg (by omega), getD_drop' p (i + 1) 0 (by omega)] at hg
   simp only [Nat.add_zero] at hg
   by_cases h3 : p[i + 1] < lo2 p[i]
   ·rw [if_pos h3]
    rw [platenref01_Size.j5]
    rw [if_pos rfl, hg, if_pos (.inl h3)]; rfl
   ·rw [if_neg h3]
    by_cases h4 : hi2 p[i] < p[i + 1]
    ·rw [decide_eq_true h4]
     rw [platenref01_Size.j5]
     rw [if_pos rfl, hg, if_pos (.inr h4)]; rfl
    ·rw [decide_eq_false h4]
     rw [if_neg (by omega)] at hg
     rw [platenref01_Size.j5]
     rw [if_neg (by simp)]
     rw [platenref01_Size.l0]
     rcases hn with hn | hn | hn | hn
     ·exact absurd hn h1
     ·rw [hn, if_neg (by decide), hg, hn]; rfl
     ·have l2 := l2 (by rw [hn]; omega)
      rw [hn, if_pos (by decide), hw2, if_pos (by omega), if_pos (by omega), rd_nat p (i + 2) l2, w23]
      rw [hn, getD_drop' p (i + 1) 1 (by omega)] at hg
      simp only [show i + 1 + 1 = i + 2 by omega] at hg
      clear hw2 hw3
      by_cases c1 : p[i + 2] < 128
      ·rw [if_pos c1, hg, if_pos ⟨by omega, fun c => by unfold cont at c; omega⟩]; rfl
      ·rw [if_neg c1]
       by_cases c2 : p[i + 2] > 191
       ·rw [if_pos c2, hg, if_pos ⟨by omega, fun c => by unfold cont at c; omega⟩]; rfl
       ·rw [if_neg c2]
        rw [platenref01_Size.l0]
        rw [if_neg (by decide), hg, if_neg (fun e => e.2 (by unfold cont; omega)), if_neg (by omega)]
     ·have l2 := l2 (by rw [hn]; omega)
      have l3 := l3 (by rw [hn]; omega)
      rw [hn, if_pos (by decide), hw2, if_pos (by omega), if_pos (by omega), rd_nat p (i + 2) l2, w23]
      rw [hn, getD_drop' p (i + 1) 1 (by omega), getD_drop' p (i + 1) 2 (by omega)] at hg
      simp only [show i + 1 + 1 = i + 2 by omega, show i + 1 + 2 = i + 3 by omega] at hg
      clear hw2
      by_cases c1 : p[i + 2] < 128
      ·rw [if_pos c1, hg, if_pos ⟨by omega, fun c => by unfold cont at c; omega⟩]; rfl
      ·rw [if_neg c1]
       by_cases c2 : p[i + 2] > 191
       ·rw [if_pos c2, hg, if_pos ⟨by omega, fun c => by unfold cont at c; omega⟩]; rfl
       ·rw [if_neg c2]
        rw [platenref01_Size.l0]
        rw [if_pos (by decide), hw3, if_pos (by omega), if_pos (by omega), rd_nat p (i + 3) l3, w34]
        rw [if_neg (fun e => e.2 (by unfold cont; omega))] at hg
        clear hw3
        by_cases c3 : p[i + 3] < 128
        ·rw [if_pos c3, hg, if_pos ⟨by omega, fun c => by unfold cont at c; omega⟩]; rfl
        ·rw [if_neg c3]
         by_cases c4 : p[i + 3] > 191
         ·rw [if_pos c4, hg, if_pos ⟨by omega, fun c => by unfold cont at c; omega⟩]; rfl
         ·rw [if_neg c4]
          rw [platenref01_Size.l0]
          rw [if_neg (by decide), hg, if_neg (fun e => e.2 (by unfold cont; omega))]
theorem platenref01_Size_spec (p : List Int) (i : Nat) (h : i < p.length) (hp : p.length ≤ 1000000000) (k : Nat) (hk : 12 < k) : platenref01_Size.f k p (i : Int) = some (gsz (p.drop i) : Int) := by
 obtain ⟨k, rfl⟩ : ∃ k', k = k' + 10 := ⟨k - 10, by omega⟩
 have h4 := size_j4 p i h hp
 unfold platenref01_Size.f
 rw [if_neg (by omega), decide_eq_false (by omega)]
 rw [platenref01_Size.j0]
 rw [if_neg (by simp), if_pos (by omega), if_pos (by omega), rd_nat p i h]
 generalize p[i] = b at *
 by_cases g1 : b ≥ 194 ∧ b ≤ 223
 ·have hn : need b = 2 := by unfold need; rw [if_pos (by omega)]
  rw [if_pos g1.1, decide_eq_true g1.2]
  rw [platenref01_Size.j1]
  rw [if_pos rfl, size_j3]
  rw [hn] at h4
  exact h4 (k + 1)
 ·have hj1 : (if b ≥ 194 then platenref01_Size.j1 (k + 9) p (i : Int) b 1 128 191 (decide (b ≤ 223)) else platenref01_Size.j1 (k + 9) p (i : Int) b 1 128 191 false) = platenref01_Size.j1 (k + 9) p (i : Int) b 1 128 191 false := by
   by_cases g : b ≥ 194
   ·rw [if_pos g, decide_eq_false (by omega)]
   ·rw [if_neg g]
  rw [hj1]
  rw [platenref01_Size.j1]
  rw [if_neg (by simp)]
  by_cases g2 : b ≥ 224 ∧ b ≤ 239
  ·have hn : need b = 3 := by unfold need; rw [if_neg (by omega), if_pos (by omega)]
   rw [if_pos g2.1, decide_eq_true g2.2]
   rw [platenref01_Size.j2]
   rw [if_pos rfl, size_j3]
   rw [hn] at h4
   exact h4 k
  ·have hj2 : (if b ≥ 224 then platenref01_Size.j2 (k + 8) p (i : Int) b 1 128 191 (decide (b ≤ 239)) else platenref01_Size.j2 (k + 8) p (i : Int) b 1 128 191 false) = platenref01_Size.j2 (k + 8) p (i : Int) b 1 128 191 false := by
    by_cases g : b ≥ 224
    ·rw [if_pos g, decide_eq_false (by omega)]
    ·rw [if_neg g]
   rw [hj2]
   rw [platenref01_Size.j2]
   rw [if_neg (by simp)]
   by_cases g3 : b ≥ 240 ∧ b ≤ 244
   ·have hn : need b = 4 := by unfold need; rw [if_neg (by omega), if_neg (by omega), if_pos (by omega)]
    rw [if_pos g3.1, if_pos g3.2, size_j3]
    rw [hn] at h4
    exact h4 k
   ·have hn : need b = 1 := by unfold need; rw [if_neg (by omega), if_neg (by omega), if_neg (by omega)]
    rw [hn] at h4
    by_cases g : b ≥ 240
    ·rw [if_pos g, if_neg (by omega), size_j3]; exact h4 k
    ·rw [if_neg g, size_j3]; exact h4 k
theorem startsF_len (p : List Int) (n : Nat) : ∀ x, (startsF n p x).length ≤ n := by
 induction n with
 | zero => intro x; simp [startsF]
 | succ n ih =>
  intro x; simp only [startsF]; split
  ·have := ih (x + gsz (p.drop x)); simp only [List.length_cons]; omega
  ·simp
theorem platenref01_Starts_l0 (p : List Int) (hp : p.length ≤ 1000000000) (n : Nat) : ∀ (k x : Nat) (acc : List Int), x ≤ p.length → p.length ≤ x + n → acc.length ≤ x → n + 14 < k →
  platenref01_Starts.l0 k p acc (x : Int) = some (acc ++ zs (startsF n p x)) := by
 induction n with
 | zero =>
  intro k x acc h1 h2 _ hk
  obtain ⟨k, rfl⟩ := ex_succ1 hk
  rw [platenref01_Starts.l0, if_neg (by omega)]
  simp [startsF, zs]
 | succ n ih =>
  intro k x acc h1 h2 ha hk
  obtain ⟨k, rfl⟩ := ex_succ1 hk
  rw [platenref01_Starts.l0]
  simp only [startsF]
  by_cases h : x < p.length
  ·have hg := gd_pos p x h
   have hle := gd_le p x h1
   have hnext := ih k (x + gsz (p.drop x)) (acc ++ [(x : Int)]) hle (by omega) (by simp only [List.length_append, List.length_cons, List.length_nil]; omega) (by omega)
   rw [if_pos (by omega), if_pos (by omega), if_pos h, platenref01_Size_spec p x h hp k (by omega), Option.bind_some]
   have hw : wrap64 ((x : Int) + (gsz (p.drop x) : Int)) = ((x + gsz (p.drop x) : Nat) : Int) := by
    rw [← Int.natCast_add]; exact wid (by omega) (by omega)
   rw [hw, hnext]
   simp [zs]
  ·rw [if_neg (by omega), if_neg h]; simp [zs]
theorem platenref01_Starts_spec (p : List Int) (hp : p.length ≤ 1000000000) (k : Nat) (hk : p.length + 14 < k) : platenref01_Starts.f k p = some (zs (starts p)) := by
 have := platenref01_Starts_l0 p hp p.length k 0 [] (by omega) (by omega) (by simp) hk
 simpa [platenref01_Starts.f, starts] using this
theorem platenref01_Floor_l0 (p : List Int) (a : Nat) (ha : a < p.length) (hp : p.length ≤ 1000000000) (n : Nat) : ∀ (k x idx : Nat) (S : List Nat) (acc : Int), Bd p x → p.length ≤ x + n → idx ≤ S.length → S.length ≤ 1000000000 → S.drop idx = startsF n p x → n < k →
  platenref01_Floor.l0 k (a : Int) acc (zs S) (idx : Int) = some (if a < x then acc else (flo p a : Int)) := by
 induction n with
 | zero =>
  intro k x idx S acc hx h2 hi hS hd hk
  obtain ⟨k, rfl⟩ := ex_succ1 hk
  have := congrArg List.length hd
  simp only [List.length_drop, startsF, List.length_nil] at this
  rw [platenref01_Floor.l0, zs_len, if_neg (by omega), if_pos (by omega)]
 | succ n ih =>
  intro k x idx S acc hx h2 hi hS hd hk
  obtain ⟨k, rfl⟩ := ex_succ1 hk
  simp only [startsF] at hd
  by_cases h : x < p.length
  ·rw [if_pos h] at hd
   have hlen := congrArg List.length hd
   simp only [List.length_drop, List.length_cons] at hlen
   have hlt : idx < S.length := by omega
   rw [drop_at S idx hlt, List.cons.injEq] at hd
   obtain ⟨e1, e2⟩ := hd
   have hg := gd_pos p x h
   have hnext := fun acc => ih k (x + gsz (p.drop x)) (idx + 1) S acc (hx.next h) (by omega) (by omega) hS e2 (by omega)
   rw [platenref01_Floor.l0, zs_len, if_pos (by omega), if_pos (by omega), rd_zs S idx hlt, e1]
   have hw : wrap64 ((idx : Int) + 1) = ((idx + 1 : Nat) : Int) := wnat (by omega)
   rw [hw, hnext, hnext]
   clear hw
   by_cases c : a < x
   ·rw [if_neg (by omega), if_pos (by omega), if_pos c]
   ·rw [if_pos (by omega), if_neg c]
    by_cases c2 : a < x + gsz (p.drop x)
    ·rw [if_pos c2, flo_bd hx h a (by omega) c2]
    ·rw [if_neg c2]
  ·rw [if_neg h] at hd
   have := congrArg List.length hd
   simp only [List.length_drop, List.length_nil] at this
   rw [platenref01_Floor.l0, zs_len, if_neg (by omega), if_pos (by omega)]
theorem platenref01_Floor_neg (a : Int) (ha : a < 0) (S : List Nat) (hS : S.length ≤ 1000000000) (n : Nat) : ∀ (k idx : Nat) (acc : Int), idx + n = S.length → n < k → platenref01_Floor.l0 k a acc (zs S) (idx : Int) = some acc := by
 induction n with
 | zero =>
  intro k idx acc hi hk
  obtain ⟨k, rfl⟩ := ex_succ1 hk
  rw [platenref01_Floor.l0, zs_len, if_neg (by omega)]
 | succ n ih =>
  intro k idx acc hi hk
  obtain ⟨k, rfl⟩ := ex_succ1 hk
  have hlt : idx < S.length := by omega
  have hnext := ih k (idx + 1) acc (by omega) (by omega)
  rw [platenref01_Floor.l0, zs_len, if_pos (by omega), if_pos (by omega), rd_zs S idx hlt, if_neg (by omega)]
  have hw : wrap64 ((idx : Int) + 1) = ((idx + 1 : Nat) : Int) := wnat (by omega)
  rw [hw, hnext]
theorem platenref01_Floor_spec (p : List Int) (hp : p.length ≤ 1000000000) (a : Int) (k : Nat) (hk : p.length + 14 < k) : platenref01_Floor.f k p a = some (flo p (clip p a) : Int) := by
 have hsl := startsF_len p p.length 0
 unfold platenref01_Floor.f
 by_cases h : a ≥ (p.length : Int)
 ·have : clip p a = p.length := by unfold clip; omega
  rw [if_pos h, this, flo_self (Bd.end_ p)]
 ·rw [if_neg h, platenref01_Starts_spec p hp k hk, Option.bind_some]
  by_cases h0 : a < 0
  ·have : clip p a = 0 := by unfold clip; omega
   rw [this, flo_self .zero]
   exact platenref01_Floor_neg a h0 (starts p) (by unfold starts; omega) (starts p).length k 0 0 (by omega) (by unfold starts; omega)
  ·have hc : clip p a = a.toNat := by unfold clip; omega
   have := platenref01_Floor_l0 p a.toNat (by omega) hp p.length k 0 0 (starts p) 0 .zero (by omega) (by omega) (by unfold starts; omega) rfl (by omega)
   rw [show ((a.toNat : Nat) : Int) = a by omega, if_neg (by omega)] at this
   rw [hc]
   exact this
theorem platenref01_Step_spec (c b t : Nat) (x : Int) (hx : x = (b : Int)) (hc : c ≤ 1000000000) (ht : t ≤ 100000) (h0 : 0 < t) : platenref01_Step.f (c : Int) x (t : Int) = some (stp c b t : Int) := by
 subst hx
 unfold platenref01_Step.f stp
 by_cases h : b = 9
 ·have e1 : Int.tdiv (c : Int) (t : Int) = ((c / t : Nat) : Int) := by rw [Int.tdiv_eq_ediv_of_nonneg (by omega)]; rfl
  have hm := Nat.mod_lt c h0
  have hl := Nat.div_le_self c t
  have hd := Nat.div_add_mod c t
  have hk : (c / t + 1) * t = c + t - c % t := by
   rw [Nat.add_mul, Nat.one_mul, Nat.mul_comm]; omega
  rw [if_pos (by omega), if_neg (by omega), e1, if_pos h]
  clear e1
  generalize c / t = d at *
  generalize c % t = r at *
  have hb : (d + 1) * t ≤ 2000000000 := by omega
  have w1 : wrap64 (d : Int) = (d : Int) := by clear hk hd; exact wid (by omega) (by omega)
  have w2 : wrap64 ((d : Int) + 1) = ((d + 1 : Nat) : Int) := by clear w1 hk hd; exact wnat (by omega)
  have w3 : wrap64 (((d + 1 : Nat) : Int) * (t : Int)) = (((d + 1) * t : Nat) : Int) := by
   clear w1 w2
   rw [← Int.natCast_mul]
   generalize (d + 1) * t = z at hb
   exact wid (by omega) (by omega)
  rw [w1, w2, w3, hk]
 ·have w1 : wrap64 ((c : Int) + 1) = ((c + 1 : Nat) : Int) := wnat (by omega)
  rw [if_neg (by clear w1; omega), w1, if_neg h]
theorem nat_byte {p : List Int} (hb : Bytes p) (i : Nat) (h : i < p.length) : p[i] = ((p[i]).toNat : Int) := by
 have := hb p[i] (List.getElem_mem h); omega
theorem platenref01_Wide_l0 (p : List Int) (hb : Bytes p) (t : Nat) (h0 : 0 < t) (ht : t ≤ 1000) (hp : p.length ≤ 10000) (n : Nat) : ∀ (k x c idx : Nat) (S : List Nat), x ≤ p.length → p.length ≤ x + n → c + (p.length - x) * t ≤ 900000000 → idx ≤ S.length → S.length ≤ 1000000 → S.drop idx = startsF n p x → n < k →
  platenref01_Wide.l0 k p (c : Int) (t : Int) (zs S) (idx : Int) = some (wid_ (p.drop x) c t : Int) := by
 induction n with
 | zero =>
  intro k x c idx S h1 h2 _ hi hS hd hk
  obtain ⟨k, rfl⟩ := ex_succ1 hk
  have := congrArg List.length hd
  simp only [List.length_drop, startsF, List.length_nil] at this
  rw [platenref01_Wide.l0, zs_len, if_neg (by omega), List.drop_eq_nil_of_le (by omega), wid_nil]
 | succ n ih =>
  intro k x c idx S h1 h2 hc hi hS hd hk
  obtain ⟨k, rfl⟩ := ex_succ1 hk
  simp only [startsF] at hd
  by_cases h : x < p.length
  ·rw [if_pos h] at hd
   have hlen := congrArg List.length hd
   simp only [List.length_drop, List.length_cons] at hlen
   have hlt : idx < S.length := by omega
   rw [drop_at S idx hlt, List.cons.injEq] at hd
   obtain ⟨e1, e2⟩ := hd
   have hg := gd_pos p x h
   have hle := gd_le p x h1
   have hs := stp_le c p[x].toNat t h0
   have hmul : (p.length - (x + gsz (p.drop x))) * t + t ≤ (p.length - x) * t := by
    have := Nat.mul_le_mul_right t (show (p.length - (x + gsz (p.drop x))) + 1 ≤ p.length - x by omega)
    rw [Nat.add_mul, Nat.one_mul] at this; exact this
   have hnext := ih k (x + gsz (p.drop x)) (stp c p[x].toNat t) (idx + 1) S hle (by omega) (by omega) (by omega) hS e2 (by omega)
   rw [platenref01_Wide.l0, zs_len, if_pos (by omega), if_pos (by omega), rd_zs S idx hlt, e1, if_pos (by omega), if_pos (by omega), rd_nat p x h, platenref01_Step_spec c p[x].toNat t _ (nat_byte hb x h) (by omega) (by omega) h0, Option.bind_some]
   have hw : wrap64 ((idx : Int) + 1) = ((idx + 1 : Nat) : Int) := wnat (by omega)
   rw [hw, hnext, wid_at p x h]
  ·rw [if_neg h] at hd
   have := congrArg List.length hd
   simp only [List.length_drop, List.length_nil] at this
   rw [platenref01_Wide.l0, zs_len, if_neg (by omega), List.drop_eq_nil_of_le (by omega), wid_nil]
theorem platenref01_Wide_spec (p : List Int) (hb : Bytes p) (c t : Nat) (h0 : 0 < t) (ht : t ≤ 1000) (hp : p.length ≤ 10000) (hc : c ≤ 1000000) (k : Nat) (hk : p.length + 14 < k) :
  platenref01_Wide.f k p (c : Int) (t : Int) = some (wid_ p c t : Int) := by
 have hm : p.length * t ≤ 10000 * 1000 := Nat.mul_le_mul hp ht
 have hsl := startsF_len p p.length 0
 unfold platenref01_Wide.f
 rw [platenref01_Starts_spec p (by omega) k hk, Option.bind_some]
 have := platenref01_Wide_l0 p hb t h0 ht hp p.length k 0 c 0 (starts p) (by omega) (by omega) (by simp only [Nat.sub_zero]; omega) (by omega) (by unfold starts; omega) rfl (by omega)
 simpa using this
theorem platenref03_Ends_l0 (p : List Int) (hp : p.length ≤ 1000000000) (m : Nat) : ∀ (k i : Nat) (acc : List Int), i + m = p.length → acc.length ≤ i → m < k →
  platenref03_Ends.l0 k p acc (i : Int) = some (acc ++ zs (endsF i (p.drop i))) := by
 induction m with
 | zero =>
  intro k i acc hi ha hk
  obtain ⟨k, rfl⟩ := ex_succ hk
  rw [platenref03_Ends.l0, if_neg (by omega), List.drop_eq_nil_of_le (by omega)]
  simp [endsF, zs]
 | succ m ih =>
  intro k i acc hi ha hk
  obtain ⟨k, rfl⟩ := ex_succ hk
  have hlt : i < p.length := by omega
  have hw : wrap64 ((i : Int) + 1) = ((i + 1 : Nat) : Int) := wnat (by omega)
  have h1 := ih k (i + 1) acc (by omega) (by omega) (by omega)
  have h2 := ih k (i + 1) (acc ++ [(i : Int)]) (by omega) (by simp only [List.length_append, List.length_cons, List.length_nil]; omega) (by omega)
  rw [platenref03_Ends.l0, hw, h1, h2]
  clear hw h1 h2
  rw [if_pos (by omega), if_pos (by omega), rd_nat p i hlt, if_pos (show acc.length < 17592186044416 by omega), drop_at p i hlt]
  simp only [endsF]
  by_cases h : p[i] = 10
  ·rw [if_pos h, if_pos h]; simp [zs]
  ·rw [if_neg h, if_neg h]
theorem platenref03_Ends_spec (p : List Int) (hp : p.length ≤ 1000000000) (k : Nat) (hk : p.length < k) : platenref03_Ends.f k p = some (zs (endsF 0 p)) := by
 have := platenref03_Ends_l0 p hp p.length k 0 [] (by omega) (by simp) hk
 simpa [platenref03_Ends.f] using this
theorem platenref03_Of_l0 (L : List Nat) (a : Int) (hL : L.length ≤ 1000000000) (m : Nat) : ∀ (k i n : Nat), i + m = L.length → n ≤ i → m < k →
  platenref03_Of.l0 k a (n : Int) (zs L) (i : Int) = some ((n + ((L.drop i).filter fun (e : Nat) => decide ((e : Int) < a)).length : Nat) : Int) := by
 induction m with
 | zero =>
  intro k i n hi hn hk
  obtain ⟨k, rfl⟩ := ex_succ hk
  rw [platenref03_Of.l0, zs_len, if_neg (by omega), List.drop_eq_nil_of_le (by omega)]; rfl
 | succ m ih =>
  intro k i n hi hn hk
  obtain ⟨k, rfl⟩ := ex_succ hk
  have hlt : i < L.length := by omega
  have hw : wrap64 ((i : Int) + 1) = ((i + 1 : Nat) : Int) := wnat (by omega)
  have hw2 : wrap64 ((n : Int) + 1) = ((n + 1 : Nat) : Int) := by clear hw; exact wnat (by omega)
  have h1 := ih k (i + 1) n (by omega) (by omega) (by omega)
  have h2 := ih k (i + 1) (n + 1) (by omega) (by omega) (by omega)
  rw [platenref03_Of.l0, hw, hw2, h1, h2]
  clear hw hw2 h1 h2
  rw [zs_len, if_pos (by omega), if_pos (by omega), rd_zs L i hlt, drop_at L i hlt]
  by_cases h : (L[i] : Int) < a
  ·rw [if_pos h, List.filter_cons_of_pos (by simpa using h), List.length_cons]
   congr 2; omega
  ·rw [if_neg h, List.filter_cons_of_neg (by simpa using h)]
theorem platenref03_Of_spec (p : List Int) (hp : p.length ≤ 1000000000) (a : Int) (k : Nat) (hk : p.length < k) : platenref03_Of.f k p a = some (row p (clip p a) : Int) := by
 have hn := nls_le p
 have hl := endsF_length p 0
 unfold platenref03_Of.f
 rw [platenref03_Ends_spec p hp k hk, Option.bind_some]
 have := platenref03_Of_l0 (endsF 0 p) a (by omega) (endsF 0 p).length k 0 0 (by omega) (by omega) (by omega)
 rw [Int.natCast_zero, List.drop_zero, Nat.zero_add] at this
 rw [this]
 have he := ends_ahead p 0 a.toNat
 have ef : (endsF 0 p).filter (fun (e : Nat) => decide ((e : Int) < a)) = (endsF 0 p).filter (fun e => decide (e < 0 + a.toNat)) := by
  refine List.filter_congr fun x _ => ?_
  rw [decide_eq_decide]; omega
 rw [ef, he]
 unfold row clip
 by_cases hc : a.toNat ≤ p.length
 ·rw [show min a.toNat p.length = a.toNat by omega]
 ·rw [show min a.toNat p.length = p.length by omega, List.take_of_length_le (by omega), List.take_of_length_le (by omega)]
theorem platenref03_Spans_l0 (p : List Int) (hp : p.length ≤ 1000000000) (E : List Nat) (hE : ∀ e ∈ E, e < p.length) (hs : E.Pairwise (· < ·)) (hn : E.length ≤ 1000000000) (m : Nat) : ∀ (k i a : Nat) (acc : List NN), i + m = E.length → acc.length ≤ i → a ≤ p.length → (∀ e ∈ E.drop i, a ≤ e) → m < k →
  platenref03_Spans.l0 k p (acc.map mk) (a : Int) (zs E) (i : Int) = some ((acc ++ spe a (E.drop i) p.length).map mk) := by
 induction m with
 | zero =>
  intro k i a acc hi ha hap _ hk
  obtain ⟨k, rfl⟩ := ex_succ hk
  have hcap : (acc.map mk).length < 8796093022208 := by simp only [List.length_map]; omega
  have hw : wrap64 ((p.length : Int) - (a : Int)) = ((p.length - a : Nat) : Int) := by rw [wid (by omega) (by omega)]; omega
  rw [platenref03_Spans.l0, zs_len, if_neg (by omega), if_pos hcap, List.drop_eq_nil_of_le (by omega), hw]
  simp [spe, mk]
 | succ m ih =>
  intro k i a acc hi ha hap hle hk
  obtain ⟨k, rfl⟩ := ex_succ hk
  have hlt : i < E.length := by omega
  have hcap : (acc.map mk).length < 8796093022208 := by simp only [List.length_map]; omega
  have hel := hE _ (List.getElem_mem hlt)
  have hd := List.drop_eq_getElem_cons hlt
  have hmem : E[i] ∈ E.drop i := by rw [hd]; exact List.mem_cons_self
  have hea : a ≤ E[i] := hle _ hmem
  have hps : (E[i] :: E.drop (i + 1)).Pairwise (· < ·) := by rw [← hd]; exact hs.sublist (List.drop_sublist _ _)
  have hnx : ∀ e ∈ E.drop (i + 1), E[i] + 1 ≤ e := fun e he => Nat.succ_le_of_lt ((List.pairwise_cons.1 hps).1 e he)
  have h1 := ih k (i + 1) (E[i] + 1) (acc ++ [(a, E[i] - a)]) (by omega) (by simp only [List.length_append, List.length_cons, List.length_nil]; omega) (by omega) hnx (by omega)
  have hw : wrap64 ((i : Int) + 1) = ((i + 1 : Nat) : Int) := wnat (by omega)
  have hw2 : wrap64 ((E[i] : Int) + 1) = ((E[i] + 1 : Nat) : Int) := by clear hw; exact wnat (by omega)
  have hw3 : wrap64 ((E[i] : Int) - (a : Int)) = ((E[i] - a : Nat) : Int) := by clear hw hw2; rw [wid (by omega) (by omega)]; omega
  have erow : acc.map mk ++ [(⟨(a : Int), ((E[i] - a : Nat) : Int)⟩ : S39)] = (acc ++ [(a, E[i] - a)]).map mk := by simp [mk]
  rw [platenref03_Spans.l0, zs_len, rd_zs E i hlt, hw, hw2, hw3, erow, h1]
  clear hw hw2 hw3 h1 erow
  rw [if_pos (by omega), if_pos (by omega), if_pos hcap, hd, spe]
  simp
theorem endsF_asc (p : List Int) : ∀ o, (endsF o p).Pairwise (· < ·) := by
 induction p with
 | nil => intro o; exact List.Pairwise.nil
 | cons c t ih =>
  intro o
  simp only [endsF]
  split
  ·exact List.pairwise_cons.2 ⟨fun x hx => by have := endsF_bd t _ x hx; omega, ih _⟩
  ·exact ih _
theorem platenref03_Spans_spec (p : List Int) (hp : p.length ≤ 1000000000) (k : Nat) (hk : p.length + 1 < k) : platenref03_Spans.f k p = some ((spans p).map mk) := by
 have hn := nls_le p
 have hl := endsF_length p 0
 unfold platenref03_Spans.f
 rw [platenref03_Ends_spec p hp k (by omega), Option.bind_some]
 have := platenref03_Spans_l0 p hp (endsF 0 p) (fun e he => by have := endsF_bd p 0 e he; omega) (endsF_asc p 0) (by omega) (endsF 0 p).length k 0 0 [] (by omega) (by simp) (by omega) (fun _ _ => by omega) (by omega)
 rw [List.drop_zero, spans_eq, List.nil_append] at this
 simpa using this
theorem spans_rd (p : List Int) (i : Nat) (h : i < (lns p).length) : rd_T39 ((spans p).map mk) (i : Int) = mk (off ((lns p).take i), (lns p)[i].length) := by
 have h2 : i < (spans p).length := by rw [spans, spo_length]; exact h
 rw [rd_mk _ _ h2]
 have := spans_at h
 rw [List.getElem?_eq_getElem h2, Option.some_inj] at this
 rw [this]
theorem platenref03_Tab_spec (x : Int) : platenref03_Tab.f x = some (tb x : Int) := by
 unfold platenref03_Tab.f tb
 split <;> (congr 1; omega)
theorem ref03_Column_j1 (p : List Int) (hb : Bytes p) (hp : p.length ≤ 10000) (c : Nat) (hc : c ≤ p.length) (t : Int) (ht : t ≤ 1000) (k : Nat) (hk : p.length + 16 < k) : platenref03_Column.j1 k p (c : Int) t = some (wid_ (ahd p c) 0 (tb t) : Int) := by
 obtain ⟨k, rfl⟩ := ex_succ (n := 0) (k := k) (by omega)
 have hr := row_lt p c
 have hra := row_at p c hc
 have hsl := spans_length p
 have hcnt := lns_count p
 have htb := tb_pos t
 have hcc : clip p (c : Int) = c := by unfold clip; omega
 have hal : (ahd p c).length ≤ p.length := by unfold ahd; simp only [List.length_drop, List.length_take]; omega
 have bx : Bytes (ahd p c) := fun z hz => hb z (List.mem_of_mem_take (List.mem_of_mem_drop hz))
 rw [platenref03_Column.j1, platenref03_Spans_spec p (by omega) k (by omega), Option.bind_some, platenref03_Of_spec p (by omega) _ k (by omega), Option.bind_some, hcc, if_pos (by omega), if_pos (by simp only [List.length_map]; omega), spans_rd p _ hr]
 rw [mk_f0, if_pos (by omega), if_pos (by omega), if_pos (by omega), show platenref03_Tab.f t = some (tb t : Int) from platenref03_Tab_spec t, Option.bind_some, Int.toNat_natCast, Int.toNat_natCast]
 rw [show platenref01_Wide.f k ((p.take c).drop (off ((lns p).take (row p c)))) 0 (tb t : Int) = some (wid_ (ahd p c) 0 (tb t) : Int) from platenref01_Wide_spec (ahd p c) bx 0 (tb t) htb (by unfold tb; omega) (by omega) (by omega) k (by omega), Option.bind_some]
theorem platenref03_Column_spec (p : List Int) (hb : Bytes p) (hp : p.length ≤ 10000) (a t : Int) (ht : t ≤ 1000) (k : Nat) (hk : p.length + 18 < k) : platenref03_Column.f k p a t = some (wid_ (ahd p (clip p a)) 0 (tb t) : Int) := by
 obtain ⟨k, rfl⟩ := ex_succ (n := 0) (k := k) (by omega)
 unfold platenref03_Column.f
 by_cases h : a < 0
 ·have e : clip p a = 0 := by unfold clip; omega
  rw [if_pos h, platenref03_Column.j0, if_neg (by omega), e]
  exact ref03_Column_j1 p hb hp 0 (by omega) t ht k (by omega)
 ·rw [if_neg h, platenref03_Column.j0]
  by_cases h2 : a > (p.length : Int)
  ·have e : clip p a = p.length := by unfold clip; omega
   rw [if_pos h2, e]
   exact ref03_Column_j1 p hb hp p.length (by omega) t ht k (by omega)
  ·have e : (clip p a : Int) = a := by unfold clip; omega
   have := ref03_Column_j1 p hb hp (clip p a) (clip_le p a) t ht k (by omega)
   rw [e] at this
   rw [if_neg h2, this]
theorem steps19_at : platenlaw19_steps.f 60 = some true := by kernel_rfl
theorem steps19_spec (k : Nat) (hk : 60 ≤ k) : platenlaw19_steps.f k = some true := by
 induction hk with
 | refl => exact steps19_at
 | step _ ih => exact platenlaw19_steps.mono _ _ ih
end Go.Proofs.YtloafpnniooliaaDoor.Ad
namespace Go.Proofs.YtloafpnniooliaaDoor.Pure
open Go Go.RowKit Go.Proofs.YtloafpnniooliaaDoor.Pa Go.Proofs.YtloafpnniooliaaDoorW.PrintWords Go.Proofs.YtloafpnniooliaaDoorW.PrintLast Go.Proofs.YtloafpnniooliaaDoorW.PrintMore Go.Proofs.YtloafpnniooliaaDoor.Gen Go.Proofs.YtloafpnniooliaaDoor.Ad
set_option linter.unusedVariables false
set_option linter.unusedSimpArgs false
theorem ahd_lin {p : List Int} {r x : Nat} (hr : r < (lns p).length) (hx : x ≤ (lin p r).length) : row p (off ((lns p).take r) + x) = r ∧ ahd p (off ((lns p).take r) + x) = (lin p r).take x := by
 have hle := off_le hr
 rw [lin_at hr] at hx
 have h1 : row p (off ((lns p).take r) + x) = r := row_of hr (by omega) (by omega)
 have h2 : row p (off ((lns p).take r)) = r := row_of hr (by omega) (by omega)
 refine ⟨h1, ?_⟩
 obtain ⟨V, hV, _⟩ := lin_drop (p := p) (a := off ((lns p).take r)) (by omega)
 unfold fr at hV
 rw [h2] at hV
 unfold ahd
 rw [h1, List.drop_take, hV, Nat.add_sub_cancel_left, List.take_append_of_le_length (by rw [lin_at hr]; exact hx)]
theorem gsz_lin {p : List Int} {r x : Nat} (hr : r < (lns p).length) (hx : x < (lin p r).length) : gsz (p.drop (off ((lns p).take r) + x)) = gsz ((lin p r).drop x) ∧ x + gsz ((lin p r).drop x) ≤ (lin p r).length := by
 have hle := off_le hr
 have hl := lin_at hr
 have h2 : row p (off ((lns p).take r)) = r := row_of hr (by omega) (by omega)
 have h1 := (ahd_lin hr (Nat.le_of_lt hx)).1
 obtain ⟨V, hV, _⟩ := lin_drop (p := p) (a := off ((lns p).take r)) (by omega)
 unfold fr at hV
 rw [h2] at hV
 have hen : en p (off ((lns p).take r) + x) = off ((lns p).take r) + (lin p r).length := by unfold en fr; rw [h1]
 have hs := sign_in (p := p) (b := off ((lns p).take r) + x) (by rw [hl] at hx; omega) (by rw [hen]; omega)
 rw [hen] at hs
 have ht := gsz_take (p.drop (off ((lns p).take r) + x)) ((lin p r).length - x) (by omega)
 have hd : (p.drop (off ((lns p).take r) + x)).take ((lin p r).length - x) = (lin p r).drop x := by
  rw [← List.drop_drop, hV, List.drop_append_of_le_length (Nat.le_of_lt hx)]
  rw [List.take_append_of_le_length (by simp only [List.length_drop]; omega), List.take_of_length_le (by simp only [List.length_drop]; omega)]
 rw [hd] at ht
 exact ⟨ht.symm, by omega⟩
theorem MotionLines : platenlaw19_MotionLines.Pure := by
 intro p a n z _ _ hp ha hn hz
 have bp := bytes_of hp
 have ba := u8_of ha
 have bn := u8_of hn
 have bz := u8_of hz
 clear ha hn hz
 refine ⟨31106, ?_⟩
 unfold platenlaw19_MotionLines.f
 rw [steps19_spec 31106 (by omega), Option.bind_some, if_pos rfl]
 by_cases h : (p.length : Int) > 200
 ·rw [decide_eq_true h, platenlaw19_MotionLines.j0, if_pos rfl, steps19_spec 31105 (by omega), Option.bind_some]
 ·have w1 : wrap64 n = n := wid (by omega) (by omega)
  have w2 : wrap64 a = a := by clear w1; exact wid (by omega) (by omega)
  have w4 : wrap64 z = z := by clear w1 w2; exact wid (by omega) (by omega)
  obtain ⟨n, rfl⟩ : ∃ y : Nat, n = (y : Int) := ⟨n.toNat, by clear w1 w2 w4; omega⟩
  obtain ⟨z, rfl⟩ : ∃ y : Nat, z = (y : Int) := ⟨z.toNat, by clear w1 w2 w4; omega⟩
  have hn := Nat.mod_lt n (show 0 < 4 by decide)
  have hz := Nat.mod_lt z (show 0 < 16 by decide)
  have w3 : wrap64 (Int.tmod (n : Int) 4 + 1) = ((n % 4 + 1 : Nat) : Int) := by
   clear w1 w2 w4
   rw [show Int.tmod (n : Int) 4 = ((n % 4 : Nat) : Int) from (Int.ofNat_tmod n 4).symm]
   exact wnat (by omega)
  have w5 : wrap64 (Int.tmod (z : Int) 16 + 1) = ((z % 16 + 1 : Nat) : Int) := by
   clear w1 w2 w3 w4
   rw [show Int.tmod (z : Int) 16 = ((z % 16 : Nat) : Int) from (Int.ofNat_tmod z 16).symm]
   exact wnat (by omega)
  rw [decide_eq_false h, platenlaw19_MotionLines.j0, if_neg (by simp), w1, w2, w3, w4, w5]
  clear w1 w2 w3 w4 w5
  have hc : 1 ≤ n % 4 + 1 ∧ n % 4 + 1 ≤ 4 := by omega
  have ht : 1 ≤ z % 16 + 1 ∧ z % 16 + 1 ≤ 16 := by omega
  generalize n % 4 + 1 = c at *
  generalize z % 16 + 1 = t at *
  have hfl := flo_facts (clip_le p a)
  have g1 := motion_Go_down p bp (by omega) 106 (.inl rfl) (flo p (clip p a) : Int) 0 (c : Int) (t : Int) (by omega) (by omega) 31105 (by omega)
  rw [clip_nat hfl.1.le, flo_self hfl.1] at g1
  have hcnt := lns_count p
  have hnl := nls_le p
  have hsl := spans_length p
  rw [platenref01_Floor_spec p (by omega) a 31105 (by omega), Option.bind_some, platenref03_Of_spec p (by omega) _ 31105 (by omega), Option.bind_some, clip_nat hfl.1.le, g1, Option.bind_some, platenref03_Spans_spec p (by omega) 31105 (by omega), Option.bind_some, List.length_map]
  clear g1
  have hBf := hfl.1
  generalize flo p (clip p a) = f at *
  have hle := hBf.le
  have hr := row_lt p f
  have hw : wrap64 ((row p f : Int) + (c : Int)) = ((row p f + c : Nat) : Int) := wadd (by omega)
  rw [hw]
  clear hw
  have edno : dno 106 (c : Int) = (c : Int) := by unfold dno; rw [if_neg (by decide), if_neg (by decide)]; omega
  have etb : tb (t : Int) = t := by unfold tb; omega
  by_cases h1 : row p f + c < (lns p).length
  ·have ed : dst p 106 (c : Int) (t : Int) f = some (dcl p (wid_ (ahd p f) 0 t) t (row p f + c)) := by
    have e1 : dln p (row p f) (c : Int) = some (row p f + c) := by
     unfold dln
     rw [if_pos ⟨by omega, by omega⟩]
     congr 1
    unfold dst
    rw [edno, e1, Option.map_some, if_neg (by decide), etb]
   rw [ed]
   clear ed edno
   have hgz : ∀ l w b', goz l w (some b') = ((b' : Int), l, w, 0) := fun _ _ _ => rfl
   rw [hgz, if_neg (by omega)]
   refine (if_pos rfl).trans ?_
   dsimp only
   generalize hrr : row p f + c = r at *
   have hat := at_facts (lin p r) (wid_ (ahd p f) 0 t) t
   have hal := hat.1.le
   have hol := off_le h1
   have hll := lin_at h1
   have hrow := (ahd_lin h1 hal)
   have hz1 : dcl p (wid_ (ahd p f) 0 t) t r = off ((lns p).take r) + at_ (lin p r) (wid_ (ahd p f) 0 t) t := rfl
   rw [hz1]
   have hcl : clip p ((off ((lns p).take r) + at_ (lin p r) (wid_ (ahd p f) 0 t) t : Nat) : Int) = off ((lns p).take r) + at_ (lin p r) (wid_ (ahd p f) 0 t) t := clip_nat (by rw [hll] at hal ⊢; omega)
   rw [platenref03_Of_spec p (by omega) _ 31105 (by omega), Option.bind_some, hcl, hrow.1, if_pos (by omega)]
   have et : (!decide ((106 : Int) = 106 ∨ (106 : Int) = 107)) = false := by decide
   rw [et, platenlaw19_MotionLines.j1, if_neg (by simp)]
   have hw2 : wrap64 ((row p f : Int) + (c : Int)) = (r : Int) := by rw [wadd (by omega), hrr]
   rw [hw2]
   clear hw2
   rw [List.length_map, if_pos (by omega), if_pos (by omega), platenref03_Column_spec p bp (by omega) (f : Int) (t : Int) (by omega) 31104 (by omega), Option.bind_some, platenref03_Column_spec p bp (by omega) _ (t : Int) (by omega) 31104 (by omega), Option.bind_some, clip_nat hle, hcl, hrow.2, etb, if_pos (by omega), spans_rd p r h1, mk_f0, mk_f1, ← hll]
   have hw3 : wrap64 ((off ((lns p).take r) : Int) + ((lin p r).length : Int)) = ((off ((lns p).take r) + (lin p r).length : Nat) : Int) := wadd (by rw [hll]; omega)
   rw [hw3]
   clear hw3
   by_cases h2 : at_ (lin p r) (wid_ (ahd p f) 0 t) t = (lin p r).length
   ·rw [if_pos (by omega)]
   ·have hlt : at_ (lin p r) (wid_ (ahd p f) 0 t) t < (lin p r).length := by omega
    have hgl := gsz_lin h1 hlt
    have hgt := hat.2.2 hlt
    rw [if_neg (by omega), platenref01_Size_spec p _ (by rw [hll] at hlt ⊢; omega) (by omega) 31104 (by omega), Option.bind_some, hgl.1]
    have hrow2 := ahd_lin h1 hgl.2
    have hw4 : wrap64 (((off ((lns p).take r) + at_ (lin p r) (wid_ (ahd p f) 0 t) t : Nat) : Int) + (gsz ((lin p r).drop (at_ (lin p r) (wid_ (ahd p f) 0 t) t)) : Int)) = ((off ((lns p).take r) + (at_ (lin p r) (wid_ (ahd p f) 0 t) t + gsz ((lin p r).drop (at_ (lin p r) (wid_ (ahd p f) 0 t) t))) : Nat) : Int) := by
     rw [wadd (by rw [hll] at hgl ⊢; omega)]; omega
    rw [hw4]
    clear hw4
    rw [platenref03_Column_spec p bp (by omega) _ (t : Int) (by omega) 31104 (by omega), Option.bind_some, clip_nat (by rw [hll] at hgl ⊢; omega), hrow2.2, etb]
    rw [decide_eq_true (by omega)]
  ·have ed : dst p 106 (c : Int) (t : Int) f = none := by
    have e1 : dln p (row p f) (c : Int) = none := by
     unfold dln
     rw [if_neg (by omega)]
    unfold dst
    rw [edno, e1]; rfl
   rw [ed, if_pos (by omega)]
   rfl
end Go.Proofs.YtloafpnniooliaaDoor.Pure
