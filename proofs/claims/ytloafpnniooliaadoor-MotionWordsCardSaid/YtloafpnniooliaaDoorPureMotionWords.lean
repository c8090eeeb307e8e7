/- Proved: by n words is n times by one, on, back and to ends, for any bytes, places and numbers. -/
import Derived.Test.YtloafpnniooliaaDoorExtTabs
import Derived.Test.YtloafpnniooliaaDoorPax0
import Derived.Test.YtloafpnniooliaaDoorPax10
import Derived.Test.YtloafpnniooliaaDoorPax11
import Derived.Test.YtloafpnniooliaaDoorPax12
import Derived.Test.YtloafpnniooliaaDoorPax13
import Derived.Test.YtloafpnniooliaaDoorPax15
import Derived.Test.YtloafpnniooliaaDoorPax17
import Derived.Test.YtloafpnniooliaaDoorPax18
import Derived.Test.YtloafpnniooliaaDoorPax2
import Derived.Test.YtloafpnniooliaaDoorPax27
import Derived.Test.YtloafpnniooliaaDoorPax3
import Derived.Test.YtloafpnniooliaaDoorPax4
import Derived.Test.YtloafpnniooliaaDoorPax6
import Derived.Test.YtloafpnniooliaaDoorPax7
import Derived.Test.YtloafpnniooliaaDoorPax9
import Derived.Test.YtloafpnniooliaaDoorGenMotionWords
namespace Go.Proofs.YtloafpnniooliaaDoor.Ad
open Go Go.RowKit Go.Proofs.YtloafpnniooliaaDoor.Pa Go.Proofs.YtloafpnniooliaaDoorW.PrintWords Go.Proofs.YtloafpnniooliaaDoorW.PrintLast Go.Proofs.YtloafpnniooliaaDoorW.PrintMore Go.Proofs.YtloafpnniooliaaDoor.Gen
set_option linter.unusedVariables false
set_option linter.unusedSimpArgs false
theorem ex_succ' {k n : Nat} (h : n < k) : ∃ m, k = m + 1 := ⟨k - 1, by omega⟩
theorem slow_sz (n b0 b1 b2 b3 sz lo hi : Nat) : (Lib.slowN n b0 b1 b2 b3 sz lo hi).2 =
  if n < sz ∨ (b1 < lo ∨ hi < b1) then 1 else if sz ≤ 2 then 2 else if b2 < 128 ∨ 191 < b2 then 1 else if sz ≤ 3 then 3 else if b3 < 128 ∨ 191 < b3 then 1 else 4 := by
 unfold Lib.slowN
 by_cases h1 : n < sz
 ·simp [h1]
 ·by_cases h2 : b1 < lo ∨ hi < b1
  ·simp [h1, h2]
  ·simp only [h1, h2, if_false, or_self]
   (repeat' split) <;> rfl
def szN (n b0 b1 b2 b3 : Nat) : Nat :=
 if need (b0 : Int) = 2 ∧ 2 ≤ n ∧ lo2 (b0 : Int) ≤ (b1 : Int) ∧ (b1 : Int) ≤ hi2 (b0 : Int) then 2
 else if need (b0 : Int) = 3 ∧ 3 ≤ n ∧ lo2 (b0 : Int) ≤ (b1 : Int) ∧ (b1 : Int) ≤ hi2 (b0 : Int) ∧ cont (b2 : Int) then 3
 else if need (b0 : Int) = 4 ∧ 4 ≤ n ∧ lo2 (b0 : Int) ≤ (b1 : Int) ∧ (b1 : Int) ≤ hi2 (b0 : Int) ∧ cont (b2 : Int) ∧ cont (b3 : Int) then 4 else 1
set_option maxHeartbeats 4000000 in
theorem decN_sz (n b0 b1 b2 b3 : Nat) (hn : 1 ≤ n) (h0 : b0 < 256) (h1 : b1 < 256) (h2 : b2 < 256) (h3 : b3 < 256) : (Lib.decodeN n b0 b1 b2 b3).2 = szN n b0 b1 b2 b3 := by
 have one : ∀ b : Nat, need (b : Int) = 1 → szN n b b1 b2 b3 = 1 := by
  intro b hb; simp [szN, hb]
 have slow : Lib.firstT b0 < 240 → (Lib.decodeN n b0 b1 b2 b3).2 = szN n b0 b1 b2 b3 := by
  intro hx
  rw [← Lib.slow_eq n b0 b1 b2 b3 hn h1 h2 h3 hx, slow_sz]
  rcases Lib.firstT_low hx with h | h | h | h | h | h | h
  ·rw [Lib.firstT_C2 h]
   have e : need (b0 : Int) = 2 := by unfold need; rw [if_pos (by omega)]
   have el : lo2 (b0 : Int) = 128 := by unfold lo2; rw [if_neg (by omega), if_neg (by omega)]
   have eh : hi2 (b0 : Int) = 191 := by unfold hi2; rw [if_neg (by omega), if_neg (by omega)]
   simp only [szN, e, el, eh, Lib.accLo, Lib.accHi, cont]
   simp (decide := true) only [if_true, if_false, true_and, false_and, Nat.reduceDiv, Nat.reduceMod]
   (repeat' split) <;> omega
  ·subst h
   simp only [szN, show need ((224 : Nat) : Int) = 3 by decide, show lo2 ((224 : Nat) : Int) = 160 by decide, show hi2 ((224 : Nat) : Int) = 191 by decide, show Lib.firstT 224 = 19 by decide, Lib.accLo, Lib.accHi, cont]
   simp (decide := true) only [if_true, if_false, true_and, false_and, Nat.reduceDiv, Nat.reduceMod]
   (repeat' split) <;> omega
  ·rw [Lib.firstT_E1 h]
   have e : need (b0 : Int) = 3 := by unfold need; rw [if_neg (by omega), if_pos (by omega)]
   have el : lo2 (b0 : Int) = 128 := by unfold lo2; rw [if_neg (by omega), if_neg (by omega)]
   have eh : hi2 (b0 : Int) = 191 := by unfold hi2; rw [if_neg (by omega), if_neg (by omega)]
   simp only [szN, e, el, eh, Lib.accLo, Lib.accHi, cont]
   simp (decide := true) only [if_true, if_false, true_and, false_and, Nat.reduceDiv, Nat.reduceMod]
   (repeat' split) <;> omega
  ·subst h
   simp only [szN, show need ((237 : Nat) : Int) = 3 by decide, show lo2 ((237 : Nat) : Int) = 128 by decide, show hi2 ((237 : Nat) : Int) = 159 by decide, show Lib.firstT 237 = 35 by decide, Lib.accLo, Lib.accHi, cont]
   simp (decide := true) only [if_true, if_false, true_and, false_and, Nat.reduceDiv, Nat.reduceMod]
   (repeat' split) <;> omega
  ·subst h
   simp only [szN, show need ((240 : Nat) : Int) = 4 by decide, show lo2 ((240 : Nat) : Int) = 144 by decide, show hi2 ((240 : Nat) : Int) = 191 by decide, show Lib.firstT 240 = 52 by decide, Lib.accLo, Lib.accHi, cont]
   simp (decide := true) only [if_true, if_false, true_and, false_and, Nat.reduceDiv, Nat.reduceMod]
   (repeat' split) <;> omega
  ·rw [Lib.firstT_F1 h]
   have e : need (b0 : Int) = 4 := by unfold need; rw [if_neg (by omega), if_neg (by omega), if_pos (by omega)]
   have el : lo2 (b0 : Int) = 128 := by unfold lo2; rw [if_neg (by omega), if_neg (by omega)]
   have eh : hi2 (b0 : Int) = 191 := by unfold hi2; rw [if_neg (by omega), if_neg (by omega)]
   simp only [szN, e, el, eh, Lib.accLo, Lib.accHi, cont]
   simp (decide := true) only [if_true, if_false, true_and, false_and, Nat.reduceDiv, Nat.reduceMod]
   (repeat' split) <;> omega
  ·subst h
   simp only [szN, show need ((244 : Nat) : Int) = 4 by decide, show lo2 ((244 : Nat) : Int) = 128 by decide, show hi2 ((244 : Nat) : Int) = 143 by decide, show Lib.firstT 244 = 68 by decide, Lib.accLo, Lib.accHi, cont]
   simp (decide := true) only [if_true, if_false, true_and, false_and, Nat.reduceDiv, Nat.reduceMod]
   (repeat' split) <;> omega
 by_cases ha : b0 < 128
 ·have hx : Lib.firstT b0 = 240 := by unfold Lib.firstT; rw [if_pos ha]
  rw [Lib.ascii_eq n b0 b1 b2 b3 hx, one b0 (by unfold need; rw [if_neg (by omega), if_neg (by omega), if_neg (by omega)])]
 ·by_cases hb : b0 < 194 ∨ 244 < b0
  ·have hx : Lib.firstT b0 = 241 := by unfold Lib.firstT; (repeat' split) <;> omega
   rw [Lib.bad_eq n b0 b1 b2 b3 h0 hx, one b0 (by unfold need; rw [if_neg (by omega), if_neg (by omega), if_neg (by omega)])]
  ·have hx : Lib.firstT b0 < 240 := by
    clear slow one
    have e1 : 194 ≤ b0 := by omega
    have e2 : b0 ≤ 244 := by omega
    clear hb
    unfold Lib.firstT
    (repeat' split) <;> omega
   exact slow hx
theorem decL_sz (l : List Int) (hb : Bytes l) : (decL l).2 = gsz l := by
 have nat : ∀ x ∈ l, ∃ n : Nat, n < 256 ∧ x = (n : Int) := fun x hx => ⟨x.toNat, by have := hb x hx; omega, by have := hb x hx; omega⟩
 match l, nat with
 | [], _ => rfl
 | [b], nat =>
  obtain ⟨b0, h0, rfl⟩ := nat b (by simp)
  simp only [decL, List.length_cons, List.length_nil, List.getD_cons_zero, List.getD_cons_succ, List.getD_nil, Int.toNat_natCast]
  rw [if_neg (by omega), decN_sz _ _ _ _ _ (by omega) h0 (by simp) (by simp) (by simp)]
  simp [szN, gsz]
 | [b, c], nat =>
  obtain ⟨b0, h0, rfl⟩ := nat b (by simp)
  obtain ⟨b1, h1, rfl⟩ := nat c (by simp)
  simp only [decL, List.length_cons, List.length_nil, List.getD_cons_zero, List.getD_cons_succ, List.getD_nil, Int.toNat_natCast]
  rw [if_neg (by omega), decN_sz _ _ _ _ _ (by omega) h0 h1 (by simp) (by simp)]
  simp [szN, gsz]
 | [b, c, d], nat =>
  obtain ⟨b0, h0, rfl⟩ := nat b (by simp)
  obtain ⟨b1, h1, rfl⟩ := nat c (by simp)
  obtain ⟨b2, h2, rfl⟩ := nat d (by simp)
  simp only [decL, List.length_cons, List.length_nil, List.getD_cons_zero, List.getD_cons_succ, List.getD_nil, Int.toNat_natCast]
  rw [if_neg (by omega), decN_sz _ _ _ _ _ (by omega) h0 h1 h2 (by simp)]
  simp [szN, gsz]
 | b :: c :: d :: e :: t, nat =>
  obtain ⟨b0, h0, rfl⟩ := nat b (by simp)
  obtain ⟨b1, h1, rfl⟩ := nat c (by simp)
  obtain ⟨b2, h2, rfl⟩ := nat d (by simp)
  obtain ⟨b3, h3, rfl⟩ := nat e (by simp)
  simp only [decL, List.length_cons, List.length_nil, List.getD_cons_zero, List.getD_cons_succ, List.getD_nil, Int.toNat_natCast]
  rw [if_neg (by omega), decN_sz _ _ _ _ _ (by omega) h0 h1 h2 h3]
  simp [szN, gsz]
theorem bytes_take {l : List Int} (h : Bytes l) (n : Nat) : Bytes (l.take n) := fun x hx => h x (List.mem_of_mem_take hx)
theorem bytes_drop {l : List Int} (h : Bytes l) (n : Nat) : Bytes (l.drop n) := fun x hx => h x (List.mem_of_mem_drop hx)
theorem slow_f (l : List Int) (hb : Bytes l) : utf8_decodeRuneSlow.f l = some (((decL l).1 : Int), ((decL l).2 : Int)) := by
 unfold utf8_decodeRuneSlow.f
 rw [if_pos]
 rw [List.all_eq_true]
 intro x hx
 have := hb x (List.mem_of_mem_take hx)
 simp only [byteB, Bool.and_eq_true, decide_eq_true_eq]
 omega
def runeOf (l : List Int) : Int := if 0 < l.length ∧ l.getD 0 0 < 128 then wrap32 (l.getD 0 0) else ((decL l).1 : Int)
theorem utf8_DecodeRune_spec (l : List Int) (hb : Bytes l) (k : Nat) (hk : 0 < k) : utf8_DecodeRune.f k l = some (runeOf l, (gsz l : Int)) := by
 obtain ⟨k, rfl⟩ := ex_succ' hk
 unfold utf8_DecodeRune.f
 simp only [utf8_DecodeRune.l0]
 by_cases h : 0 < l.length
 ·rw [if_pos (by omega), if_pos (by omega), if_pos (by omega)]
  have e : rd l 0 = l.getD 0 0 := by simp [rd]
  have e2 : l.getD 0 0 = l[0] := by simp [h]
  by_cases h1 : rd l 0 < 128
  ·rw [if_pos h1]
   have : gsz l = 1 := by
    rcases Nat.lt_or_ge (gsz l) 2 with h2 | h2
    ·have := gsz_pos (q := l) (by intro e; rw [e] at h; simp at h); omega
    ·exfalso
     have hn : need l[0] = 1 := by
      unfold need; rw [e, e2] at h1
      rw [if_neg (by omega), if_neg (by omega), if_neg (by omega)]
     match l, h with
     | [_], _ => simp [gsz] at h2
     | [b, c], _ => simp at hn; simp [gsz, hn] at h2
     | [b, c, d], _ => simp at hn; simp [gsz, hn] at h2
     | b :: c :: d :: e :: t, _ => simp at hn; simp [gsz, hn] at h2
   rw [this, e, runeOf, if_pos ⟨h, by rw [← e]; exact h1⟩]; rfl
  ·rw [if_neg h1, slow_f l hb, Option.bind_some, decL_sz l hb, runeOf, if_neg (fun c => h1 (by rw [e]; exact c.2))]
 ·rw [if_neg (by omega), slow_f l hb, Option.bind_some, decL_sz l hb, runeOf, if_neg (fun c => h c.1)]
theorem glyph_Next_spec (p : List Int) (hb : Bytes p) (i : Nat) (hi : i < p.length) (k : Nat) (hk : 0 < k) : glyph_Next.f k p (i : Int) = some (gsz (p.drop i) : Int) := by
 unfold glyph_Next.f
 rw [if_neg (by omega), if_neg (by omega), if_pos (by omega), if_pos (by omega), Int.toNat_natCast, utf8_DecodeRune_spec _ (bytes_drop hb i) k hk, Option.bind_some]
theorem glyph_Floor_l0 (p : List Int) (hb : Bytes p) (hp : p.length ≤ 1000000000) (a : Nat) (ha : a ≤ p.length) (m : Nat) : ∀ (k j : Nat), j + m = min a 3 → m < k → 0 < k - m - 1 → (∀ i, 1 ≤ i → i ≤ j → ¬ a < a - i + gsz (p.drop (a - i))) →
  glyph_Floor.l0 k p (a : Int) ((min a 3 : Nat) : Int) (j : Int) = some (flo p a : Int) := by
 induction m with
 | zero =>
  intro k j hj hk _ hc
  obtain ⟨k, rfl⟩ := ex_succ' hk
  simp only [glyph_Floor.l0]
  rw [if_neg (by omega)]
  unfold flo
  rw [if_neg (fun e => hc 1 (by omega) (by omega) e.2), if_neg (fun e => hc 2 (by omega) (by omega) e.2), if_neg (fun e => hc 3 (by omega) (by omega) e.2)]
 | succ m ih =>
  intro k j hj hk hk2 hc
  obtain ⟨k, rfl⟩ := ex_succ' hk
  simp only [glyph_Floor.l0]
  have hlt : a - (j + 1) < p.length := by omega
  have h4 := gd_four p (a - (j + 1))
  have hnx := glyph_Next_spec p hb (a - (j + 1)) hlt k (by omega)
  have hnext := ih k (j + 1) (by omega) (by omega) (by omega)
  have c1 : (j : Int) < ((min a 3 : Nat) : Int) := by omega
  have w1 : wrap64 ((a : Int) - (j : Int)) = (a : Int) - (j : Int) := wid (by omega) (by omega)
  have w2 : wrap64 ((a : Int) - (j : Int) - 1) = ((a - (j + 1) : Nat) : Int) := by
   clear w1
   rw [show (a : Int) - (j : Int) - 1 = ((a - (j + 1) : Nat) : Int) by omega]; exact wid (by omega) (by omega)
  have w3 : wrap64 (((a - (j + 1) : Nat) : Int) + (gsz (p.drop (a - (j + 1))) : Int)) = ((a - (j + 1) + gsz (p.drop (a - (j + 1))) : Nat) : Int) := by
   clear w1 w2
   rw [← Int.natCast_add]; exact wid (by omega) (by omega)
  have w4 : wrap64 ((j : Int) + 1) = ((j + 1 : Nat) : Int) := by clear w1 w2 w3; exact wnat (by omega)
  rw [if_pos c1, w1, w2, hnx, Option.bind_some, w3, w4]
  clear w1 w2 w3 w4
  by_cases h : a < a - (j + 1) + gsz (p.drop (a - (j + 1)))
  ·rw [if_pos (by omega)]
   have hj3 : j + 1 = 1 ∨ j + 1 = 2 ∨ j + 1 = 3 := by omega
   have n1 : 1 ≤ j → ¬ (1 ≤ a ∧ a < a - 1 + gsz (p.drop (a - 1))) := fun e1 e => hc 1 (Nat.le_refl _) e1 e.2
   have n2 : 2 ≤ j → ¬ (2 ≤ a ∧ a < a - 2 + gsz (p.drop (a - 2))) := fun e1 e => hc 2 (by omega) e1 e.2
   have hja : j + 1 ≤ a := by omega
   clear hc hnext hnx
   unfold flo
   rcases hj3 with e | e | e
   ·rw [e] at h hja ⊢
    rw [if_pos ⟨hja, h⟩]
   ·have := n1 (by omega)
    rw [e] at h hja ⊢
    rw [if_neg this, if_pos ⟨hja, h⟩]
   ·have h1 := n1 (by omega)
    have h2 := n2 (by omega)
    rw [e] at h hja ⊢
    rw [if_neg h1, if_neg h2, if_pos ⟨hja, h⟩]
  ·rw [if_neg (by omega)]
   exact hnext (fun i h1 h2 => by
    rcases Nat.lt_or_ge i (j + 1) with h3 | h3
    ·exact hc i h1 (by omega)
    ·have : i = j + 1 := by omega
     subst this; exact h)
theorem glyph_Floor_spec (p : List Int) (hb : Bytes p) (hp : p.length ≤ 1000000000) (a : Int) (k : Nat) (hk : 5 < k) : glyph_Floor.f k p a = some (flo p (clip p a) : Int) := by
 have e1 : mn (mx a 0) (p.length : Int) = (clip p a : Int) := by unfold mn mx clip; (repeat' split) <;> omega
 have e2 : mn (clip p a : Int) 3 = ((min (clip p a) 3 : Nat) : Int) := by unfold mn; split <;> omega
 unfold glyph_Floor.f
 rw [e1, e2]
 exact glyph_Floor_l0 p hb hp (clip p a) (by unfold clip; omega) (min (clip p a) 3) k 0 (by omega) (by omega) (by omega) (fun i h1 h2 => by omega)
theorem clip_nat {p : List Int} {a : Nat} (h : a ≤ p.length) : clip p (a : Int) = a := by unfold clip; omega
def stz (o : Option Nat) : Int × Int := match o with
 | some b => ((b : Int), 0)
 | none => (0, 2)
def goz (l w : Bool) (o : Option Nat) : Int × Bool × Bool × Int := match o with
 | some b => ((b : Int), l, w, 0)
 | none => (0, false, false, 2)
theorem motion_Go_l0 (p : List Int) (tab key s n : Int) (l w : Bool) (f : Nat → Option Nat) (Q : Nat → Prop) (big : Nat) (hs : ∀ a k, Q a → big < k → motion_step.f k p (a : Int) key s n tab = some (stz (f a)) ∧ ∀ b, f a = some b → Q b) (t : Nat) (ht : t ≤ 9223372036854775807) (m : Nat) : ∀ (k i a : Nat), i + m = t → Q a → big + m < k →
  motion_Go.l0 k p tab (t : Int) (i : Int) key s n (a : Int) l w = some (goz l w (itr f m a)) := by
 induction m with
 | zero =>
  intro k i a hi ha hk
  obtain ⟨k, rfl⟩ := ex_succ (n := 0) (k := k) (by omega)
  rw [motion_Go.l0, if_neg (by omega)]
  rfl
 | succ m ih =>
  intro k i a hi ha hk
  obtain ⟨k, rfl⟩ := ex_succ (n := 0) (k := k) (by omega)
  obtain ⟨h1, h2⟩ := hs a k ha (by omega)
  rw [motion_Go.l0, if_pos (by omega), h1, Option.bind_some]
  rw [itr]
  cases e : f a with
  | none => rfl
  | some b =>
   have hw : wrap64 ((i : Int) + 1) = ((i + 1 : Nat) : Int) := by
    by_cases g : i + 1 ≤ 9223372036854775807
    ·rw [wid (by omega) (by omega)]; omega
    ·omega
   rw [Option.bind_some, hw]
   exact (if_pos rfl).trans (ih k (i + 1) b (by omega) (h2 b e) (by omega))
def tms (key n : Int) : Int := if key = 48 ∨ key = 94 ∨ key = 102 ∨ key = 116 ∨ key = 106 ∨ key = 107 ∨ key = 36 then 1 else max n 1
theorem motion_times_spec (key s n : Int) : motion_times.f key s n = some (tms key n) := by
 have e : mx n 1 = max n 1 := by unfold mx; split <;> omega
 unfold motion_times.f tms
 rw [e]
 by_cases h1 : key = 48
 ·rw [if_pos h1, if_pos (by omega)]
 rw [if_neg h1]
 by_cases h2 : key = 94
 ·rw [if_pos h2, if_pos (by omega)]
 rw [if_neg h2]
 by_cases h3 : key = 102
 ·rw [if_pos h3, if_pos (by omega)]
 rw [if_neg h3]
 by_cases h4 : key = 116
 ·rw [if_pos h4, if_pos (by omega)]
 rw [if_neg h4]
 by_cases h5 : key = 106
 ·rw [if_pos h5, if_pos (by omega)]
 rw [if_neg h5]
 by_cases h6 : key = 107
 ·rw [if_pos h6, if_pos (by omega)]
 rw [if_neg h6]
 by_cases h7 : key = 36
 ·rw [if_pos h7, if_pos (by omega)]
 rw [if_neg h7, if_neg (by omega)]
theorem motion_Go_key (p : List Int) (hb : Bytes p) (hp : p.length ≤ 10000) (a tab key s n : Int) (h1 : key ≠ 71) (h2 : key ≠ 103) (k : Nat) (hk : 5 < k) :
  motion_Go.f (k + 3) p a key s n tab = motion_Go.l0 k p tab (tms key n) 0 key s n (flo p (clip p a) : Int) (decide (key = 106 ∨ key = 107)) (decide (key = 101 ∨ key = 102 ∨ key = 116)) := by
 have e103 : (key == 103) = false := by simpa using h2
 have j2 : ∀ l w, motion_Go.j2 (k + 1) p tab key s n (flo p (clip p a) : Int) l w = motion_Go.l0 k p tab (tms key n) 0 key s n (flo p (clip p a) : Int) l w := by
  intro l w
  rw [motion_Go.j2, motion_times_spec, Option.bind_some]
 unfold motion_Go.f
 rw [glyph_Floor_spec p hb (by omega) a (k + 3) (by omega), Option.bind_some, if_neg h1, e103, motion_Go.j0, if_neg (by simp)]
 by_cases g1 : key = 106
 ·subst g1
  rw [if_pos rfl, motion_Go.j1, if_pos (by decide), j2]
  rfl
 ·rw [if_neg g1]
  by_cases g2 : key = 107
  ·subst g2
   rw [motion_Go.j1, if_pos (by decide), j2]
   rfl
  ·have e2 : (key == 107) = false := by simpa using g2
   have d1 : decide (key = 106 ∨ key = 107) = false := decide_eq_false (by omega)
   rw [e2, motion_Go.j1, if_neg (by simp), d1]
   by_cases g3 : key = 101
   ·rw [if_pos g3, j2, decide_eq_true (by omega)]
   ·rw [if_neg g3]
    by_cases g4 : key = 102
    ·rw [if_pos g4, j2, decide_eq_true (by omega)]
    ·rw [if_neg g4]
     by_cases g5 : key = 116
     ·rw [if_pos g5, j2, decide_eq_true (by omega)]
     ·rw [if_neg g5, j2, decide_eq_false (by omega)]
theorem motion_Go_itr (p : List Int) (hb : Bytes p) (hp : p.length ≤ 10000) (a tab key s n : Int) (h1 : key ≠ 71) (h2 : key ≠ 103) (f : Nat → Option Nat) (Q : Nat → Prop) (big : Nat) (hs : ∀ a k, Q a → big < k → motion_step.f k p (a : Int) key s n tab = some (stz (f a)) ∧ ∀ b, f a = some b → Q b) (hQ : Q (flo p (clip p a))) (t : Nat) (ht : tms key n = (t : Int)) (ht2 : t ≤ 9223372036854775807) (k : Nat) (hk : big + t + 9 < k) :
  motion_Go.f k p a key s n tab = some (goz (decide (key = 106 ∨ key = 107)) (decide (key = 101 ∨ key = 102 ∨ key = 116)) (itr f t (flo p (clip p a)))) := by
 obtain ⟨k, rfl⟩ : ∃ j, k = j + 3 := ⟨k - 3, by omega⟩
 rw [motion_Go_key p hb hp a tab key s n h1 h2 k (by omega), ht]
 exact motion_Go_l0 p tab key s n _ _ f Q big hs t ht2 t k 0 _ (by omega) hQ (by omega)
theorem glyph_Blank_spec (c : Int) : glyph_Blank.f c = some (decide (c = 32 ∨ c = 9)) := by
 unfold glyph_Blank.f
 split
 ·simp [*]
 ·rw [Option.some_inj, Bool.eq_iff_iff]; simp; omega
theorem words_Class_spec (c : Int) : words_Class.f c = some (cls c) := by
 unfold words_Class.f cls
 rw [glyph_Blank_spec, Option.bind_some]
 simp only [decide_eq_true_eq]
 repeat' split
 all_goals first | rfl | (exfalso; omega)
theorem words_empty_spec (c : Int) : words_empty.f c = some (decide (c ≤ 1)) := rfl
set_option maxRecDepth 100000 in
theorem start_byte : ∀ x : Fin 256, (Go.bits .and .u8 ((x.val : Nat) : Int) 192 != 128) = decide (¬ (128 ≤ ((x.val : Nat) : Int) ∧ ((x.val : Nat) : Int) ≤ 191)) := by decide
theorem utf8_RuneStart_spec (b : Int) (h0 : 0 ≤ b) (h1 : b ≤ 255) : utf8_RuneStart.f b = some (decide (¬ cont b)) := by
 obtain ⟨n, rfl⟩ : ∃ n : Nat, b = (n : Int) := ⟨b.toNat, by omega⟩
 unfold utf8_RuneStart.f cont
 exact congrArg some (start_byte ⟨n, by omega⟩)
theorem lsz_stop (l : List Int) (j : Nat) (h2 : 2 ≤ j) (h4 : j ≤ 4) (hj : j ≤ l.length) (hc : ∀ i, 2 ≤ i → i < j → ∃ h : l.length - i < l.length, cont (l[l.length - i])) (hn : ∀ h : l.length - j < l.length, ¬ cont (l[l.length - j])) :
  lsz l = if gsz (l.drop (l.length - j)) = j then j else 1 := by
 have hne : l ≠ [] := by rintro rfl; simp at hj; omega
 have small : ∀ m, 2 ≤ m → m < j → ¬ (m ≤ l.length ∧ gsz (l.drop (l.length - m)) = m) := by
  intro m h1 h3 h5
  obtain ⟨hl, hcm⟩ := hc m h1 h3
  rw [gd_cont hl hcm] at h5; omega
 have big : ∀ m, j < m → m ≤ 4 → ¬ (m ≤ l.length ∧ gsz (l.drop (l.length - m)) = m) := by
  intro m h1 h3 h5
  obtain ⟨hl, hcm⟩ := cont_in (p := l) (b := l.length - m) (i := l.length - j) (by omega) (by omega)
  exact hn hl hcm
 unfold lsz
 rw [if_neg hne]
 have : j = 2 ∨ j = 3 ∨ j = 4 := by omega
 rcases this with rfl | rfl | rfl
 ·rw [if_neg (big 3 (by omega) (by omega)), if_neg (big 4 (by omega) (by omega))]
  by_cases h : gsz (l.drop (l.length - 2)) = 2
  ·rw [if_pos ⟨hj, h⟩, if_pos h]
  ·rw [if_neg (fun e => h e.2), if_neg h]
 ·rw [if_neg (small 2 (by omega) (by omega)), if_neg (big 4 (by omega) (by omega))]
  by_cases h : gsz (l.drop (l.length - 3)) = 3
  ·rw [if_pos ⟨hj, h⟩, if_pos h]
  ·rw [if_neg (fun e => h e.2), if_neg h]
 ·rw [if_neg (small 2 (by omega) (by omega)), if_neg (small 3 (by omega) (by omega))]
  by_cases h : gsz (l.drop (l.length - 4)) = 4
  ·rw [if_pos ⟨hj, h⟩, if_pos h]
  ·rw [if_neg (fun e => h e.2), if_neg h]
theorem lsz_none (l : List Int) (hne : l ≠ []) (hc : ∀ i, 2 ≤ i → i ≤ 4 → i ≤ l.length → ∃ h : l.length - i < l.length, cont (l[l.length - i])) : lsz l = 1 := by
 have small : ∀ m, 2 ≤ m → m ≤ 4 → ¬ (m ≤ l.length ∧ gsz (l.drop (l.length - m)) = m) := by
  intro m h1 h3 h5
  obtain ⟨hl, hcm⟩ := hc m h1 h3 h5.1
  rw [gd_cont hl hcm] at h5; omega
 unfold lsz
 rw [if_neg hne, if_neg (small 2 (by omega) (by omega)), if_neg (small 3 (by omega) (by omega)), if_neg (small 4 (by omega) (by omega))]
theorem lsz_low (l : List Int) (hl : 0 < l.length) (h : ¬ cont (l[l.length - 1])) : lsz l = 1 := by
 have hne : l ≠ [] := by rintro rfl; simp at hl
 have small : ∀ m, 2 ≤ m → m ≤ 4 → ¬ (m ≤ l.length ∧ gsz (l.drop (l.length - m)) = m) := by
  intro m h1 h3 h5
  obtain ⟨hl, hcm⟩ := cont_in (p := l) (b := l.length - m) (i := l.length - 1) (by omega) (by omega)
  exact h hcm
 unfold lsz
 rw [if_neg hne, if_neg (small 2 (by omega) (by omega)), if_neg (small 3 (by omega) (by omega)), if_neg (small 4 (by omega) (by omega))]
theorem last_j1 (l : List Int) (hb : Bytes l) (s : Nat) (hs : s ≤ l.length) (hl : l.length ≤ 1000000000) (k : Nat) (hk : 1 < k) :
  ∃ r, utf8_DecodeLastRune.j1 k l (l.length : Int) (s : Int) = some (r, if s + gsz (l.drop s) = l.length then (gsz (l.drop s) : Int) else 1) := by
 obtain ⟨k, rfl⟩ := ex_succ' (n := 0) (k := k) (by omega)
 have h4 := (gsz_le (l.drop s)).2
 simp only [utf8_DecodeLastRune.j1]
 rw [if_neg (by omega), if_pos (by omega), if_pos (by omega), if_pos (by omega), Int.toNat_natCast, Int.toNat_natCast, List.take_of_length_le (Nat.le_refl _), utf8_DecodeRune_spec _ (bytes_drop hb s) k (by omega), Option.bind_some]
 have hw : wrap64 ((s : Int) + (gsz (l.drop s) : Int)) = (s : Int) + (gsz (l.drop s) : Int) := wid (by omega) (by omega)
 simp only [hw]
 clear hw
 by_cases h : s + gsz (l.drop s) = l.length
 ·rw [if_pos (by omega), if_pos h]; exact ⟨_, rfl⟩
 ·rw [if_neg (by omega), if_neg h]; exact ⟨_, rfl⟩
theorem last_l0 (l : List Int) (hb : Bytes l) (hl : l.length ≤ 1000000000) (hl0 : 0 < l.length) (m : Nat) : ∀ (j k : Nat), j + m = 5 → 2 ≤ j → j ≤ l.length + 1 → m + 3 < k →
  (∀ i, 2 ≤ i → i < j → ∃ h : l.length - i < l.length, cont (l[l.length - i])) →
  ∃ r, utf8_DecodeLastRune.l0 k l (l.length : Int) ((l.length : Int) - (j : Int)) (mx ((l.length : Int) - 4) 0) = some (r, (lsz l : Int)) := by
 have hne : l ≠ [] := by rintro rfl; simp at hl0
 have out : ∀ (j k : Nat), 2 ≤ j → 2 < k → (j = 5 ∨ j = l.length + 1) → j ≤ l.length + 1 → (∀ i, 2 ≤ i → i < j → ∃ h : l.length - i < l.length, cont (l[l.length - i])) → ∃ r, utf8_DecodeLastRune.j1 k l (l.length : Int) ((l.length : Int) - (j : Int)) = some (r, (lsz l : Int)) := by
  intro j k h2 hk hj hjl hc
  have h1 : lsz l = 1 := lsz_none l hne (fun i hi h4 hil => hc i hi (by omega))
  rw [h1]
  rcases Nat.lt_or_ge l.length j with hlt | hge
  ·have hj' : j = l.length + 1 := by omega
   obtain ⟨k, rfl⟩ := ex_succ' (n := 0) (k := k) (by omega)
   simp only [utf8_DecodeLastRune.j1]
   rw [if_pos (by omega), if_pos (by omega), if_pos (by omega), Int.toNat_natCast, List.take_of_length_le (Nat.le_refl _), List.drop_zero, utf8_DecodeRune_spec _ hb k (by omega), Option.bind_some]
   have h4 := gsz_le l
   have hw : wrap64 (gsz l : Int) = (gsz l : Int) := wid (by omega) (by omega)
   simp only [hw]
   clear hw
   by_cases h : (gsz l : Int) = (l.length : Int)
   ·have hg : gsz l = 1 := by
     by_cases hn1 : l.length = 1
     ·omega
     ·obtain ⟨hh, hcm⟩ := hc l.length (by omega) (by omega)
      exact gsz_head_cont hl0 (by simpa using hcm)
    rw [if_pos h, hg]; exact ⟨_, rfl⟩
   ·rw [if_neg h]; exact ⟨_, rfl⟩
  ·have hj5 : j = 5 := by omega
   subst hj5
   obtain ⟨r, hr⟩ := last_j1 l hb (l.length - 5) (by omega) hl k (by omega)
   have h4 := (gsz_le (l.drop (l.length - 5))).2
   rw [if_neg (by omega)] at hr
   rw [show ((l.length - 5 : Nat) : Int) = (l.length : Int) - ((5 : Nat) : Int) by omega] at hr
   exact ⟨r, hr⟩
 induction m with
 | zero =>
  intro j k hj h2 hjl hk hc
  obtain ⟨k, rfl⟩ := ex_succ' hk
  simp only [utf8_DecodeLastRune.l0]
  rw [if_neg (by unfold mx; split <;> omega)]
  exact out j k h2 (by omega) (by omega) hjl hc
 | succ m ih =>
  intro j k hj h2 hjl hk hc
  obtain ⟨k, rfl⟩ := ex_succ' hk
  simp only [utf8_DecodeLastRune.l0]
  by_cases hlt : l.length < j
  ·rw [if_neg (by unfold mx; split <;> omega)]
   exact out j k h2 (by omega) (by omega) hjl hc
  ·have hi : l.length - j < l.length := by omega
   have hbb := hb _ (List.getElem_mem hi)
   have e : (l.length : Int) - (j : Int) = ((l.length - j : Nat) : Int) := by omega
   rw [if_pos (by unfold mx; split <;> omega), if_pos (by omega), if_pos (by omega), e, rd_nat l _ hi, utf8_RuneStart_spec _ hbb.1 hbb.2, Option.bind_some]
   by_cases hcc : cont (l[l.length - j])
   ·rw [if_neg (by simpa using hcc)]
    have hw : wrap64 (((l.length - j : Nat) : Int) - 1) = (l.length : Int) - ((j + 1 : Nat) : Int) := by
     rw [show ((l.length - j : Nat) : Int) - 1 = (l.length : Int) - ((j + 1 : Nat) : Int) by omega]
     exact wid (by omega) (by omega)
    rw [hw]
    clear hw
    exact ih (j + 1) k (by omega) (by omega) (by omega) (by omega) (fun i h1 h3 => by
     rcases Nat.lt_or_ge i j with h | h
     ·exact hc i h1 h
     ·have : i = j := by omega
      subst this
      exact ⟨hi, hcc⟩)
   ·rw [if_pos (by simpa using hcc)]
    obtain ⟨r, hr⟩ := last_j1 l hb (l.length - j) (by omega) hl k (by omega)
    refine ⟨r, ?_⟩
    rw [hr, lsz_stop l j h2 (by omega) (by omega) hc (fun _ => hcc)]
    by_cases hg : gsz (l.drop (l.length - j)) = j
    ·rw [if_pos (by omega), if_pos hg, hg]
    ·rw [if_neg (by omega), if_neg hg]; rfl
theorem utf8_DecodeLastRune_spec (l : List Int) (hb : Bytes l) (hl : l.length ≤ 1000000000) (k : Nat) (hk : 6 < k) : ∃ r, utf8_DecodeLastRune.f k l = some (r, (lsz l : Int)) := by
 unfold utf8_DecodeLastRune.f
 by_cases h : l.length = 0
 ·have : l = [] := List.eq_nil_of_length_eq_zero h
  subst this
  exact ⟨_, rfl⟩
 ·have hi : l.length - 1 < l.length := by omega
  have hbb := hb _ (List.getElem_mem hi)
  have w1 : wrap64 ((l.length : Int) - 1) = ((l.length - 1 : Nat) : Int) := by
   rw [show (l.length : Int) - 1 = ((l.length - 1 : Nat) : Int) by omega]; exact wid (by omega) (by omega)
  have w2 : wrap64 (((l.length - 1 : Nat) : Int) - 1) = (l.length : Int) - ((2 : Nat) : Int) := by
   clear w1
   rw [show ((l.length - 1 : Nat) : Int) - 1 = (l.length : Int) - ((2 : Nat) : Int) by omega]; exact wid (by omega) (by omega)
  have w3 : wrap64 ((l.length : Int) - 4) = (l.length : Int) - 4 := by clear w1 w2; exact wid (by omega) (by omega)
  have w4 : wrap32 (l[l.length - 1]) = l[l.length - 1] := by clear w1 w2 w3; unfold wrap32; omega
  rw [w1, w2, w3, rd_nat l _ hi, w4]
  clear w1 w2 w3 w4
  rw [if_neg (by omega), if_pos (by omega), if_pos (by omega)]
  by_cases h1 : l[l.length - 1] < 128
  ·rw [if_pos h1, lsz_low l (by omega) (fun c => by unfold cont at c; omega)]
   exact ⟨_, rfl⟩
  ·rw [if_neg h1]
   exact last_l0 l hb hl (by omega) 3 2 k (by omega) (by omega) (by omega) (by omega) (fun i h1 h2 => by omega)
theorem glyph_Prev_spec (p : List Int) (hb : Bytes p) (hp : p.length ≤ 1000000000) (i : Nat) (hi : i ≤ p.length) (k : Nat) (hk : 6 < k) : glyph_Prev.f k p (i : Int) = some (lsz (p.take i) : Int) := by
 unfold glyph_Prev.f
 by_cases h0 : i = 0
 ·subst h0; rfl
 ·rw [if_neg (by omega), if_neg (by omega), if_pos (by omega), if_pos (by omega), Int.toNat_natCast]
  obtain ⟨r, hr⟩ := utf8_DecodeLastRune_spec (p.take i) (bytes_take hb i) (by simp only [List.length_take]; omega) k hk
  rw [hr, Option.bind_some]
def mk (x : NN) : S39 := ⟨(x.1 : Int), (x.2 : Int)⟩
theorem rd_mk (l : List NN) (i : Nat) (h : i < l.length) : rd_T39 (l.map mk) (i : Int) = mk l[i] := by
 simp [rd_T39, h]
theorem ex_succ1 {k n : Nat} (h : n < k) : ∃ m, k = m + 1 := ⟨k - 1, by omega⟩
theorem need_cases (b : Int) : need b = 1 ∨ need b = 2 ∨ need b = 3 ∨ need b = 4 := by
 unfold need; (repeat' split) <;> omega
theorem gsz_eq (b : Int) (t : List Int) : gsz (b :: t) =
  if need b = 1 ∨ t.length + 1 < need b then 1 else if t.getD 0 0 < lo2 b ∨ hi2 b < t.getD 0 0 then 1
  else if 3 ≤ need b ∧ ¬ cont (t.getD 1 0) then 1 else if 4 ≤ need b ∧ ¬ cont (t.getD 2 0) then 1 else need b := by
 match t with
 | [] =>
  have : need b = 1 ∨ ([] : List Int).length + 1 < need b := by rcases need_cases b with h | h | h | h <;> simp [h]
  rw [if_pos this]; rfl
 | [c] =>
  simp only [gsz, List.length_cons, List.length_nil, List.getD_cons_zero, List.getD_cons_succ, List.getD_nil]
  rcases need_cases b with h | h | h | h <;> simp only [h] <;> simp (decide := true) only [true_and, false_and, if_false, if_true, or_self, or_true, true_or, false_or]
  (repeat' split) <;> omega
 | [c, d] =>
  simp only [gsz, List.length_cons, List.length_nil, List.getD_cons_zero, List.getD_cons_succ, List.getD_nil]
  rcases need_cases b with h | h | h | h <;> simp only [h] <;> simp (decide := true) only [true_and, false_and, if_false, if_true, or_self, or_true, true_or, false_or]
  ·(repeat' split) <;> omega
  ·unfold cont; (repeat' split) <;> omega
 | c :: d :: e :: t =>
  simp only [gsz, List.length_cons, List.length_nil, List.getD_cons_zero, List.getD_cons_succ, List.getD_nil]
  have e1 : ¬ (t.length + 1 + 1 + 1 + 1 < 2) := by omega
  have e2 : ¬ (t.length + 1 + 1 + 1 + 1 < 3) := by omega
  have e3 : ¬ (t.length + 1 + 1 + 1 + 1 < 4) := by omega
  rcases need_cases b with h | h | h | h <;> simp only [h, e1, e2, e3] <;> simp (decide := true) only [true_and, false_and, if_false, if_true, or_self, or_true, true_or, false_or]
  ·(repeat' split) <;> omega
  ·unfold cont; (repeat' split) <;> omega
  ·unfold cont; (repeat' split) <;> omega
theorem getD_drop' (p : List Int) (i j : Nat) (h : i + j < p.length) : (p.drop i).getD j 0 = p[i + j] := by
 simp [List.getD_eq_getElem?_getD, h]
theorem size_j3 (p : List Int) (x1 b sz : Int) (k : Nat) : platenref01_Size.j3 (k + 1) p x1 b sz 128 191 = platenref01_Size.j4 k p x1 sz (lo2 b) (hi2 b) := by
 rw [platenref01_Size.j3]
 unfold lo2 hi2
 by_cases h1 : b = 224
 ·subst h1; rfl
 ·by_cases h2 : b = 237
  ·subst h2; rfl
  ·by_cases h3 : b = 240
   ·subst h3; rfl
   ·by_cases h4 : b = 244
    ·subst h4; rfl
    ·simp only [h1, h2, h3, h4, if_false]
theorem size_j4 (p : List Int) (i : Nat) (h : i < p.length) (hp : p.length ≤ 1000000000) (k : Nat) : platenref01_Size.j4 (k + 6) p (i : Int) (need p[i] : Int) (lo2 p[i]) (hi2 p[i]) = some (gsz (p.drop i) : Int) := by
 have hg := gsz_eq p[i] (p.drop (i + 1))
 rw [← drop_at p i h] at hg
 simp only [List.length_drop] at hg
 have hw0 : wrap64 ((p.length : Int) - (i : Int)) = (p.length : Int) - (i : Int) := wid (by omega) (by omega)
 have hw1 : wrap64 ((i : Int) + 1) = ((i + 1 : Nat) : Int) := wnat (by clear hw0; omega)
 have hw2 : wrap64 ((i : Int) + 2) = ((i + 2 : Nat) : Int) := by clear hw0 hw1; rw [show (i : Int) + 2 = ((i + 2 : Nat) : Int) by omega]; exact wid (by omega) (by omega)
 have hw3 : wrap64 ((i : Int) + 3) = ((i + 3 : Nat) : Int) := by clear hw0 hw1 hw2; rw [show (i : Int) + 3 = ((i + 3 : Nat) : Int) by omega]; exact wid (by omega) (by omega)
 have w23 : wrap64 (2 + 1) = 3 := by decide +kernel
 have w34 : wrap64 (3 + 1) = 4 := by decide +kernel
 rw [platenref01_Size.j4]
 rw [hw0, hw1]
 clear hw0 hw1
 by_cases h1 : need p[i] = 1
 ·rw [h1, if_pos (by rfl)]
  rw [platenref01_Size.j5]
  rw [if_pos rfl, hg, if_pos (.inl h1)]; rfl
 ·have hn := need_cases p[i]
  rw [if_neg (by omega)]
  by_cases h2 : p.length - (i + 1) + 1 < need p[i]
  ·rw [if_pos (by omega)]
   rw [platenref01_Size.j5]
   rw [if_pos rfl, hg, if_pos (.inr h2)]; rfl
  ·have l1 : i + 1 < p.length := by clear hw2 hw3 w23 w34 hg; omega
   have l2 : 3 ≤ need p[i] → i + 2 < p.length := by clear hw2 hw3 w23 w34 hg; omega
   have l3 : 4 ≤ need p[i] → i + 3 < p.length := by clear hw2 hw3 w23 w34 hg; omega
   rw [if_neg (by omega), if_pos (by omega), if_pos (by omega), rd_nat p (i + 1) l1]
   rw [if_neg (by omega), getD_drop' p (i + 1) 0 (by omega)] at hg
   simp only [Nat.add_zero] at hg
   by_cases h3 : p[i + 1] < lo2 p[i]
   ·rw [if_pos h3]
    rw [platenref01_Size.j5]
    rw [if_pos rfl, hg, if_pos (.inl h3)]; rfl
   ·rw [if_neg h3]
    by_cases h4 : hi2 p[i] < p[i + 1]
    ·rw [decide_eq_true h4]
     rw [platenref01_Size.j5]
     rw [if_pos rfl, hg, if_pos (.inr h4)]; rfl
    ·rw [decide_eq_false h4]
     rw [if_neg (by omega)] at hg
     rw [platenref01_Size.j5]
     rw [if_neg (by simp)]
     rw [platenref01_Size.l0]
     rcases hn with hn | hn | hn | hn
     ·exact absurd hn h1
     ·rw [hn, if_neg (by decide), hg, hn]; rfl
     ·have l2 := l2 (by rw [hn]; omega)
      rw [hn, if_pos (by decide), hw2, if_pos (by omega), if_pos (by omega), rd_nat p (i + 2) l2, w23]
      rw [hn, getD_drop' p (i + 1) 1 (by omega)] at hg
      simp only [show i + 1 + 1 = i + 2 by omega] at hg
      clear hw2 hw3
      by_cases c1 : p[i + 2] < 128
      ·rw [if_pos c1, hg, if_pos ⟨by omega, fun c => by unfold cont at c; omega⟩]; rfl
      ·rw [if_neg c1]
       by_cases c2 : p[i + 2] > 191
       ·rw [if_pos c2, hg, if_pos ⟨by omega, fun c => by unfold cont at c; omega⟩]; rfl
       ·rw [if_neg c2]
        rw [platenref01_Size.l0]
        rw [if_neg (by decide), hg, if_neg (fun e => e.2 (by unfold cont; omega)), if_neg (by omega)]
     ·have l2 := l2 (by rw [hn]; omega)
      have l3 := l3 (by rw [hn]; omega)
      rw [hn, if_pos (by decide), hw2, if_pos (by omega), if_pos (by omega), rd_nat p (i + 2) l2, w23]
      rw [hn, getD_drop' p (i + 1) 1 (by omega), getD_drop' p (i + 1) 2 (by omega)] at hg
      simp only [show i + 1 + 1 = i + 2 by omega, show i + 1 + 2 = i + 3 by omega] at hg
      clear hw2
      by_cases c1 : p[i + 2] < 128
      ·rw [if_pos c1, hg, if_pos ⟨by omega, fun c => by unfold cont at c; omega⟩]; rfl
      ·rw [if_neg c1]
       by_cases c2 : p[i + 2] > 191
       ·rw [if_pos c2, hg, if_pos ⟨by omega, fun c => by unfold cont at c; omega⟩]; rfl
       ·rw [if_neg c2]
        rw [platenref01_Size.l0]
        rw [if_pos (by decide), hw3, if_pos (by omega), if_pos (by omega), rd_nat p (i + 3) l3, w34]
        rw [if_neg (fun e => e.2 (by unfold cont; omega))] at hg
        clear hw3
        by_cases c3 : p[i + 3] < 128
        ·rw [if_pos c3, hg, if_pos ⟨by omega, fun c => by unfold cont at c; omega⟩]; rfl
        ·rw [if_neg c3]
         by_cases c4 : p[i + 3] > 191
         ·rw [if_pos c4, hg, if_pos ⟨by omega, fun c => by unfold cont at c; omega⟩]; rfl
         ·rw [if_neg c4]
          rw [platenref01_Size.l0]
          rw [if_neg (by decide), hg, if_neg (fun e => e.2 (by unfold cont; omega))]
theorem platenref01_Size_spec (p : List Int) (i : Nat) (h : i < p.length) (hp : p.length ≤ 1000000000) (k : Nat) (hk : 12 < k) : platenref01_Size.f k p (i : Int) = some (gsz (p.drop i) : Int) := by
 obtain ⟨k, rfl⟩ : ∃ k', k = k' + 10 := ⟨k - 10, by omega⟩
 have h4 := size_j4 p i h hp
 unfold platenref01_Size.f
 rw [if_neg (by omega), decide_eq_false (by omega)]
 rw [platenref01_Size.j0]
 rw [if_neg (by simp), if_pos (by omega), if_pos (by omega), rd_nat p i h]
 generalize p[i] = b at *
 by_cases g1 : b ≥ 194 ∧ b ≤ 223
 ·have hn : need b = 2 := by unfold need; rw [if_pos (by omega)]
  rw [if_pos g1.1, decide_eq_true g1.2]
  rw [platenref01_Size.j1]
  rw [if_pos rfl, size_j3]
  rw [hn] at h4
  exact h4 (k + 1)
 ·have hj1 : (if b ≥ 194 then platenref01_Size.j1 (k + 9) p (i : Int) b 1 128 191 (decide (b ≤ 223)) else platenref01_Size.j1 (k + 9) p (i : Int) b 1 128 191 false) = platenref01_Size.j1 (k + 9) p (i : Int) b 1 128 191 false := by
   by_cases g : b ≥ 194
   ·rw [if_pos g, decide_eq_false (by omega)]
   ·rw [if_neg g]
  rw [hj1]
  rw [platenref01_Size.j1]
  rw [if_neg (by simp)]
  by_cases g2 : b ≥ 224 ∧ b ≤ 239
  ·have hn : need b = 3 := by unfold need; rw [if_neg (by omega), if_pos (by omega)]
   rw [if_pos g2.1, decide_eq_true g2.2]
   rw [platenref01_Size.j2]
   rw [if_pos rfl, size_j3]
   rw [hn] at h4
   exact h4 k
  ·have hj2 : (if b ≥ 224 then platenref01_Size.j2 (k + 8) p (i : Int) b 1 128 191 (decide (b ≤ 239)) else platenref01_Size.j2 (k + 8) p (i : Int) b 1 128 191 false) = platenref01_Size.j2 (k + 8) p (i : Int) b 1 128 191 false := by
    by_cases g : b ≥ 224
    ·rw [if_pos g, decide_eq_false (by omega)]
    ·rw [if_neg g]
   rw [hj2]
   rw [platenref01_Size.j2]
   rw [if_neg (by simp)]
   by_cases g3 : b ≥ 240 ∧ b ≤ 244
   ·have hn : need b = 4 := by unfold need; rw [if_neg (by omega), if_neg (by omega), if_pos (by omega)]
    rw [if_pos g3.1, if_pos g3.2, size_j3]
    rw [hn] at h4
    exact h4 k
   ·have hn : need b = 1 := by unfold need; rw [if_neg (by omega), if_neg (by omega), if_neg (by omega)]
    rw [hn] at h4
    by_cases g : b ≥ 240
    ·rw [if_pos g, if_neg (by omega), size_j3]; exact h4 k
    ·rw [if_neg g, size_j3]; exact h4 k
theorem last_size (p : List Int) (hp : p.length ≤ 1000000000) (i n : Nat) (h0 : 0 < i) (hi : i ≤ p.length) (h1 : 1 ≤ n) (hn : n ≤ i) (k : Nat) (hk : 12 < k) :
  platenref01_Size.f k (p.take i) (wrap64 ((i : Int) - (n : Int))) = some (gsz ((p.take i).drop (i - n)) : Int) := by
 have hw : wrap64 ((i : Int) - (n : Int)) = ((i - n : Nat) : Int) := by
  rw [show (i : Int) - (n : Int) = ((i - n : Nat) : Int) by omega]; exact wid (by omega) (by omega)
 rw [hw]
 clear hw
 exact platenref01_Size_spec _ _ (by simp only [List.length_take]; omega) (by simp only [List.length_take]; omega) k hk
theorem last_step (p : List Int) (hp : p.length ≤ 1000000000) (i n : Nat) (h0 : 0 < i) (hi : i ≤ p.length) (h2 : 2 ≤ n) (h4 : n ≤ 4) (k : Nat) (hk : 12 < k) :
  platenref01_Last.l0 (k + 2) p (i : Int) (n : Int) = if n ≤ i ∧ gsz ((p.take i).drop (i - n)) = n then some (n : Int) else if n ≤ i then platenref01_Last.l0 k p (i : Int) ((n + 1 : Nat) : Int) else some 1 := by
 rw [platenref01_Last.l0, if_pos (by omega)]
 by_cases hn : n ≤ i
 ·rw [decide_eq_true (by omega), platenref01_Last.j2, if_pos rfl, if_pos (by omega), if_pos (by omega), Int.toNat_natCast, last_size p hp i n h0 hi (by omega) hn k hk, Option.bind_some]
  have hw : wrap64 ((n : Int) + 1) = ((n + 1 : Nat) : Int) := wnat (by omega)
  rw [hw]
  clear hw
  by_cases hg : gsz ((p.take i).drop (i - n)) = n
  ·rw [if_pos (by omega), if_pos ⟨hn, hg⟩]
  ·rw [if_neg (by omega), if_neg (fun e => hg e.2), if_pos hn]
 ·rw [decide_eq_false (by omega), platenref01_Last.j2, if_neg (by simp), if_neg (fun e => hn e.1), if_neg hn]
theorem platenref01_Last_spec (p : List Int) (hp : p.length ≤ 1000000000) (i : Nat) (h0 : 0 < i) (hi : i ≤ p.length) (k : Nat) (hk : 30 < k) : platenref01_Last.f k p (i : Int) = some (lsz (p.take i) : Int) := by
 obtain ⟨k, rfl⟩ : ∃ k', k = k' + 9 := ⟨k - 9, by omega⟩
 have hlen : (p.take i).length = i := by simp only [List.length_take]; omega
 have hne : p.take i ≠ [] := by intro e; rw [e] at hlen; simp at hlen; omega
 unfold platenref01_Last.f lsz
 rw [if_neg (by omega), decide_eq_false (by omega), platenref01_Last.j0, if_neg (by simp), if_neg hne, hlen]
 have s2 := last_step p hp i 2 h0 hi (by omega) (by omega) (k + 6) (by omega)
 have s3 := last_step p hp i 3 h0 hi (by omega) (by omega) (k + 4) (by omega)
 have s4 := last_step p hp i 4 h0 hi (by omega) (by omega) (k + 2) (by omega)
 rw [show platenref01_Last.l0 (k + 8) p (i : Int) 2 = platenref01_Last.l0 (k + 6 + 2) p (i : Int) ((2 : Nat) : Int) from rfl, s2]
 by_cases c2 : 2 ≤ i ∧ gsz ((p.take i).drop (i - 2)) = 2
 ·rw [if_pos c2, if_pos c2]
 ·rw [if_neg c2, if_neg c2]
  by_cases d2 : 2 ≤ i
  ·rw [if_pos d2, show platenref01_Last.l0 (k + 6) p (i : Int) ((2 + 1 : Nat) : Int) = platenref01_Last.l0 (k + 4 + 2) p (i : Int) ((3 : Nat) : Int) from rfl, s3]
   by_cases c3 : 3 ≤ i ∧ gsz ((p.take i).drop (i - 3)) = 3
   ·rw [if_pos c3, if_pos c3]
   ·rw [if_neg c3, if_neg c3]
    by_cases d3 : 3 ≤ i
    ·rw [if_pos d3, show platenref01_Last.l0 (k + 4) p (i : Int) ((3 + 1 : Nat) : Int) = platenref01_Last.l0 (k + 2 + 2) p (i : Int) ((4 : Nat) : Int) from rfl, s4]
     by_cases c4 : 4 ≤ i ∧ gsz ((p.take i).drop (i - 4)) = 4
     ·rw [if_pos c4, if_pos c4]
     ·rw [if_neg c4, if_neg c4]
      by_cases d4 : 4 ≤ i
      ·rw [if_pos d4, platenref01_Last.l0, if_neg (by omega), platenref01_Last.j2, if_neg (by simp)]; rfl
      ·rw [if_neg d4]; rfl
    ·rw [if_neg d3, if_neg (fun e => d3 (by omega))]; rfl
  ·rw [if_neg d2, if_neg (fun e => d2 (by omega)), if_neg (fun e => d2 (by omega))]; rfl
theorem platenref01_Blank_spec (c : Int) : platenref01_Blank.f c = some (decide (c = 32 ∨ c = 9)) := by
 unfold platenref01_Blank.f
 split
 ·simp [*]
 ·rw [Option.some_inj, Bool.eq_iff_iff]; simp; omega
theorem platenref05_Class_spec (c : Int) : platenref05_Class.f c = some (cls c) := by
 unfold platenref05_Class.f cls
 rw [platenref01_Blank_spec, Option.bind_some]
 simp only [decide_eq_true_eq]
 repeat' split
 all_goals first | rfl | (exfalso; omega)
theorem platenref05_Runs_l0 (p : List Int) (hp : p.length ≤ 1000000) (m : Nat) : ∀ (k i a : Nat) (l : List NN), i + m = p.length + 1 → a < i → i ≤ p.length → (∀ (h1 : i - 1 < p.length) (h2 : a < p.length), cls p[i - 1] = cls p[a]) → rn 0 (p.take i) = l ++ [(a, i - a)] → m < k →
  platenref05_Runs.l0 k p (l.map mk) (a : Int) (i : Int) = some ((rn 0 p).map mk) := by
 induction m with
 | zero => intro k i a l hi ha hle _ _ _; omega
 | succ m ih =>
  intro k i a l hi ha hle hsame hl hk
  obtain ⟨k, rfl⟩ := ex_succ hk
  have hl1 := rn_length (p.take i) 0
  rw [hl] at hl1
  simp only [List.length_append, List.length_cons, List.length_nil, List.length_take] at hl1
  have hcap : (l.map mk).length < 8796093022208 := by simp only [List.length_map]; omega
  have hrow : (l.map mk ++ [(⟨(a : Int), wrap64 ((i : Int) - (a : Int))⟩ : S39)]) = (l ++ [(a, i - a)]).map mk := by
   rw [wid (by omega) (by omega)]
   have : ((i - a : Nat) : Int) = (i : Int) - (a : Int) := by omega
   simp [mk, this]
  rw [platenref05_Runs.l0, hrow]
  clear hrow
  rw [if_pos (by omega), if_pos hcap]
  by_cases hend : i = p.length
  ·rw [if_pos (by omega)]
   have e1 : p.take i = p := List.take_of_length_le (by omega)
   rw [e1] at hl
   rw [← hl]
   have hw1 : wrap64 ((i : Int) + 1) = ((i + 1 : Nat) : Int) := wnat (by omega)
   rw [hw1]
   clear hw1
   obtain ⟨k, rfl⟩ : ∃ k', k = k' + 1 := ⟨k - 1, by omega⟩
   rw [platenref05_Runs.l0, if_neg (by omega)]
  ·have hlt : i < p.length := by omega
   have halt : a < p.length := by omega
   have hi1 : i - 1 < p.length := by omega
   have hs := hsame hi1 halt
   have hne : p.take i ≠ [] := by intro e; have := congrArg List.length e; simp only [List.length_take, List.length_nil] at this; omega
   obtain ⟨l', a', n', h1, h2⟩ := rn_snoc (p.take i) p[i] 0 hne
   rw [take_last p i (by omega) (by omega) hne, hs] at h2
   simp only [List.length_take, Nat.zero_add] at h2
   rw [show min i p.length = i by omega] at h2
   rw [hl] at h1
   have hll := List.append_inj' h1 rfl
   obtain ⟨rfl, h3⟩ := hll
   simp only [List.cons.injEq, and_true, Prod.mk.injEq] at h3
   obtain ⟨rfl, rfl⟩ := h3
   rw [if_neg (by omega), if_pos (by omega), if_pos (by omega), rd_nat p i hlt, platenref05_Class_spec, Option.bind_some, if_pos (by omega), if_pos (by omega), rd_nat p a halt, platenref05_Class_spec, Option.bind_some]
   have hw1 : wrap64 ((i : Int) + 1) = ((i + 1 : Nat) : Int) := wnat (by omega)
   rw [hw1]
   clear hw1
   by_cases hc : cls p[a] = cls p[i]
   ·rw [if_pos hc] at h2
    rw [if_pos hc.symm]
    exact ih k (i + 1) a l (by omega) (by omega) (by omega) (fun _ _ => by simp only [show i + 1 - 1 = i by omega]; exact hc.symm) (by
     rw [List.take_succ_eq_append_getElem hlt, h2, show i + 1 - a = i - a + 1 by omega]) (by omega)
   ·rw [if_neg hc] at h2
    rw [if_neg (fun e => hc e.symm)]
    exact ih k (i + 1) i (l ++ [(a, i - a)]) (by omega) (by omega) (by omega) (fun _ _ => by simp only [show i + 1 - 1 = i by omega]) (by
     rw [List.take_succ_eq_append_getElem hlt, h2, show i + 1 - i = 1 by omega]) (by omega)
theorem platenref05_Runs_spec (p : List Int) (hp : p.length ≤ 1000000) (k : Nat) (hk : p.length < k) : platenref05_Runs.f k p = some ((rn 0 p).map mk) := by
 unfold platenref05_Runs.f
 cases p with
 | nil =>
  obtain ⟨k, rfl⟩ := ex_succ hk
  rw [platenref05_Runs.l0, if_neg (by simp)]; rfl
 | cons c t =>
  have := platenref05_Runs_l0 (c :: t) hp (c :: t).length k 1 0 [] (by omega) (by omega) (by simp) (fun _ _ => rfl) (by simp [rn]) hk
  simpa using this
theorem words_Runs_l0 (p : List Int) (hp : p.length ≤ 1000000) (m : Nat) : ∀ (k i : Nat), i + m = p.length → m < k →
  words_Runs.l0 k p ((rn 0 (p.take i)).map mk) (i : Int) = some ((rn 0 p).map mk) := by
 induction m with
 | zero =>
  intro k i hi hk
  obtain ⟨k, rfl⟩ := ex_succ hk
  rw [words_Runs.l0, if_neg (by omega), List.take_of_length_le (by omega)]
 | succ m ih =>
  intro k i hi hk
  obtain ⟨k, rfl⟩ := ex_succ hk
  have hlt : i < p.length := by omega
  have hnext := ih k (i + 1) (by omega) (by omega)
  rw [List.take_succ_eq_append_getElem hlt] at hnext
  have hw1 : wrap64 ((i : Int) + 1) = ((i + 1 : Nat) : Int) := wnat (by omega)
  rw [words_Runs.l0, hw1]
  clear hw1
  rw [if_pos (by omega)]
  by_cases h0 : i = 0
  ·subst h0
   have e0 : (rn 0 (p.take 0)).map mk = [] := rfl
   rw [List.take_zero, List.nil_append, rn_one] at hnext
   rw [e0, if_neg (by simp [wrap64]), if_pos (by simp)]
   exact hnext
  ·have hne : p.take i ≠ [] := by intro e; have := congrArg List.length e; simp only [List.length_take, List.length_nil] at this; omega
   obtain ⟨l, a, n, h1, h2⟩ := rn_snoc (p.take i) p[i] 0 hne
   have hl1 := rn_length (p.take i) 0
   rw [h1] at hl1
   simp only [List.length_append, List.length_cons, List.length_nil, List.length_take] at hl1
   have hmem := rn_mem (p.take i) (a, n) (by rw [h1]; simp)
   simp only [List.length_take] at hmem
   have hnb : n ≤ 1000000 := by have := hmem.2; omega
   have hi1 : i - 1 < p.length := by omega
   rw [take_last p i (by omega) (by omega) hne] at h2
   simp only [List.length_take, Nat.zero_add] at h2
   rw [show min i p.length = i by omega] at h2
   rw [h2] at hnext
   rw [h1]
   have hll : l.length ≤ 1000000 := by omega
   have hlen : wrap64 ((((l ++ [(a, n)]).map mk).length : Int) - 1) = (l.length : Int) := by
    rw [show (((l ++ [(a, n)]).map mk).length : Int) - 1 = (l.length : Int) by simp]
    exact wid (by omega) (by omega)
   have hwi : wrap64 ((i : Int) - 1) = ((i - 1 : Nat) : Int) := by
    clear hlen
    rw [show (i : Int) - 1 = ((i - 1 : Nat) : Int) by omega]; exact wid (by omega) (by omega)
   have hrd : rd_T39 ((l ++ [(a, n)]).map mk) (l.length : Int) = mk (a, n) := by
    rw [rd_mk _ _ (by simp)]; simp
   have hlen2 : (((l ++ [(a, n)]).map mk).length : Int) = ((l.length + 1 : Nat) : Int) := by simp
   have hw1 : wrap64 ((mk (a, n)).f1 + 1) = ((n + 1 : Nat) : Int) := by clear hlen hwi; exact wnat (n := n) (by omega)
   have hcap : ((l ++ [(a, n)]).map mk).length < 8796093022208 := by
    clear hlen hwi hw1
    simp only [List.length_map, List.length_append, List.length_cons, List.length_nil]; omega
   rw [hlen, hwi, hrd, hw1, if_pos hcap, hlen2]
   clear hlen hwi hw1 hlen2
   rw [if_pos (by omega), if_pos (by omega), rd_nat p i hlt, words_Class_spec, Option.bind_some, if_pos (by omega), if_pos (by omega), rd_nat p (i - 1) hi1, words_Class_spec, Option.bind_some]
   by_cases hc : cls p[i - 1] = cls p[i]
   ·rw [if_pos hc] at hnext
    have hset : ((l ++ [(a, n)]).map mk).set ((l.length : Int)).toNat (⟨(mk (a, n)).f0, ((n + 1 : Nat) : Int)⟩ : S39) = (l ++ [(a, n + 1)]).map mk := by simp [mk]
    rw [if_pos hc.symm, if_pos (by omega), if_pos (by omega), hset]
    exact hnext
   ·rw [if_neg hc] at hnext
    have hset : ((l ++ [(a, n)]).map mk) ++ [(⟨(i : Int), 1⟩ : S39)] = (l ++ [(a, n)] ++ [(i, 1)]).map mk := by simp [mk]
    rw [if_neg (fun e => hc e.symm), hset]
    exact hnext
theorem words_Runs_spec (p : List Int) (hp : p.length ≤ 1000000) (k : Nat) (hk : p.length < k) : words_Runs.f k p = some ((rn 0 p).map mk) := by
 have := words_Runs_l0 p hp p.length k 0 (by omega) hk
 simpa [words_Runs.f, rn] using this
theorem getD_at (p : List Int) (i : Nat) (h : i < p.length) : p.getD i 0 = p[i] := by simp [List.getD_eq_getElem?_getD, h]
def wf (p : List Int) (L : List NN) : List NN := L.filter fun x => decide (2 ≤ cls (p.getD x.1 0))
theorem wf_cons (p : List Int) (x : NN) (L : List NN) (h : x.1 < p.length) : wf p (x :: L) = if 2 ≤ cls p[x.1] then x :: wf p L else wf p L := by
 unfold wf
 rw [List.filter_cons, getD_at p _ h]
 simp
def Good (p : List Int) (L : List NN) : Prop := ∀ x ∈ L, 1 ≤ x.2 ∧ x.1 + x.2 ≤ p.length
theorem platenref05_Words_l0 (p : List Int) (hp : p.length ≤ 1000000) (L : List NN) (hL : Good p L) (hn : L.length ≤ 1000000) (m : Nat) : ∀ (k i : Nat) (acc : List NN), i + m = L.length → acc.length ≤ i → m < k →
  platenref05_Words.l0 k p (acc.map mk) (L.map mk) (i : Int) = some ((acc ++ wf p (L.drop i)).map mk) := by
 induction m with
 | zero =>
  intro k i acc hi ha hk
  obtain ⟨k, rfl⟩ := ex_succ hk
  rw [platenref05_Words.l0, List.length_map, if_neg (by omega), List.drop_eq_nil_of_le (by omega)]
  simp [wf]
 | succ m ih =>
  intro k i acc hi ha hk
  obtain ⟨k, rfl⟩ := ex_succ hk
  have hlt : i < L.length := by omega
  have hg := hL _ (List.getElem_mem hlt)
  have hx : L[i].1 < p.length := by omega
  have hcap : (acc.map mk).length < 8796093022208 := by simp only [List.length_map]; omega
  have hn1 := ih k (i + 1) acc (by omega) (by omega) (by omega)
  have hn2 := ih k (i + 1) (acc ++ [L[i]]) (by omega) (by simp only [List.length_append, List.length_cons, List.length_nil]; omega) (by omega)
  have hw1 : wrap64 ((i : Int) + 1) = ((i + 1 : Nat) : Int) := wnat (by omega)
  rw [platenref05_Words.l0, List.length_map, rd_mk L i hlt, hw1, if_pos hcap, hn1]
  clear hw1
  rw [if_pos (by omega), if_pos (by omega), show (mk L[i]).f0 = ((L[i].1 : Nat) : Int) from rfl, if_pos (by omega), if_pos (by omega), rd_nat p _ hx, platenref05_Class_spec, Option.bind_some, drop_at L i hlt, wf_cons p _ _ hx]
  by_cases hc : 2 ≤ cls p[L[i].1]
  ·rw [if_pos hc, if_pos hc]
   have e : acc.map mk ++ [(⟨((L[i].1 : Nat) : Int), (mk L[i]).f1⟩ : S39)] = (acc ++ [L[i]]).map mk := by simp [mk]
   rw [e, hn2]; simp
  ·rw [if_neg hc, if_neg hc]
theorem platenref05_Words_spec (p : List Int) (hp : p.length ≤ 1000000) (k : Nat) (hk : p.length < k) : platenref05_Words.f k p = some ((wrds p).map mk) := by
 have hl := rn_length p 0
 unfold platenref05_Words.f
 rw [platenref05_Runs_spec p hp k hk, Option.bind_some]
 have := platenref05_Words_l0 p hp (rn 0 p) (rn_mem p) (by omega) (rn 0 p).length k 0 [] (by omega) (by simp) (by omega)
 simpa [wrds, wf] using this
def lst (p : List Int) (a : Int) : List NN → Int × Bool
 | [] => ((0 : Int), false)
 | x :: r => if (x.1 : Int) + (x.2 : Int) - (lsz (p.take (x.1 + x.2)) : Int) > a then ((x.1 : Int) + (x.2 : Int) - (lsz (p.take (x.1 + x.2)) : Int), true) else lst p a r
theorem lsz_le (q : List Int) : lsz q ≤ 4 := by unfold lsz; (repeat' split) <;> omega
theorem words_Last_l0 (p : List Int) (bp : Bytes p) (hp : p.length ≤ 1000000) (a : Int) (L : List NN) (hL : Good p L) (hn : L.length ≤ 1000000) (m : Nat) : ∀ (k i : Nat), i + m = L.length → m + 8 < k →
  words_Last.l0 k p a (L.map mk) (L.length : Int) (i : Int) = some (lst p a (wf p (L.drop i))) := by
 induction m with
 | zero =>
  intro k i hi hk
  obtain ⟨k, rfl⟩ := ex_succ hk
  rw [words_Last.l0, if_neg (by omega), List.drop_eq_nil_of_le (by omega)]
  simp [wf, lst]
 | succ m ih =>
  intro k i hi hk
  obtain ⟨k, rfl⟩ := ex_succ hk
  have hlt : i < L.length := by omega
  have hg := hL _ (List.getElem_mem hlt)
  have hx : L[i].1 < p.length := by omega
  have hnext := ih k (i + 1) (by omega) (by omega)
  have hz := lsz_le (p.take (L[i].1 + L[i].2))
  have hpv := glyph_Prev_spec p bp (by omega) (L[i].1 + L[i].2) hg.2 k (by omega)
  have hw1 : wrap64 ((i : Int) + 1) = ((i + 1 : Nat) : Int) := wnat (by omega)
  have hw2 : wrap64 ((mk L[i]).f0 + (mk L[i]).f1) = ((L[i].1 + L[i].2 : Nat) : Int) := by
   clear hw1
   rw [show (mk L[i]).f0 + (mk L[i]).f1 = ((L[i].1 + L[i].2 : Nat) : Int) from rfl]
   exact wid (by omega) (by omega)
  have hw3 : wrap64 (((L[i].1 + L[i].2 : Nat) : Int) - (lsz (p.take (L[i].1 + L[i].2)) : Int)) = ((L[i].1 : Int) + (L[i].2 : Int) - (lsz (p.take (L[i].1 + L[i].2)) : Int)) := by
   clear hw1 hw2
   rw [Int.natCast_add]
   exact wid (by omega) (by omega)
  rw [words_Last.l0, List.length_map, rd_mk L i hlt, hw1, hw2, hpv, Option.bind_some, hw3, hnext]
  clear hw1 hw2 hw3 hnext hpv
  rw [if_pos (by omega), if_pos (by omega), if_pos (by omega), show (mk L[i]).f0 = ((L[i].1 : Nat) : Int) from rfl, if_pos (show (0 : Int) ≤ ((L[i].1 : Nat) : Int) by omega), if_pos (show ((L[i].1 : Nat) : Int) < (p.length : Int) by omega), rd_nat p _ hx, words_Class_spec, Option.bind_some, words_empty_spec, Option.bind_some, drop_at L i hlt, wf_cons p _ _ hx]
  by_cases hc : 2 ≤ cls p[L[i].1]
  ·rw [decide_eq_false (by omega), if_pos hc, if_neg (show ¬ false = true by simp), lst]
   split <;> rfl
  ·rw [decide_eq_true (by omega), if_neg hc, if_pos rfl]
   split <;> rfl
theorem words_Last_spec (p : List Int) (bp : Bytes p) (hp : p.length ≤ 1000000) (a : Int) (k : Nat) (hk : p.length + 8 < k) : words_Last.f k p a = some (lst p a (wrds p)) := by
 have hl := rn_length p 0
 unfold words_Last.f
 rw [words_Runs_spec p hp k (by omega), Option.bind_some, List.length_map]
 exact words_Last_l0 p bp hp a (rn 0 p) (rn_mem p) (by omega) (rn 0 p).length k 0 (by omega) (by omega)
theorem platenref05_Last_l0 (p : List Int) (hp : p.length ≤ 1000000) (a : Int) (L : List NN) (hL : Good p L) (hn : L.length ≤ 1000000) (m : Nat) : ∀ (k i : Nat), i + m = L.length → m + 32 < k →
  platenref05_Last.l0 k p a (L.map mk) (i : Int) = some (lst p a (L.drop i)) := by
 induction m with
 | zero =>
  intro k i hi hk
  obtain ⟨k, rfl⟩ := ex_succ hk
  rw [platenref05_Last.l0, List.length_map, if_neg (by omega), List.drop_eq_nil_of_le (by omega)]
  simp [lst]
 | succ m ih =>
  intro k i hi hk
  obtain ⟨k, rfl⟩ := ex_succ hk
  have hlt : i < L.length := by omega
  have hg := hL _ (List.getElem_mem hlt)
  have hnext := ih k (i + 1) (by omega) (by omega)
  have hz := lsz_le (p.take (L[i].1 + L[i].2))
  have hpv := platenref01_Last_spec p (by omega) (L[i].1 + L[i].2) (by omega) hg.2 k (by omega)
  have hw1 : wrap64 ((i : Int) + 1) = ((i + 1 : Nat) : Int) := wnat (by omega)
  have hw2 : wrap64 ((mk L[i]).f0 + (mk L[i]).f1) = ((L[i].1 + L[i].2 : Nat) : Int) := by
   clear hw1
   rw [show (mk L[i]).f0 + (mk L[i]).f1 = ((L[i].1 + L[i].2 : Nat) : Int) from rfl]
   exact wid (by omega) (by omega)
  have hw3 : wrap64 (((L[i].1 + L[i].2 : Nat) : Int) - (lsz (p.take (L[i].1 + L[i].2)) : Int)) = ((L[i].1 : Int) + (L[i].2 : Int) - (lsz (p.take (L[i].1 + L[i].2)) : Int)) := by
   clear hw1 hw2
   rw [Int.natCast_add]
   exact wid (by omega) (by omega)
  rw [platenref05_Last.l0, List.length_map, rd_mk L i hlt, hw1, hw2, hpv, Option.bind_some, hw3, hnext]
  clear hw1 hw2 hw3 hnext hpv
  rw [if_pos (by omega), if_pos (by omega), drop_at L i hlt, lst]
  split <;> rfl
theorem platenref05_Last_spec (p : List Int) (hp : p.length ≤ 1000000) (a : Int) (k : Nat) (hk : p.length + 32 < k) : platenref05_Last.f k p a = some (lst p a (wrds p)) := by
 have hl := rn_length p 0
 have hl2 : (wrds p).length ≤ (rn 0 p).length := List.length_filter_le _ _
 unfold platenref05_Last.f
 rw [platenref05_Words_spec p hp k (by omega), Option.bind_some]
 exact platenref05_Last_l0 p hp a (wrds p) (wrds_mem p) (by omega) (wrds p).length k 0 (by omega) (by omega)
theorem words_Forward_l0 (p : List Int) (hp : p.length ≤ 1000000) (a : Int) (L : List NN) (hL : Good p L) (hn : L.length ≤ 1000000) (m : Nat) : ∀ (k i : Nat), i + m = L.length → m < k →
  words_Forward.l0 k p a (L.map mk) (L.length : Int) (i : Int) = some (fwd p.length a (wf p (L.drop i)), true) := by
 induction m with
 | zero =>
  intro k i hi hk
  obtain ⟨k, rfl⟩ := ex_succ hk
  rw [words_Forward.l0, if_neg (by omega), List.drop_eq_nil_of_le (by omega)]
  simp [wf, fwd]
 | succ m ih =>
  intro k i hi hk
  obtain ⟨k, rfl⟩ := ex_succ hk
  have hlt : i < L.length := by omega
  have hg := hL _ (List.getElem_mem hlt)
  have hx : L[i].1 < p.length := by omega
  have hnext := ih k (i + 1) (by omega) (by omega)
  have hw1 : wrap64 ((i : Int) + 1) = ((i + 1 : Nat) : Int) := wnat (by omega)
  rw [words_Forward.l0, List.length_map, rd_mk L i hlt, hw1, hnext]
  clear hw1 hnext
  rw [if_pos (by omega), if_pos (by omega), if_pos (by omega), show (mk L[i]).f0 = ((L[i].1 : Nat) : Int) from rfl, if_pos (show (0 : Int) ≤ ((L[i].1 : Nat) : Int) by omega), if_pos (show ((L[i].1 : Nat) : Int) < (p.length : Int) by omega), rd_nat p _ hx, words_Class_spec, Option.bind_some, words_empty_spec, Option.bind_some, drop_at L i hlt, wf_cons p _ _ hx]
  by_cases hc : 2 ≤ cls p[L[i].1]
  ·rw [decide_eq_false (by omega), if_pos hc, if_neg (show ¬ false = true by simp), fwd]
   split <;> rfl
  ·rw [decide_eq_true (by omega), if_neg hc, if_pos rfl]
   split <;> rfl
theorem words_Forward_spec (p : List Int) (hp : p.length ≤ 1000000) (a : Int) (k : Nat) (hk : p.length + 1 < k) : words_Forward.f k p a = some (if a < 0 ∨ a ≥ (p.length : Int) then (0, false) else (fwd p.length a (wrds p), true)) := by
 obtain ⟨k, rfl⟩ : ∃ k', k = k' + 1 := ⟨k - 1, by omega⟩
 have hl := rn_length p 0
 unfold words_Forward.f
 by_cases h1 : a < 0
 ·rw [if_pos h1, if_pos (.inl h1), words_Forward.j0, if_pos rfl]
 ·rw [if_neg h1]
  by_cases h2 : a ≥ (p.length : Int)
  ·rw [decide_eq_true h2, if_pos (.inr h2), words_Forward.j0, if_pos rfl]
  ·rw [decide_eq_false h2, if_neg (by omega), words_Forward.j0, if_neg (by simp), words_Runs_spec p hp k (by omega), Option.bind_some, List.length_map]
   exact words_Forward_l0 p hp a (rn 0 p) (rn_mem p) (by omega) (rn 0 p).length k 0 (by omega) (by omega)
theorem platenref05_Forward_l0 (p : List Int) (hp : p.length ≤ 1000000) (a : Int) (L : List NN) (hn : L.length ≤ 1000000) (m : Nat) : ∀ (k i : Nat), i + m = L.length → m < k →
  platenref05_Forward.l0 k p a (L.map mk) (i : Int) = some (fwd p.length a (L.drop i), true) := by
 induction m with
 | zero =>
  intro k i hi hk
  obtain ⟨k, rfl⟩ := ex_succ hk
  rw [platenref05_Forward.l0, List.length_map, if_neg (by omega), List.drop_eq_nil_of_le (by omega)]
  simp [fwd]
 | succ m ih =>
  intro k i hi hk
  obtain ⟨k, rfl⟩ := ex_succ hk
  have hlt : i < L.length := by omega
  have hnext := ih k (i + 1) (by omega) (by omega)
  have hw1 : wrap64 ((i : Int) + 1) = ((i + 1 : Nat) : Int) := wnat (by omega)
  rw [platenref05_Forward.l0, List.length_map, rd_mk L i hlt, hw1, hnext]
  clear hw1 hnext
  rw [if_pos (by omega), if_pos (by omega), show (mk L[i]).f0 = ((L[i].1 : Nat) : Int) from rfl, drop_at L i hlt, fwd]
  split <;> rfl
theorem platenref05_Forward_spec (p : List Int) (hp : p.length ≤ 1000000) (a : Int) (k : Nat) (hk : p.length + 1 < k) : platenref05_Forward.f k p a = some (if a < 0 ∨ a ≥ (p.length : Int) then (0, false) else (fwd p.length a (wrds p), true)) := by
 obtain ⟨k, rfl⟩ : ∃ k', k = k' + 1 := ⟨k - 1, by omega⟩
 have hl := rn_length p 0
 have hl2 : (wrds p).length ≤ (rn 0 p).length := List.length_filter_le _ _
 unfold platenref05_Forward.f
 by_cases h1 : a < 0
 ·rw [if_pos h1, if_pos (.inl h1), platenref05_Forward.j0, if_pos rfl]
 ·rw [if_neg h1]
  by_cases h2 : a ≥ (p.length : Int)
  ·rw [decide_eq_true h2, if_pos (.inr h2), platenref05_Forward.j0, if_pos rfl]
  ·rw [decide_eq_false h2, if_neg (by omega), platenref05_Forward.j0, if_neg (by simp), platenref05_Words_spec p hp k (by omega), Option.bind_some]
   exact platenref05_Forward_l0 p hp a (wrds p) (by omega) (wrds p).length k 0 (by omega) (by omega)
theorem words_Back_l0 (p : List Int) (hp : p.length ≤ 1000000) (a : Int) (L : List NN) (hL : Good p L) (hn : L.length ≤ 1000000) (m : Nat) : ∀ (k i : Nat) (d : Int), i + m = L.length → m < k →
  words_Back.l0 k p a d (L.map mk) (L.length : Int) (i : Int) = some (bck a d (wf p (L.drop i)), true) := by
 induction m with
 | zero =>
  intro k i d hi hk
  obtain ⟨k, rfl⟩ := ex_succ hk
  rw [words_Back.l0, if_neg (by omega), List.drop_eq_nil_of_le (by omega)]
  simp [wf, bck]
 | succ m ih =>
  intro k i d hi hk
  obtain ⟨k, rfl⟩ := ex_succ hk
  have hlt : i < L.length := by omega
  have hg := hL _ (List.getElem_mem hlt)
  have hx : L[i].1 < p.length := by omega
  have hnext := fun d => ih k (i + 1) d (by omega) (by omega)
  have hw1 : wrap64 ((i : Int) + 1) = ((i + 1 : Nat) : Int) := wnat (by omega)
  rw [words_Back.l0, List.length_map, rd_mk L i hlt, hw1, hnext, hnext]
  clear hw1 hnext
  rw [if_pos (by omega), if_pos (by omega), if_pos (by omega), show (mk L[i]).f0 = ((L[i].1 : Nat) : Int) from rfl, if_pos (show (0 : Int) ≤ ((L[i].1 : Nat) : Int) by omega), if_pos (show ((L[i].1 : Nat) : Int) < (p.length : Int) by omega), rd_nat p _ hx, words_Class_spec, Option.bind_some, words_empty_spec, Option.bind_some, drop_at L i hlt, wf_cons p _ _ hx]
  by_cases hc : 2 ≤ cls p[L[i].1]
  ·rw [decide_eq_false (by omega), if_pos hc, if_neg (show ¬ false = true by simp), bck]
   split <;> rfl
  ·rw [decide_eq_true (by omega), if_neg hc, if_pos rfl]
   split <;> rfl
theorem words_Back_spec (p : List Int) (hp : p.length ≤ 1000000) (a : Int) (k : Nat) (hk : p.length + 1 < k) : words_Back.f k p a = some (if a ≤ 0 ∨ a > (p.length : Int) then (0, false) else (bck a 0 (wrds p), true)) := by
 obtain ⟨k, rfl⟩ : ∃ k', k = k' + 1 := ⟨k - 1, by omega⟩
 have hl := rn_length p 0
 unfold words_Back.f
 by_cases h1 : a ≤ 0
 ·rw [if_pos h1, if_pos (.inl h1), words_Back.j0, if_pos rfl]
 ·rw [if_neg h1]
  by_cases h2 : a > (p.length : Int)
  ·rw [decide_eq_true h2, if_pos (.inr h2), words_Back.j0, if_pos rfl]
  ·rw [decide_eq_false h2, if_neg (by omega), words_Back.j0, if_neg (by simp), words_Runs_spec p hp k (by omega), Option.bind_some, List.length_map]
   exact words_Back_l0 p hp a (rn 0 p) (rn_mem p) (by omega) (rn 0 p).length k 0 0 (by omega) (by omega)
theorem bck_snoc (a : Int) (L : List NN) (x : NN) : ∀ d, bck a d (L ++ [x]) = if (x.1 : Int) < a then (x.1 : Int) else bck a d L := by
 induction L with
 | nil => intro d; rfl
 | cons y r ih => intro d; simp only [List.cons_append, bck]; exact ih _
theorem platenref05_Back_l0 (a : Int) (L : List NN) (hn : L.length ≤ 1000000) (m : Nat) : ∀ (k : Nat), m ≤ L.length → m < k →
  platenref05_Back.l0 k a (L.map mk) ((m : Int) - 1) = some (bck a 0 (L.take m), true) := by
 induction m with
 | zero =>
  intro k hi hk
  obtain ⟨k, rfl⟩ := ex_succ hk
  rw [platenref05_Back.l0, if_neg (by omega), List.take_zero]; rfl
 | succ m ih =>
  intro k hi hk
  obtain ⟨k, rfl⟩ := ex_succ hk
  have hlt : m < L.length := by omega
  have hnext := ih k (by omega) (by omega)
  have hw1 : wrap64 ((m : Int) - 1) = (m : Int) - 1 := wid (by omega) (by omega)
  rw [platenref05_Back.l0, List.length_map, show ((m + 1 : Nat) : Int) - 1 = (m : Int) by omega, rd_mk L m hlt, hw1, hnext]
  clear hw1 hnext
  rw [if_pos (by omega), if_pos (by omega), if_pos (by omega), show (mk L[m]).f0 = ((L[m].1 : Nat) : Int) from rfl, List.take_succ_eq_append_getElem hlt, bck_snoc]
  split <;> rfl
theorem platenref05_Back_spec (p : List Int) (hp : p.length ≤ 1000000) (a : Int) (k : Nat) (hk : p.length + 1 < k) : platenref05_Back.f k p a = some (if a ≤ 0 ∨ a > (p.length : Int) then (0, false) else (bck a 0 (wrds p), true)) := by
 obtain ⟨k, rfl⟩ : ∃ k', k = k' + 1 := ⟨k - 1, by omega⟩
 have hl := rn_length p 0
 have hl2 : (wrds p).length ≤ (rn 0 p).length := List.length_filter_le _ _
 unfold platenref05_Back.f
 by_cases h1 : a ≤ 0
 ·rw [if_pos h1, if_pos (.inl h1), platenref05_Back.j0, if_pos rfl]
 ·rw [if_neg h1]
  by_cases h2 : a > (p.length : Int)
  ·rw [decide_eq_true h2, if_pos (.inr h2), platenref05_Back.j0, if_pos rfl]
  ·rw [decide_eq_false h2, if_neg (by omega), platenref05_Back.j0, if_neg (by simp), platenref05_Words_spec p hp k (by omega), Option.bind_some, List.length_map]
   have hw : wrap64 (((wrds p).length : Int) - 1) = ((wrds p).length : Int) - 1 := wid (by omega) (by omega)
   rw [hw, platenref05_Back_l0 a (wrds p) (by omega) (wrds p).length k (Nat.le_refl _) (by omega), List.take_of_length_le (Nat.le_refl _)]
def wst (p : List Int) (key : Int) (a : Int) : Int × Bool := if key = 119 then (if a < 0 ∨ a ≥ (p.length : Int) then (0, false) else (fwd p.length a (wrds p), true)) else if key = 98 then (if a ≤ 0 ∨ a > (p.length : Int) then (0, false) else (bck a 0 (wrds p), true)) else lst p a (wrds p)
def wrd (p : List Int) (key : Int) (a : Nat) : Option Nat := if (wst p key (a : Int)).2 = true then some (wst p key (a : Int)).1.toNat else none
theorem fwd_facts (len : Nat) (a : Int) (h : a < (len : Int)) (L : List NN) (hL : ∀ x ∈ L, x.1 ≤ len) : a < fwd len a L ∧ fwd len a L ≤ (len : Int) := by
 induction L with
 | nil => exact ⟨h, Int.le_refl _⟩
 | cons x r ih =>
  rw [fwd]
  split
  ·have := hL x (by simp); omega
  ·exact ih fun y hy => hL y (by simp [hy])
theorem bck_facts (a : Int) (L : List NN) : ∀ d : Int, 0 ≤ d → d < a → 0 ≤ bck a d L ∧ bck a d L < a := by
 induction L with
 | nil => intro d h1 h2; exact ⟨h1, h2⟩
 | cons x r ih =>
  intro d h1 h2
  rw [bck]
  split
  ·exact ih _ (by omega) (by omega)
  ·exact ih _ h1 h2
theorem lst_facts (p : List Int) (a : Int) (L : List NN) (hL : ∀ x ∈ L, x.1 + x.2 ≤ p.length) (h : (lst p a L).2 = true) : a < (lst p a L).1 ∧ (lst p a L).1 ≤ (p.length : Int) := by
 induction L with
 | nil => simp [lst] at h
 | cons x r ih =>
  rw [lst] at h ⊢
  split
  ·rename_i g
   have := hL x (by simp)
   dsimp only
   omega
  ·rename_i g
   rw [if_neg g] at h
   exact ih (fun y hy => hL y (by simp [hy])) h
theorem wst_facts {p : List Int} {key : Int} {a : Nat} (ha : a ≤ p.length) (h : (wst p key (a : Int)).2 = true) : 0 ≤ (wst p key (a : Int)).1 ∧ (wst p key (a : Int)).1 ≤ (p.length : Int) ∧ (if key = 98 then (wst p key (a : Int)).1 < (a : Int) else (a : Int) < (wst p key (a : Int)).1) := by
 unfold wst at *
 by_cases h1 : key = 119
 ·rw [if_pos h1] at h ⊢
  rw [if_neg (show ¬ key = 98 by omega)]
  by_cases g : (a : Int) < 0 ∨ (a : Int) ≥ (p.length : Int)
  ·rw [if_pos g] at h; simp at h
  ·rw [if_neg g]
   have := fwd_facts p.length (a : Int) (by omega) (wrds p) (fun x hx => by have := wrds_mem p x hx; omega)
   dsimp only
   omega
 ·rw [if_neg h1] at h ⊢
  by_cases h2 : key = 98
  ·rw [if_pos h2] at h ⊢
   rw [if_pos h2]
   by_cases g : (a : Int) ≤ 0 ∨ (a : Int) > (p.length : Int)
   ·rw [if_pos g] at h; simp at h
   ·rw [if_neg g]
    have := bck_facts (a : Int) (wrds p) 0 (by omega) (by omega)
    dsimp only
    omega
  ·rw [if_neg h2] at h ⊢
   rw [if_neg h2]
   have := lst_facts p (a : Int) (wrds p) (fun x hx => (wrds_mem p x hx).2) h
   omega
theorem wrd_facts {p : List Int} {key : Int} {a b : Nat} (ha : a ≤ p.length) (h : wrd p key a = some b) : b ≤ p.length ∧ (if key = 98 then b < a else a < b) := by
 unfold wrd at h
 split at h
 ·rename_i g
  have hf := wst_facts ha g
  have := Option.some.inj h
  subst this
  refine ⟨by omega, ?_⟩
  by_cases e : key = 98
  ·rw [if_pos e] at hf ⊢; omega
  ·rw [if_neg e] at hf ⊢; omega
 ·simp at h
theorem itr_wrd {p : List Int} {key : Int} (n : Nat) : ∀ {a b : Nat}, a ≤ p.length → itr (wrd p key) n a = some b → b ≤ p.length ∧ (if key = 98 then b ≤ a else a ≤ b) ∧ (0 < n → if key = 98 then b < a else a < b) := by
 induction n with
 | zero =>
  intro a b ha h
  have := Option.some.inj h
  subst this
  refine ⟨ha, ?_, fun h => by omega⟩
  split <;> exact Nat.le_refl _
 | succ n ih =>
  intro a b ha h
  rw [itr] at h
  cases e : wrd p key a with
  | none => rw [e] at h; simp at h
  | some c =>
   rw [e, Option.bind_some] at h
   have h1 := wrd_facts ha e
   have h2 := ih h1.1 h
   obtain ⟨h2a, h2b, _⟩ := h2
   obtain ⟨h1a, h1b⟩ := h1
   refine ⟨h2a, ?_, fun _ => ?_⟩
   ·by_cases g : key = 98
    ·rw [if_pos g] at *; omega
    ·rw [if_neg g] at *; omega
   ·by_cases g : key = 98
    ·rw [if_pos g] at *; omega
    ·rw [if_neg g] at *; omega
def isw (key : Int) : Prop := key = 119 ∨ key = 98 ∨ key = 101
theorem step_word (p : List Int) (hb : Bytes p) (hp : p.length ≤ 10000) (key : Int) (hw : isw key) (s n tab : Int) (a k : Nat) (ha : a ≤ p.length) (hk : 20010 < k) : motion_step.f k p (a : Int) key s n tab = some (stz (wrd p key a)) ∧ ∀ b, wrd p key a = some b → b ≤ p.length := by
 refine ⟨?_, fun b hb => (wrd_facts ha hb).1⟩
 obtain ⟨k, rfl⟩ := ex_succ (n := 0) (k := k) (by omega)
 obtain ⟨k, rfl⟩ := ex_succ (n := 0) (k := k) (by omega)
 have hf : ∀ x : Int × Bool, x = wst p key (a : Int) → (if x.2 = true then some (x.1, (0 : Int)) else some (0, 2)) = some (stz (wrd p key a)) := by
  intro x hx
  subst hx
  unfold wrd
  by_cases h : (wst p key (a : Int)).2 = true
  ·have := wst_facts ha h
   rw [if_pos h, if_pos h]
   show _ = some ((((wst p key (a : Int)).1.toNat : Nat) : Int), (0 : Int))
   rw [Int.toNat_of_nonneg this.1]
  ·rw [if_neg h, if_neg h]
   rfl
 rcases hw with rfl | rfl | rfl
 ·have e : motion_step.f (k + 1 + 1) p (a : Int) 119 s n tab = (words_Forward.f k p (a : Int)).bind fun bt => if bt.2 = true then some (bt.1, 0) else some (0, 2) := rfl
  rw [e, words_Forward_spec p (by omega) _ k (by omega), Option.bind_some]
  exact hf _ rfl
 ·have e : motion_step.f (k + 1 + 1) p (a : Int) 98 s n tab = (words_Back.f k p (a : Int)).bind fun bt => if bt.2 = true then some (bt.1, 0) else some (0, 2) := rfl
  rw [e, words_Back_spec p (by omega) _ k (by omega), Option.bind_some]
  exact hf _ rfl
 ·have e : motion_step.f (k + 1 + 1) p (a : Int) 101 s n tab = (words_Last.f k p (a : Int)).bind fun bt => if bt.2 = true then some (bt.1, 0) else some (0, 2) := rfl
  rw [e, words_Last_spec p hb (by omega) _ k (by omega), Option.bind_some]
  exact hf _ rfl
theorem motion_Go_word (p : List Int) (hb : Bytes p) (hp : p.length ≤ 10000) (key : Int) (hw : isw key) (a s n tab : Int) (t : Nat) (ht : max n 1 = (t : Int)) (ht2 : t ≤ 1000000) (k : Nat) (hk : 20020 + t < k) :
  motion_Go.f k p a key s n tab = some (goz false (decide (key = 101)) (itr (wrd p key) t (flo p (clip p a)))) := by
 have e1 : key ≠ 71 := by rcases hw with rfl | rfl | rfl <;> decide
 have e2 : key ≠ 103 := by rcases hw with rfl | rfl | rfl <;> decide
 have e3 : tms key n = max n 1 := by rcases hw with rfl | rfl | rfl <;> rfl
 have e4 : decide (key = 106 ∨ key = 107) = false := by rcases hw with rfl | rfl | rfl <;> decide
 have e5 : decide (key = 101 ∨ key = 102 ∨ key = 116) = decide (key = 101) := by rcases hw with rfl | rfl | rfl <;> decide
 have := motion_Go_itr p hb hp a tab key s n e1 e2 (wrd p key) (fun x => x ≤ p.length) 20010 (fun a k ha hk => step_word p hb hp key hw s n tab a k ha hk) (flo_facts (clip_le p a)).1.le t (by rw [e3, ht]) (by omega) k (by omega)
 rwa [e4, e5] at this
theorem startsF_len (p : List Int) (n : Nat) : ∀ x, (startsF n p x).length ≤ n := by
 induction n with
 | zero => intro x; simp [startsF]
 | succ n ih =>
  intro x; simp only [startsF]; split
  ·have := ih (x + gsz (p.drop x)); simp only [List.length_cons]; omega
  ·simp
theorem platenref01_Starts_l0 (p : List Int) (hp : p.length ≤ 1000000000) (n : Nat) : ∀ (k x : Nat) (acc : List Int), x ≤ p.length → p.length ≤ x + n → acc.length ≤ x → n + 14 < k →
  platenref01_Starts.l0 k p acc (x : Int) = some (acc ++ zs (startsF n p x)) := by
 induction n with
 | zero =>
  intro k x acc h1 h2 _ hk
  obtain ⟨k, rfl⟩ := ex_succ1 hk
  rw [platenref01_Starts.l0, if_neg (by omega)]
  simp [startsF, zs]
 | succ n ih =>
  intro k x acc h1 h2 ha hk
  obtain ⟨k, rfl⟩ := ex_succ1 hk
  rw [platenref01_Starts.l0]
  simp only [startsF]
  by_cases h : x < p.length
  ·have hg := gd_pos p x h
   have hle := gd_le p x h1
   have hnext := ih k (x + gsz (p.drop x)) (acc ++ [(x : Int)]) hle (by omega) (by simp only [List.length_append, List.length_cons, List.length_nil]; omega) (by omega)
   rw [if_pos (by omega), if_pos (by omega), if_pos h, platenref01_Size_spec p x h hp k (by omega), Option.bind_some]
   have hw : wrap64 ((x : Int) + (gsz (p.drop x) : Int)) = ((x + gsz (p.drop x) : Nat) : Int) := by
    rw [← Int.natCast_add]; exact wid (by omega) (by omega)
   rw [hw, hnext]
   simp [zs]
  ·rw [if_neg (by omega), if_neg h]; simp [zs]
theorem platenref01_Starts_spec (p : List Int) (hp : p.length ≤ 1000000000) (k : Nat) (hk : p.length + 14 < k) : platenref01_Starts.f k p = some (zs (starts p)) := by
 have := platenref01_Starts_l0 p hp p.length k 0 [] (by omega) (by omega) (by simp) hk
 simpa [platenref01_Starts.f, starts] using this
theorem platenref01_Floor_l0 (p : List Int) (a : Nat) (ha : a < p.length) (hp : p.length ≤ 1000000000) (n : Nat) : ∀ (k x idx : Nat) (S : List Nat) (acc : Int), Bd p x → p.length ≤ x + n → idx ≤ S.length → S.length ≤ 1000000000 → S.drop idx = startsF n p x → n < k →
  platenref01_Floor.l0 k (a : Int) acc (zs S) (idx : Int) = some (if a < x then acc else (flo p a : Int)) := by
 induction n with
 | zero =>
  intro k x idx S acc hx h2 hi hS hd hk
  obtain ⟨k, rfl⟩ := ex_succ1 hk
  have := congrArg List.length hd
  simp only [List.length_drop, startsF, List.length_nil] at this
  rw [platenref01_Floor.l0, zs_len, if_neg (by omega), if_pos (by omega)]
 | succ n ih =>
  intro k x idx S acc hx h2 hi hS hd hk
  obtain ⟨k, rfl⟩ := ex_succ1 hk
  simp only [startsF] at hd
  by_cases h : x < p.length
  ·rw [if_pos h] at hd
   have hlen := congrArg List.length hd
   simp only [List.length_drop, List.length_cons] at hlen
   have hlt : idx < S.length := by omega
   rw [drop_at S idx hlt, List.cons.injEq] at hd
   obtain ⟨e1, e2⟩ := hd
   have hg := gd_pos p x h
   have hnext := fun acc => ih k (x + gsz (p.drop x)) (idx + 1) S acc (hx.next h) (by omega) (by omega) hS e2 (by omega)
   rw [platenref01_Floor.l0, zs_len, if_pos (by omega), if_pos (by omega), rd_zs S idx hlt, e1]
   have hw : wrap64 ((idx : Int) + 1) = ((idx + 1 : Nat) : Int) := wnat (by omega)
   rw [hw, hnext, hnext]
   clear hw
   by_cases c : a < x
   ·rw [if_neg (by omega), if_pos (by omega), if_pos c]
   ·rw [if_pos (by omega), if_neg c]
    by_cases c2 : a < x + gsz (p.drop x)
    ·rw [if_pos c2, flo_bd hx h a (by omega) c2]
    ·rw [if_neg c2]
  ·rw [if_neg h] at hd
   have := congrArg List.length hd
   simp only [List.length_drop, List.length_nil] at this
   rw [platenref01_Floor.l0, zs_len, if_neg (by omega), if_pos (by omega)]
theorem platenref01_Floor_neg (a : Int) (ha : a < 0) (S : List Nat) (hS : S.length ≤ 1000000000) (n : Nat) : ∀ (k idx : Nat) (acc : Int), idx + n = S.length → n < k → platenref01_Floor.l0 k a acc (zs S) (idx : Int) = some acc := by
 induction n with
 | zero =>
  intro k idx acc hi hk
  obtain ⟨k, rfl⟩ := ex_succ1 hk
  rw [platenref01_Floor.l0, zs_len, if_neg (by omega)]
 | succ n ih =>
  intro k idx acc hi hk
  obtain ⟨k, rfl⟩ := ex_succ1 hk
  have hlt : idx < S.length := by omega
  have hnext := ih k (idx + 1) acc (by omega) (by omega)
  rw [platenref01_Floor.l0, zs_len, if_pos (by omega), if_pos (by omega), rd_zs S idx hlt, if_neg (by omega)]
  have hw : wrap64 ((idx : Int) + 1) = ((idx + 1 : Nat) : Int) := wnat (by omega)
  rw [hw, hnext]
theorem platenref01_Floor_spec (p : List Int) (hp : p.length ≤ 1000000000) (a : Int) (k : Nat) (hk : p.length + 14 < k) : platenref01_Floor.f k p a = some (flo p (clip p a) : Int) := by
 have hsl := startsF_len p p.length 0
 unfold platenref01_Floor.f
 by_cases h : a ≥ (p.length : Int)
 ·have : clip p a = p.length := by unfold clip; omega
  rw [if_pos h, this, flo_self (Bd.end_ p)]
 ·rw [if_neg h, platenref01_Starts_spec p hp k hk, Option.bind_some]
  by_cases h0 : a < 0
  ·have : clip p a = 0 := by unfold clip; omega
   rw [this, flo_self .zero]
   exact platenref01_Floor_neg a h0 (starts p) (by unfold starts; omega) (starts p).length k 0 0 (by omega) (by unfold starts; omega)
  ·have hc : clip p a = a.toNat := by unfold clip; omega
   have := platenref01_Floor_l0 p a.toNat (by omega) hp p.length k 0 0 (starts p) 0 .zero (by omega) (by omega) (by unfold starts; omega) rfl (by omega)
   rw [show ((a.toNat : Nat) : Int) = a by omega, if_neg (by omega)] at this
   rw [hc]
   exact this
theorem steps19_at : platenlaw19_steps.f 60 = some true := by kernel_rfl
theorem steps19_spec (k : Nat) (hk : 60 ≤ k) : platenlaw19_steps.f k = some true := by
 induction hk with
 | refl => exact steps19_at
 | step _ ih => exact platenlaw19_steps.mono _ _ ih
end Go.Proofs.YtloafpnniooliaaDoor.Ad
namespace Go.Proofs.YtloafpnniooliaaDoor.Pure
open Go Go.RowKit Go.Proofs.YtloafpnniooliaaDoor.Pa Go.Proofs.YtloafpnniooliaaDoorW.PrintWords Go.Proofs.YtloafpnniooliaaDoorW.PrintLast Go.Proofs.YtloafpnniooliaaDoorW.PrintMore Go.Proofs.YtloafpnniooliaaDoor.Gen Go.Proofs.YtloafpnniooliaaDoor.Ad
set_option linter.unusedVariables false
set_option linter.unusedSimpArgs false
theorem goz_some (l w : Bool) (b : Nat) : goz l w (some b) = ((b : Int), l, w, 0) := rfl
theorem goz_none (l w : Bool) : goz l w none = (0, false, false, 2) := rfl
theorem itr_snoc (f : Nat → Option Nat) (n : Nat) : ∀ a, itr f (n + 1) a = (itr f n a).bind f := by
 induction n with
 | zero => intro a; rw [itr]; cases h : f a <;> simp [itr]
 | succ n ih =>
  intro a
  rw [itr, itr]
  cases h : f a with
  | none => rfl
  | some b => rw [Option.bind_some, Option.bind_some, ih b]
theorem ref_word (p : List Int) (hp : p.length ≤ 200) (key : Int) (hw : isw key) (a : Int) (k : Nat) (hk : 1000 < k) {α : Type} (F : Int × Bool → Option α) :
  (if key = 119 then (platenref05_Forward.f k p a).bind F else if key = 98 then (platenref05_Back.f k p a).bind F else (platenref05_Last.f k p a).bind F) = F (wst p key a) := by
 unfold wst
 rcases hw with rfl | rfl | rfl
 ·rw [if_pos rfl, if_pos rfl, platenref05_Forward_spec p (by omega) a k (by omega), Option.bind_some]
 ·rw [if_neg (by decide), if_pos rfl, if_neg (by decide), if_pos rfl, platenref05_Back_spec p (by omega) a k (by omega), Option.bind_some]
 ·rw [if_neg (by decide), if_neg (by decide), if_neg (by decide), if_neg (by decide), platenref05_Last_spec p (by omega) a k (by omega), Option.bind_some]
theorem MotionWords_no (p : List Int) (key f c x i w0 : Int) (w1 w2 : Bool) (k : Nat) (hk : 2 < k) : platenlaw19_MotionWords.l0 k p key f c 2 x false i w0 w1 w2 = some true := by
 obtain ⟨k, rfl⟩ := ex_succ (n := 0) (k := k) (by omega)
 obtain ⟨k, rfl⟩ := ex_succ (n := 0) (k := k) (by omega)
 have e : platenlaw19_MotionWords.j2 (k + 1) p key f c 2 x false i false w0 w1 w2 = some true := by
  rw [platenlaw19_MotionWords.j2, if_neg (by simp), if_neg (by simp)]
  rfl
 rw [platenlaw19_MotionWords.l0]
 split
 ·exact e
 ·exact e
theorem MotionWords_l0 (p : List Int) (hb : Bytes p) (hp : p.length ≤ 200) (key : Int) (hw : isw key) (f : Nat) (hf : f ≤ p.length) (c : Nat) (hc : c ≤ 5) (hc0 : 0 < c) (l : Bool) (m : Nat) : ∀ (k i a : Nat), i + m = c → a ≤ p.length → itr (wrd p key) i f = some a → 21000 + 2 * m < k →
  platenlaw19_MotionWords.l0 k p key (f : Int) (c : Int) (goz false (decide (key = 101)) (itr (wrd p key) c f)).2.2.2 (a : Int) true (i : Int) (goz false (decide (key = 101)) (itr (wrd p key) c f)).1 l (goz false (decide (key = 101)) (itr (wrd p key) c f)).2.2.1 = some true := by
 induction m with
 | zero =>
  intro k i a hi ha he hk
  obtain ⟨k, rfl⟩ := ex_succ (n := 0) (k := k) (by omega)
  obtain ⟨k, rfl⟩ := ex_succ (n := 0) (k := k) (by omega)
  have e : i = c := by omega
  subst e
  have hr := (itr_wrd i hf he).2.2 hc0
  rw [he, goz_some, platenlaw19_MotionWords.l0, if_neg (by omega), platenlaw19_MotionWords.j2, if_neg (by simp)]
  refine (if_pos rfl).trans ((if_pos rfl).trans ((if_pos rfl).trans ((if_pos ?_).trans ?_)))
  ·rcases hw with rfl | rfl | rfl <;> rfl
  ·by_cases g : key = 98
   ·rw [if_pos g] at hr
    rw [g, decide_eq_true (show (a : Int) < (f : Int) by omega)]
    rfl
   ·rw [if_neg g] at hr
    rw [decide_eq_false (show ¬ (a : Int) < (f : Int) by omega), show (key == 98) = false by simpa using g]
    rfl
 | succ m ih =>
  intro k i a hi ha he hk
  obtain ⟨k, rfl⟩ := ex_succ (n := 0) (k := k) (by omega)
  obtain ⟨k, rfl⟩ := ex_succ (n := 0) (k := k) (by omega)
  have hs := itr_snoc (wrd p key) i f
  rw [he, Option.bind_some] at hs
  have hw1 : wrap64 ((i : Int) + 1) = ((i + 1 : Nat) : Int) := wnat (by omega)
  rw [platenlaw19_MotionWords.l0, if_pos (by omega), platenlaw19_MotionWords.j2, if_pos rfl, hw1]
  clear hw1
  rw [ref_word p hp key hw (a : Int) k (by omega)]
  by_cases h : (wst p key (a : Int)).2 = true
  ·have hwf := wst_facts ha h
   have e : wrd p key a = some (wst p key (a : Int)).1.toNat := if_pos h
   rw [e] at hs
   have hb2 := (wrd_facts ha e).1
   have hn := ih k (i + 1) _ (by omega) hb2 hs (by omega)
   rw [Int.toNat_of_nonneg hwf.1] at hn
   rw [h]
   exact hn
  ·have e : wrd p key a = none := if_neg h
   rw [e] at hs
   have hnone : itr (wrd p key) c f = none := by
    have : ∀ d, itr (wrd p key) (i + 1 + d) f = none := by
     intro d
     induction d with
     | zero => exact hs
     | succ d ih => rw [← Nat.add_assoc, itr_snoc, ih]; rfl
    have h2 := this m
    rwa [show i + 1 + m = c by omega] at h2
   rw [hnone, goz_none, Bool.eq_false_iff.2 h]
   exact MotionWords_no p key _ _ _ _ _ _ _ k (by omega)
theorem MotionWords : platenlaw19_MotionWords.Pure := by
 intro p a n z _ _ hp ha hn hz
 have bp := bytes_of hp
 have ba := u8_of ha
 have bn := u8_of hn
 have bz := u8_of hz
 clear ha hn hz
 refine ⟨21106, ?_⟩
 unfold platenlaw19_MotionWords.f
 rw [steps19_spec 21106 (by omega), Option.bind_some, if_pos rfl]
 by_cases h : (p.length : Int) > 200
 ·rw [decide_eq_true h, platenlaw19_MotionWords.j0, if_pos rfl, steps19_spec 21105 (by omega), Option.bind_some]
 ·have w1 : wrap64 n = n := wid (by omega) (by omega)
  have w2 : wrap64 a = a := by clear w1; exact wid (by omega) (by omega)
  have w4 : wrap64 z = z := by clear w1 w2; exact wid (by omega) (by omega)
  obtain ⟨n, rfl⟩ : ∃ z : Nat, n = (z : Int) := ⟨n.toNat, by clear w1 w2 w4; omega⟩
  obtain ⟨z, rfl⟩ : ∃ y : Nat, z = (y : Int) := ⟨z.toNat, by clear w1 w2 w4; omega⟩
  have hn := Nat.mod_lt n (show 0 < 5 by decide)
  have hz := Nat.mod_lt z (show 0 < 3 by decide)
  have w3 : wrap64 (Int.tmod (n : Int) 5 + 1) = ((n % 5 + 1 : Nat) : Int) := by
   clear w1 w2 w4
   rw [show Int.tmod (n : Int) 5 = ((n % 5 : Nat) : Int) from (Int.ofNat_tmod n 5).symm]
   exact wnat (by omega)
  have e3 : Int.tmod (z : Int) 3 = ((z % 3 : Nat) : Int) := (Int.ofNat_tmod z 3).symm
  have hkey : isw (bt (⟨#[119, 98, 101]⟩ : ByteArray) ((z % 3 : Nat) : Int)) := by
   have h3 : z % 3 = 0 ∨ z % 3 = 1 ∨ z % 3 = 2 := by clear w1 w2 w3 w4 e3; omega
   rcases h3 with h3 | h3 | h3 <;> rw [h3] <;> unfold isw <;> decide
  rw [decide_eq_false h, platenlaw19_MotionWords.j0, if_neg (by simp), w1, w2, w3, w4, e3]
  clear w1 w2 w3 w4 e3
  have hfl := flo_facts (clip_le p a)
  rw [if_pos (by omega), if_pos (by omega), platenref01_Floor_spec p (by omega) a 21105 (by omega), Option.bind_some]
  generalize bt (⟨#[119, 98, 101]⟩ : ByteArray) ((z % 3 : Nat) : Int) = key at *
  have hg := motion_Go_word p bp (by omega) key hkey (flo p (clip p a) : Int) 0 ((n % 5 + 1 : Nat) : Int) 8 (n % 5 + 1) (by omega) (by omega) 21105 (by omega)
  rw [clip_nat hfl.1.le, flo_self hfl.1] at hg
  rw [hg, Option.bind_some]
  exact MotionWords_l0 p bp (by omega) key hkey _ hfl.1.le (n % 5 + 1) (by omega) (by omega) _ (n % 5 + 1) 21105 0 _ (by omega) hfl.1.le rfl (by omega)
end Go.Proofs.YtloafpnniooliaaDoor.Pure
