/- Proved: what is between a place and where a way comes is the document's, for any bytes, places and ways. -/
import Derived.Test.YtcljafgpjoagpaaDoorExtBytes
import Derived.Test.YtcljafgpjoagpaaDoorExtTabs
import Derived.Test.YtcljafgpjoagpaaDoorPax0
import Derived.Test.YtcljafgpjoagpaaDoorPax1
import Derived.Test.YtcljafgpjoagpaaDoorPax2
import Derived.Test.YtcljafgpjoagpaaDoorPax3
import Derived.Test.YtcljafgpjoagpaaDoorPax4
import Derived.Test.YtcljafgpjoagpaaDoorPax5
import Derived.Test.YtcljafgpjoagpaaDoorPax6
import Derived.Test.YtcljafgpjoagpaaDoorPax7
import Derived.Test.YtcljafgpjoagpaaDoorPax8
import Derived.Test.YtcljafgpjoagpaaDoorPax9
import Derived.Test.YtcljafgpjoagpaaDoorGenObjectBetween
namespace Go.Proofs.YtcljafgpjoagpaaDoor.Ad
open Go Go.RowKit Go.Proofs.YtcljafgpjoagpaaDoor.Pa Go.Proofs.YtcljafgpjoagpaaDoorW.PrintWords Go.Proofs.YtcljafgpjoagpaaDoorW.PrintLast Go.Proofs.YtcljafgpjoagpaaDoorW.PrintMore Go.Proofs.YtcljafgpjoagpaaDoor.Gen
set_option linter.unusedVariables false
set_option linter.unusedSimpArgs false
theorem ex_succ' {k n : Nat} (h : n < k) : ∃ m, k = m + 1 := ⟨k - 1, by omega⟩
theorem slow_sz (n b0 b1 b2 b3 sz lo hi : Nat) : (Lib.slowN n b0 b1 b2 b3 sz lo hi).2 =
  if n < sz ∨ (b1 < lo ∨ hi < b1) then 1 else if sz ≤ 2 then 2 else if b2 < 128 ∨ 191 < b2 then 1 else if sz ≤ 3 then 3 else if b3 < 128 ∨ 191 < b3 then 1 else 4 := by
 unfold Lib.slowN
 by_cases h1 : n < sz
 ·simp [h1]
 ·by_cases h2 : b1 < lo ∨ hi < b1
  ·simp [h1, h2]
  ·simp only [h1, h2, if_false, or_self]
   (repeat' split) <;> rfl
def szN (n b0 b1 b2 b3 : Nat) : Nat :=
 if need (b0 : Int) = 2 ∧ 2 ≤ n ∧ lo2 (b0 : Int) ≤ (b1 : Int) ∧ (b1 : Int) ≤ hi2 (b0 : Int) then 2
 else if need (b0 : Int) = 3 ∧ 3 ≤ n ∧ lo2 (b0 : Int) ≤ (b1 : Int) ∧ (b1 : Int) ≤ hi2 (b0 : Int) ∧ cont (b2 : Int) then 3
 else if need (b0 : Int) = 4 ∧ 4 ≤ n ∧ lo2 (b0 : Int) ≤ (b1 : Int) ∧ (b1 : Int) ≤ hi2 (b0 : Int) ∧ cont (b2 : Int) ∧ cont (b3 : Int) then 4 else 1
set_option maxHeartbeats 4000000 in
theorem decN_sz (n b0 b1 b2 b3 : Nat) (hn : 1 ≤ n) (h0 : b0 < 256) (h1 : b1 < 256) (h2 : b2 < 256) (h3 : b3 < 256) : (Lib.decodeN n b0 b1 b2 b3).2 = szN n b0 b1 b2 b3 := by
 have one : ∀ b : Nat, need (b : Int) = 1 → szN n b b1 b2 b3 = 1 := by
  intro b hb; simp [szN, hb]
 have slow : Lib.firstT b0 < 240 → (Lib.decodeN n b0 b1 b2 b3).2 = szN n b0 b1 b2 b3 := by
  intro hx
  rw [← Lib.slow_eq n b0 b1 b2 b3 hn h1 h2 h3 hx, slow_sz]
  rcases Lib.firstT_low hx with h | h | h | h | h | h | h
  ·rw [Lib.firstT_C2 h]
   have e : need (b0 : Int) = 2 := by unfold need; rw [if_pos (by omega)]
   have el : lo2 (b0 : Int) = 128 := by unfold lo2; rw [if_neg (by omega), if_neg (by omega)]
   have eh : hi2 (b0 : Int) = 191 := by unfold hi2; rw [if_neg (by omega), if_neg (by omega)]
   simp only [szN, e, el, eh, Lib.accLo, Lib.accHi, cont]
   simp (decide := true) only [if_true, if_false, true_and, false_and, Nat.reduceDiv, Nat.reduceMod]
   (repeat' split) <;> omega
  ·subst h
   simp only [szN, show need ((224 : Nat) : Int) = 3 by decide, show lo2 ((224 : Nat) : Int) = 160 by decide, show hi2 ((224 : Nat) : Int) = 191 by decide, show Lib.firstT 224 = 19 by decide, Lib.accLo, Lib.accHi, cont]
   simp (decide := true) only [if_true, if_false, true_and, false_and, Nat.reduceDiv, Nat.reduceMod]
   (repeat' split) <;> omega
  ·rw [Lib.firstT_E1 h]
   have e : need (b0 : Int) = 3 := by unfold need; rw [if_neg (by omega), if_pos (by omega)]
   have el : lo2 (b0 : Int) = 128 := by unfold lo2; rw [if_neg (by omega), if_neg (by omega)]
   have eh : hi2 (b0 : Int) = 191 := by unfold hi2; rw [if_neg (by omega), if_neg (by omega)]
   simp only [szN, e, el, eh, Lib.accLo, Lib.accHi, cont]
   simp (decide := true) only [if_true, if_false, true_and, false_and, Nat.reduceDiv, Nat.reduceMod]
   (repeat' split) <;> omega
  ·subst h
   simp only [szN, show need ((237 : Nat) : Int) = 3 by decide, show lo2 ((237 : Nat) : Int) = 128 by decide, show hi2 ((237 : Nat) : Int) = 159 by decide, show Lib.firstT 237 = 35 by decide, Lib.accLo, Lib.accHi, cont]
   simp (decide := true) only [if_true, if_false, true_and, false_and, Nat.reduceDiv, Nat.reduceMod]
   (repeat' split) <;> omega
  ·subst h
   simp only [szN, show need ((240 : Nat) : Int) = 4 by decide, show lo2 ((240 : Nat) : Int) = 144 by decide, show hi2 ((240 : Nat) : Int) = 191 by decide, show Lib.firstT 240 = 52 by decide, Lib.accLo, Lib.accHi, cont]
   simp (decide := true) only [if_true, if_false, true_and, false_and, Nat.reduceDiv, Nat.reduceMod]
   (repeat' split) <;> omega
  ·rw [Lib.firstT_F1 h]
   have e : need (b0 : Int) = 4 := by unfold need; rw [if_neg (by omega), if_neg (by omega), if_pos (by omega)]
   have el : lo2 (b0 : Int) = 128 := by unfold lo2; rw [if_neg (by omega), if_neg (by omega)]
   have eh : hi2 (b0 : Int) = 191 := by unfold hi2; rw [if_neg (by omega), if_neg (by omega)]
   simp only [szN, e, el, eh, Lib.accLo, Lib.accHi, cont]
   simp (decide := true) only [if_true, if_false, true_and, false_and, Nat.reduceDiv, Nat.reduceMod]
   (repeat' split) <;> omega
  ·subst h
   simp only [szN, show need ((244 : Nat) : Int) = 4 by decide, show lo2 ((244 : Nat) : Int) = 128 by decide, show hi2 ((244 : Nat) : Int) = 143 by decide, show Lib.firstT 244 = 68 by decide, Lib.accLo, Lib.accHi, cont]
   simp (decide := true) only [if_true, if_false, true_and, false_and, Nat.reduceDiv, Nat.reduceMod]
   (repeat' split) <;> omega
 by_cases ha : b0 < 128
 ·have hx : Lib.firstT b0 = 240 := by unfold Lib.firstT; rw [if_pos ha]
  rw [Lib.ascii_eq n b0 b1 b2 b3 hx, one b0 (by unfold need; rw [if_neg (by omega), if_neg (by omega), if_neg (by omega)])]
 ·by_cases hb : b0 < 194 ∨ 244 < b0
  ·have hx : Lib.firstT b0 = 241 := by unfold Lib.firstT; (repeat' split) <;> omega
   rw [Lib.bad_eq n b0 b1 b2 b3 h0 hx, one b0 (by unfold need; rw [if_neg (by omega), if_neg (by omega), if_neg (by omega)])]
  ·have hx : Lib.firstT b0 < 240 := by
    clear slow one
    have e1 : 194 ≤ b0 := by omega
    have e2 : b0 ≤ 244 := by omega
    clear hb
    unfold Lib.firstT
    (repeat' split) <;> omega
   exact slow hx
theorem decL_sz (l : List Int) (hb : Bytes l) : (decL l).2 = gsz l := by
 have nat : ∀ x ∈ l, ∃ n : Nat, n < 256 ∧ x = (n : Int) := fun x hx => ⟨x.toNat, by have := hb x hx; omega, by have := hb x hx; omega⟩
 match l, nat with
 | [], _ => rfl
 | [b], nat =>
  obtain ⟨b0, h0, rfl⟩ := nat b (by simp)
  simp only [decL, List.length_cons, List.length_nil, List.getD_cons_zero, List.getD_cons_succ, List.getD_nil, Int.toNat_natCast]
  rw [if_neg (by omega), decN_sz _ _ _ _ _ (by omega) h0 (by simp) (by simp) (by simp)]
  simp [szN, gsz]
 | [b, c], nat =>
  obtain ⟨b0, h0, rfl⟩ := nat b (by simp)
  obtain ⟨b1, h1, rfl⟩ := nat c (by simp)
  simp only [decL, List.length_cons, List.length_nil, List.getD_cons_zero, List.getD_cons_succ, List.getD_nil, Int.toNat_natCast]
  rw [if_neg (by omega), decN_sz _ _ _ _ _ (by omega) h0 h1 (by simp) (by simp)]
  simp [szN, gsz]
 | [b, c, d], nat =>
  obtain ⟨b0, h0, rfl⟩ := nat b (by simp)
  obtain ⟨b1, h1, rfl⟩ := nat c (by simp)
  obtain ⟨b2, h2, rfl⟩ := nat d (by simp)
  simp only [decL, List.length_cons, List.length_nil, List.getD_cons_zero, List.getD_cons_succ, List.getD_nil, Int.toNat_natCast]
  rw [if_neg (by omega), decN_sz _ _ _ _ _ (by omega) h0 h1 h2 (by simp)]
  simp [szN, gsz]
 | b :: c :: d :: e :: t, nat =>
  obtain ⟨b0, h0, rfl⟩ := nat b (by simp)
  obtain ⟨b1, h1, rfl⟩ := nat c (by simp)
  obtain ⟨b2, h2, rfl⟩ := nat d (by simp)
  obtain ⟨b3, h3, rfl⟩ := nat e (by simp)
  simp only [decL, List.length_cons, List.length_nil, List.getD_cons_zero, List.getD_cons_succ, List.getD_nil, Int.toNat_natCast]
  rw [if_neg (by omega), decN_sz _ _ _ _ _ (by omega) h0 h1 h2 h3]
  simp [szN, gsz]
theorem bytes_drop {l : List Int} (h : Bytes l) (n : Nat) : Bytes (l.drop n) := fun x hx => h x (List.mem_of_mem_drop hx)
theorem slow_f (l : List Int) (hb : Bytes l) : utf8_decodeRuneSlow.f l = some (((decL l).1 : Int), ((decL l).2 : Int)) := by
 unfold utf8_decodeRuneSlow.f
 rw [if_pos]
 rw [List.all_eq_true]
 intro x hx
 have := hb x (List.mem_of_mem_take hx)
 simp only [byteB, Bool.and_eq_true, decide_eq_true_eq]
 omega
def runeOf (l : List Int) : Int := if 0 < l.length ∧ l.getD 0 0 < 128 then wrap32 (l.getD 0 0) else ((decL l).1 : Int)
theorem utf8_DecodeRune_spec (l : List Int) (hb : Bytes l) (k : Nat) (hk : 0 < k) : utf8_DecodeRune.f k l = some (runeOf l, (gsz l : Int)) := by
 obtain ⟨k, rfl⟩ := ex_succ' hk
 unfold utf8_DecodeRune.f
 simp only [utf8_DecodeRune.l0]
 by_cases h : 0 < l.length
 ·rw [if_pos (by omega), if_pos (by omega), if_pos (by omega)]
  have e : rd l 0 = l.getD 0 0 := by simp [rd]
  have e2 : l.getD 0 0 = l[0] := by simp [h]
  by_cases h1 : rd l 0 < 128
  ·rw [if_pos h1]
   have : gsz l = 1 := by
    rcases Nat.lt_or_ge (gsz l) 2 with h2 | h2
    ·have := gsz_pos (q := l) (by intro e; rw [e] at h; simp at h); omega
    ·exfalso
     have hn : need l[0] = 1 := by
      unfold need; rw [e, e2] at h1
      rw [if_neg (by omega), if_neg (by omega), if_neg (by omega)]
     match l, h with
     | [_], _ => simp [gsz] at h2
     | [b, c], _ => simp at hn; simp [gsz, hn] at h2
     | [b, c, d], _ => simp at hn; simp [gsz, hn] at h2
     | b :: c :: d :: e :: t, _ => simp at hn; simp [gsz, hn] at h2
   rw [this, e, runeOf, if_pos ⟨h, by rw [← e]; exact h1⟩]; rfl
  ·rw [if_neg h1, slow_f l hb, Option.bind_some, decL_sz l hb, runeOf, if_neg (fun c => h1 (by rw [e]; exact c.2))]
 ·rw [if_neg (by omega), slow_f l hb, Option.bind_some, decL_sz l hb, runeOf, if_neg (fun c => h c.1)]
theorem glyph_Next_spec (p : List Int) (hb : Bytes p) (i : Nat) (hi : i < p.length) (k : Nat) (hk : 0 < k) : glyph_Next.f k p (i : Int) = some (gsz (p.drop i) : Int) := by
 unfold glyph_Next.f
 rw [if_neg (by omega), if_neg (by omega), if_pos (by omega), if_pos (by omega), Int.toNat_natCast, utf8_DecodeRune_spec _ (bytes_drop hb i) k hk, Option.bind_some]
theorem glyph_Next_out (p : List Int) (a : Int) (h : a < 0 ∨ a ≥ (p.length : Int)) (k : Nat) : glyph_Next.f k p a = some 0 := by
 unfold glyph_Next.f
 by_cases h1 : a < 0
 ·rw [if_pos h1]
 ·rw [if_neg h1, if_pos (by omega)]
theorem u8_inj {a b : Int} (ha : 0 ≤ a ∧ a ≤ 255) (hb : 0 ≤ b ∧ b ≤ 255) : (UInt8.ofNat a.toNat = UInt8.ofNat b.toNat) ↔ a = b := by
 constructor
 ·intro h
  have h3 := congrArg UInt8.toNat h
  rw [UInt8.toNat_ofNat', UInt8.toNat_ofNat'] at h3
  omega
 ·intro h; rw [h]
theorem countByte_nl (p : List Int) (hb : Bytes p) : Lib.countByte (Lib.bytesOf p) (10 : Int).toNat.toUInt8 = nls p := by
 induction p with
 | nil => rfl
 | cons c t ih =>
  have hc := hb c (by simp)
  have := ih fun x hx => hb x (by simp [hx])
  rw [nls_cons, ← this]
  unfold Lib.countByte Lib.bytesOf
  rw [List.map_cons, List.count_cons]
  have e := u8_inj hc (show 0 ≤ (10 : Int) ∧ (10 : Int) ≤ 255 by omega)
  by_cases h : c = 10
  ·subst h; simp; omega
  ·rw [if_neg h, if_neg (by intro hh; exact h (e.1 (by simpa using hh)))]; omega
theorem bytes_Count_spec (p : List Int) (hb : Bytes p) : bytes_Count.f p [10] = some (nls p : Int) := by
 unfold bytes_Count.f
 rw [if_pos (show ([10] : List Int).length = 1 from rfl), show ([10] : List Int).getD 0 0 = 10 from rfl, countByte_nl p hb]
theorem indexByte_fb (p : List Int) (hb : Bytes p) (c : Int) (hc : 0 ≤ c ∧ c ≤ 255) : Lib.indexByte (Lib.bytesOf p) c.toNat.toUInt8 = fb p c := by
 induction p with
 | nil => rfl
 | cons b t ih =>
  have hbb := hb b (by simp)
  have := ih fun x hx => hb x (by simp [hx])
  have e := u8_inj hbb hc
  have e' : Lib.bytesOf (b :: t) = UInt8.ofNat b.toNat :: Lib.bytesOf t := rfl
  rw [e', Lib.indexByte, fb, this]
  by_cases h : b = c
  ·subst h; simp
  ·rw [if_neg h, if_neg (by intro hh; exact h (e.1 (by simpa using hh)))]
   by_cases h2 : fb t c = -1
   ·rw [if_pos h2, if_pos (by simp [h2])]
   ·rw [if_neg h2, if_neg (by simp [h2])]
theorem lines_Of_spec (p : List Int) (hb : Bytes p) (a : Int) : lines_Of.f p a = some (row p (clip p a) : Int) := by
 have := clip_le p a
 unfold lines_Of.f
 rw [mn_clip, if_pos (by omega), if_pos (by omega), Int.toNat_natCast, bytes_Count_spec _ (fun x hx => hb x (List.mem_of_mem_take hx)), Option.bind_some]
 rfl
theorem bytes_IndexByte_spec (p : List Int) (hb : Bytes p) (c : Int) (hc : 0 ≤ c ∧ c ≤ 255) : bytes_IndexByte.f p c = some (fb p c) := by
 unfold bytes_IndexByte.f
 rw [indexByte_fb p hb c hc]
def spr : Option NN → Int × Int × Bool
 | some x => ((x.1 : Int), (x.2 : Int), true)
 | none => (0, 0, false)
theorem fb_at {p : List Int} {i : Nat} (h : i < (lns p).length) : fb (p.drop (off ((lns p).take i))) 10 = if i + 1 = (lns p).length then -1 else ((lns p)[i].length : Int) := by
 have h1 : lns (p.drop (off ((lns p).take i))) = (lns p).drop i := by
  rw [line_drop h, lns_jn (by intro e; have := congrArg List.length e; simp only [List.length_drop, List.length_nil] at this; omega) (fun l hl => lns_free p l (List.mem_of_mem_drop hl))]
 rw [List.drop_eq_getElem_cons h] at h1
 rw [fb_line _ h1]
 by_cases e : i + 1 = (lns p).length
 ·rw [if_pos e, if_pos (List.drop_eq_nil_of_le (by omega))]
 ·rw [if_neg e, if_neg]
  intro hn
  have := congrArg List.length hn
  simp only [List.length_drop, List.length_nil] at this
  omega
theorem lines_Span_l0 (p : List Int) (hb : Bytes p) (hp : p.length ≤ 1000000000) (line : Int) (m : Nat) : ∀ (k i : Nat), i + m = (lns p).length → (i = 0 ∨ (i : Int) ≤ line) → i < (lns p).length → 2 * m + 1 < k →
  lines_Span.l0 k p line (off ((lns p).take i) : Int) (i : Int) = some (spr (sp p line)) := by
 have hc10 : 0 ≤ (10 : Int) ∧ (10 : Int) ≤ 255 := by omega
 have hcnt := lns_count p
 have hnl := nls_le p
 induction m with
 | zero => intro k i hi _ hlt _; omega
 | succ m ih =>
  intro k i hi hl hlt hk
  obtain ⟨k, rfl⟩ := ex_succ (n := 0) (k := k) (by omega)
  obtain ⟨k, rfl⟩ := ex_succ (n := 0) (k := k) (by omega)
  have hol := off_last hlt
  have hf := fb_at hlt
  have bd : Bytes (p.drop (off ((lns p).take i))) := fun x hx => hb x (List.mem_of_mem_drop hx)
  rw [lines_Span.l0]
  by_cases h : (i : Int) < line
  ·rw [if_pos h, decide_eq_true (by omega), lines_Span.j1, if_pos rfl, if_pos (by omega), if_pos (by omega), Int.toNat_natCast, bytes_IndexByte_spec _ bd 10 hc10, Option.bind_some, hf]
   by_cases e : i + 1 = (lns p).length
   ·rw [if_pos e, if_pos (by omega), sp_out (.inr (by omega))]; rfl
   ·have hw1 : wrap64 (((lns p)[i].length : Int) + 1) = (((lns p)[i].length + 1 : Nat) : Int) := wnat (by omega)
    have hw2 : wrap64 ((off ((lns p).take i) : Int) + (((lns p)[i].length + 1 : Nat) : Int)) = (off ((lns p).take (i + 1)) : Int) := by
     clear hw1
     rw [off_take hlt, wid (by omega) (by omega)]; omega
    have hw3 : wrap64 ((i : Int) + 1) = ((i + 1 : Nat) : Int) := by clear hw1 hw2; exact wnat (by omega)
    rw [if_neg e, if_neg (by clear hw1 hw2 hw3; omega), hw1, hw2, hw3]
    clear hw1 hw2 hw3
    exact ih k (i + 1) (by omega) (.inr (by omega)) (by omega) (by omega)
  ·rw [if_neg h, lines_Span.j1, if_neg (by simp)]
   by_cases hn : line < 0
   ·rw [if_pos hn, sp_out (.inl hn)]; rfl
   ·have hli : line = (i : Int) := by omega
    subst hli
    have hs := sp_in (p := p) (line := (i : Int)) (by omega) (by rw [Int.toNat_natCast]; exact hlt)
    simp only [Int.toNat_natCast] at hs
    rw [if_neg hn, if_pos (by omega), if_pos (by omega), Int.toNat_natCast, bytes_IndexByte_spec _ bd 10 hc10, Option.bind_some, hf, hs]
    by_cases e : i + 1 = (lns p).length
    ·have hw1 : wrap64 ((p.length : Int) - (off ((lns p).take i) : Int)) = ((lns p)[i].length : Int) := by
      rw [wid (by omega) (by omega)]; omega
     rw [if_pos e, if_pos (by omega), hw1]; rfl
    ·rw [if_neg e, if_neg (by omega)]; rfl
theorem lines_Span_spec (p : List Int) (hb : Bytes p) (hp : p.length ≤ 1000000000) (line : Int) (k : Nat) (hk : 2 * p.length + 4 < k) : lines_Span.f k p line = some (spr (sp p line)) := by
 have hcnt := lns_count p
 have hnl := nls_le p
 have := lines_Span_l0 p hb hp line (lns p).length k 0 (by omega) (.inl rfl) (by omega) (by omega)
 simpa [lines_Span.f, off] using this
theorem lines_Whole_spec (p : List Int) (hb : Bytes p) (hp : p.length ≤ 1000000000) (a b : Int) (k : Nat) (hk : 2 * p.length + 4 < k) : lines_Whole.f k p a b = some (spr (whole p a b)) := by
 obtain ⟨k, rfl⟩ := ex_succ (n := 0) (k := k) (by omega)
 have e1 : mn a b = min a b := by unfold mn; split <;> omega
 have e2 : mx a b = max a b := by unfold mx; split <;> omega
 unfold lines_Whole.f
 rw [e1, e2, lines_Span_spec p hb hp _ _ hk, Option.bind_some, lines_Span_spec p hb hp _ _ hk, Option.bind_some]
 clear e1 e2
 by_cases h : 0 ≤ min a b ∧ (max a b).toNat < (lns p).length
 ·obtain ⟨h1, h2⟩ := h
  have hi : (min a b).toNat < (lns p).length := by omega
  have hij : (min a b).toNat ≤ (max a b).toNat := by omega
  have ew : whole p a b = some (whl p (min a b).toNat (max a b).toNat) := if_pos ⟨h1, h2⟩
  rw [sp_in h1 hi, sp_in (by omega) h2, ew]
  have hol := off_last h2
  have hot := off_take h2
  have hwe := whl_end hij h2
  have hom := off_mono (lns p) hij
  have hf : (whl p (min a b).toNat (max a b).toNat).1 = off ((lns p).take (min a b).toNat) := rfl
  simp only [spr]
  rw [if_pos (by trivial), lines_Whole.j0, if_neg (by simp), hf]
  generalize (whl p (min a b).toNat (max a b).toNat).2 = n at *
  generalize off ((lns p).take (min a b).toNat) = s at *
  generalize off ((lns p).take ((max a b).toNat + 1)) = u at *
  generalize off ((lns p).take (max a b).toNat) = v at *
  generalize ((lns p)[(max a b).toNat]).length = z at *
  have hw : wrap64 ((v : Int) + (z : Int)) = ((v + z : Nat) : Int) := by rw [wid (by omega) (by omega)]; omega
  rw [hw]
  clear hw
  by_cases hlt : v + z < p.length
  ·have hw1 : wrap64 (((v + z : Nat) : Int) + 1) = ((v + z + 1 : Nat) : Int) := wnat (by omega)
   have hw2 : wrap64 (((v + z + 1 : Nat) : Int) - (s : Int)) = (n : Int) := by
    clear hw1
    rw [wid (by omega) (by omega)]; omega
   rw [if_pos (by clear hw1 hw2; omega), hw1, hw2]
  ·have hw2 : wrap64 (((v + z : Nat) : Int) - (s : Int)) = (n : Int) := by
    rw [wid (by omega) (by omega)]; omega
   rw [if_neg (by clear hw2; omega), hw2]
 ·have ew : whole p a b = none := if_neg h
  rw [ew]
  by_cases h1 : 0 ≤ min a b ∧ (min a b).toNat < (lns p).length
  ·rw [sp_in h1.1 h1.2, sp_out (line := max a b) (.inr (by omega))]
   simp only [spr]
   rw [if_pos (by trivial), lines_Whole.j0, if_pos (by simp)]
  ·rw [sp_out (line := min a b) (by omega)]
   refine (if_neg Bool.false_ne_true).trans ?_
   rw [lines_Whole.j0, if_pos rfl]; rfl
def whz (o : Option NN) : Int × Int × Bool := match o with
 | some x => ((x.1 : Int), (x.2 : Int), true)
 | none => (0, 0, true)
theorem whz_spr (o : Option NN) : ((spr o).1, (spr o).2.1, true) = whz o := by
 cases o <;> rfl
theorem object_Lines_spec (p : List Int) (hb : Bytes p) (hp : p.length ≤ 1000000000) (a b : Int) (k : Nat) (hk : 2 * p.length + 4 < k) : object_Lines.f k p a b = some (whz (whole p (row p (clip p a) : Int) (row p (clip p b) : Int))) := by
 unfold object_Lines.f
 rw [lines_Of_spec p hb, Option.bind_some, lines_Of_spec p hb, Option.bind_some, lines_Whole_spec p hb hp _ _ k hk, Option.bind_some, whz_spr]
theorem place_spec (p : List Int) (hp : p.length ≤ 1000000) (a : Int) (h0 : 0 ≤ a) (h1 : a ≤ 255) : platenlaw20_place.f p a = some ((a.toNat % (p.length + 1) : Nat) : Int) := by
 have w1 : wrap64 ((p.length : Int) + 1) = ((p.length + 1 : Nat) : Int) := wnat (by omega)
 have w2 : wrap64 a = a := by clear w1; exact wid (by omega) (by omega)
 obtain ⟨n, rfl⟩ : ∃ n : Nat, a = (n : Int) := ⟨a.toNat, by omega⟩
 unfold platenlaw20_place.f
 rw [w1, w2]
 clear w1 w2
 rw [if_neg (by omega), Int.toNat_natCast, ← Int.ofNat_tmod]
theorem need_cases (b : Int) : need b = 1 ∨ need b = 2 ∨ need b = 3 ∨ need b = 4 := by
 unfold need; (repeat' split) <;> omega
theorem gsz_eq (b : Int) (t : List Int) : gsz (b :: t) =
  if need b = 1 ∨ t.length + 1 < need b then 1 else if t.getD 0 0 < lo2 b ∨ hi2 b < t.getD 0 0 then 1
  else if 3 ≤ need b ∧ ¬ cont (t.getD 1 0) then 1 else if 4 ≤ need b ∧ ¬ cont (t.getD 2 0) then 1 else need b := by
 match t with
 | [] =>
  have : need b = 1 ∨ ([] : List Int).length + 1 < need b := by rcases need_cases b with h | h | h | h <;> simp [h]
  rw [if_pos this]; rfl
 | [c] =>
  simp only [gsz, List.length_cons, List.length_nil, List.getD_cons_zero, List.getD_cons_succ, List.getD_nil]
  rcases need_cases b with h | h | h | h <;> simp only [h] <;> simp (decide := true) only [true_and, false_and, if_false, if_true, or_self, or_true, true_or, false_or]
  (repeat' split) <;> omega
 | [c, d] =>
  simp only [gsz, List.length_cons, List.length_nil, List.getD_cons_zero, List.getD_cons_succ, List.getD_nil]
  rcases need_cases b with h | h | h | h <;> simp only [h] <;> simp (decide := true) only [true_and, false_and, if_false, if_true, or_self, or_true, true_or, false_or]
  ·(repeat' split) <;> omega
  ·unfold cont; (repeat' split) <;> omega
 | c :: d :: e :: t =>
  simp only [gsz, List.length_cons, List.length_nil, List.getD_cons_zero, List.getD_cons_succ, List.getD_nil]
  have e1 : ¬ (t.length + 1 + 1 + 1 + 1 < 2) := by omega
  have e2 : ¬ (t.length + 1 + 1 + 1 + 1 < 3) := by omega
  have e3 : ¬ (t.length + 1 + 1 + 1 + 1 < 4) := by omega
  rcases need_cases b with h | h | h | h <;> simp only [h, e1, e2, e3] <;> simp (decide := true) only [true_and, false_and, if_false, if_true, or_self, or_true, true_or, false_or]
  ·(repeat' split) <;> omega
  ·unfold cont; (repeat' split) <;> omega
  ·unfold cont; (repeat' split) <;> omega
theorem getD_drop' (p : List Int) (i j : Nat) (h : i + j < p.length) : (p.drop i).getD j 0 = p[i + j] := by
 simp [List.getD_eq_getElem?_getD, h]
theorem size_j3 (p : List Int) (x1 b sz : Int) (k : Nat) : platenref01_Size.j3 (k + 1) p x1 b sz 128 191 = platenref01_Size.j4 k p x1 sz (lo2 b) (hi2 b) := by
 rw [platenref01_Size.j3]
 unfold lo2 hi2
 by_cases h1 : b = 224
 ·subst h1; rfl
 ·by_cases h2 : b = 237
  ·subst h2; rfl
  ·by_cases h3 : b = 240
   ·subst h3; rfl
   ·by_cases h4 : b = 244
    ·subst h4; rfl
    ·simp only [h1, h2, h3, h4, if_false]
theorem size_j4 (p : List Int) (i : Nat) (h : i < p.length) (hp : p.length ≤ 1000000000) (k : Nat) : platenref01_Size.j4 (k + 6) p (i : Int) (need p[i] : Int) (lo2 p[i]) (hi2 p[i]) = some (gsz (p.drop i) : Int) := by
 have hg := gsz_eq p[i] (p.drop (i + 1))
 rw [← drop_at p i h] at hg
 simp only [List.length_drop] at hg
 have hw0 : wrap64 ((p.length : Int) - (i : Int)) = (p.length : Int) - (i : Int) := wid (by omega) (by omega)
 have hw1 : wrap64 ((i : Int) + 1) = ((i + 1 : Nat) : Int) := wnat (by clear hw0; omega)
 have hw2 : wrap64 ((i : Int) + 2) = ((i + 2 : Nat) : Int) := by clear hw0 hw1; rw [show (i : Int) + 2 = ((i + 2 : Nat) : Int) by omega]; exact wid (by omega) (by omega)
 have hw3 : wrap64 ((i : Int) + 3) = ((i + 3 : Nat) : Int) := by clear hw0 hw1 hw2; rw [show (i : Int) + 3 = ((i + 3 : Nat) : Int) by omega]; exact wid (by omega) (by omega)
 have w23 : wrap64 (2 + 1) = 3 := by decide +kernel
 have w34 : wrap64 (3 + 1) = 4 := by decide +kernel
 rw [platenref01_Size.j4]
 rw [hw0, hw1]
 clear hw0 hw1
 by_cases h1 : need p[i] = 1
 ·rw [h1, if_pos (by rfl)]
  rw [platenref01_Size.j5]
  rw [if_pos rfl, hg, if_pos (.inl h1)]; rfl
 ·have hn := need_cases p[i]
  rw [if_neg (by omega)]
  by_cases h2 : p.length - (i + 1) + 1 < need p[i]
  ·rw [if_pos (by omega)]
   rw [platenref01_Size.j5]
   rw [if_pos rfl, hg, if_pos (.inr h2)]; rfl
  ·have l1 : i + 1 < p.length := by clear hw2 hw3 w23 w34 hg; omega
   have l2 : 3 ≤ need p[i] → i + 2 < p.length := by clear hw2 hw3 w23 w34 hg; omega
   have l3 : 4 ≤ need p[i] → i + 3 < p.length := by clear hw2 hw3 w23 w34 hg; omega
   rw [if_neg (by omega), if_pos (by omega), if_pos (by omega), rd_nat p (i + 1) l1]
   rw [if_neg (by omega), getD_drop' p (i + 1) 0 (by omega)] at hg
   simp only [Nat.add_zero] at hg
   by_cases h3 : p[i + 1] < lo2 p[i]
   ·rw [if_pos h3]
    rw [platenref01_Size.j5]
    rw [if_pos rfl, hg, if_pos (.inl h3)]; rfl
   ·rw [if_neg h3]
    by_cases h4 : hi2 p[i] < p[i + 1]
    ·rw [decide_eq_true h4]
     rw [platenref01_Size.j5]
     rw [if_pos rfl, hg, if_pos (.inr h4)]; rfl
    ·rw [decide_eq_false h4]
     rw [if_neg (by omega)] at hg
     rw [platenref01_Size.j5]
     rw [if_neg (by simp)]
     rw [platenref01_Size.l0]
     rcases hn with hn | hn | hn | hn
     ·exact absurd hn h1
     ·rw [hn, if_neg (by decide), hg, hn]; rfl
     ·have l2 := l2 (by rw [hn]; omega)
      rw [hn, if_pos (by decide), hw2, if_pos (by omega), if_pos (by omega), rd_nat p (i + 2) l2, w23]
      rw [hn, getD_drop' p (i + 1) 1 (by omega)] at hg
      simp only [show i + 1 + 1 = i + 2 by omega] at hg
      clear hw2 hw3
      by_cases c1 : p[i + 2] < 128
      ·rw [if_pos c1, hg, if_pos ⟨by omega, fun c => by unfold cont at c; omega⟩]; rfl
      ·rw [if_neg c1]
       by_cases c2 : p[i + 2] > 191
       ·rw [if_pos c2, hg, if_pos ⟨by omega, fun c => by unfold cont at c; omega⟩]; rfl
       ·rw [if_neg c2]
        rw [platenref01_Size.l0]
        rw [if_neg (by decide), hg, if_neg (fun e => e.2 (by unfold cont; omega)), if_neg (by omega)]
     ·have l2 := l2 (by rw [hn]; omega)
      have l3 := l3 (by rw [hn]; omega)
      rw [hn, if_pos (by decide), hw2, if_pos (by omega), if_pos (by omega), rd_nat p (i + 2) l2, w23]
      rw [hn, getD_drop' p (i + 1) 1 (by omega), getD_drop' p (i + 1) 2 (by omega)] at hg
      simp only [show i + 1 + 1 = i + 2 by omega, show i + 1 + 2 = i + 3 by omega] at hg
      clear hw2
      by_cases c1 : p[i + 2] < 128
      ·rw [if_pos c1, hg, if_pos ⟨by omega, fun c => by unfold cont at c; omega⟩]; rfl
      ·rw [if_neg c1]
       by_cases c2 : p[i + 2] > 191
       ·rw [if_pos c2, hg, if_pos ⟨by omega, fun c => by unfold cont at c; omega⟩]; rfl
       ·rw [if_neg c2]
        rw [platenref01_Size.l0]
        rw [if_pos (by decide), hw3, if_pos (by omega), if_pos (by omega), rd_nat p (i + 3) l3, w34]
        rw [if_neg (fun e => e.2 (by unfold cont; omega))] at hg
        clear hw3
        by_cases c3 : p[i + 3] < 128
        ·rw [if_pos c3, hg, if_pos ⟨by omega, fun c => by unfold cont at c; omega⟩]; rfl
        ·rw [if_neg c3]
         by_cases c4 : p[i + 3] > 191
         ·rw [if_pos c4, hg, if_pos ⟨by omega, fun c => by unfold cont at c; omega⟩]; rfl
         ·rw [if_neg c4]
          rw [platenref01_Size.l0]
          rw [if_neg (by decide), hg, if_neg (fun e => e.2 (by unfold cont; omega))]
theorem platenref01_Size_spec (p : List Int) (i : Nat) (h : i < p.length) (hp : p.length ≤ 1000000000) (k : Nat) (hk : 12 < k) : platenref01_Size.f k p (i : Int) = some (gsz (p.drop i) : Int) := by
 obtain ⟨k, rfl⟩ : ∃ k', k = k' + 10 := ⟨k - 10, by omega⟩
 have h4 := size_j4 p i h hp
 unfold platenref01_Size.f
 rw [if_neg (by omega), decide_eq_false (by omega)]
 rw [platenref01_Size.j0]
 rw [if_neg (by simp), if_pos (by omega), if_pos (by omega), rd_nat p i h]
 generalize p[i] = b at *
 by_cases g1 : b ≥ 194 ∧ b ≤ 223
 ·have hn : need b = 2 := by unfold need; rw [if_pos (by omega)]
  rw [if_pos g1.1, decide_eq_true g1.2]
  rw [platenref01_Size.j1]
  rw [if_pos rfl, size_j3]
  rw [hn] at h4
  exact h4 (k + 1)
 ·have hj1 : (if b ≥ 194 then platenref01_Size.j1 (k + 9) p (i : Int) b 1 128 191 (decide (b ≤ 223)) else platenref01_Size.j1 (k + 9) p (i : Int) b 1 128 191 false) = platenref01_Size.j1 (k + 9) p (i : Int) b 1 128 191 false := by
   by_cases g : b ≥ 194
   ·rw [if_pos g, decide_eq_false (by omega)]
   ·rw [if_neg g]
  rw [hj1]
  rw [platenref01_Size.j1]
  rw [if_neg (by simp)]
  by_cases g2 : b ≥ 224 ∧ b ≤ 239
  ·have hn : need b = 3 := by unfold need; rw [if_neg (by omega), if_pos (by omega)]
   rw [if_pos g2.1, decide_eq_true g2.2]
   rw [platenref01_Size.j2]
   rw [if_pos rfl, size_j3]
   rw [hn] at h4
   exact h4 k
  ·have hj2 : (if b ≥ 224 then platenref01_Size.j2 (k + 8) p (i : Int) b 1 128 191 (decide (b ≤ 239)) else platenref01_Size.j2 (k + 8) p (i : Int) b 1 128 191 false) = platenref01_Size.j2 (k + 8) p (i : Int) b 1 128 191 false := by
    by_cases g : b ≥ 224
    ·rw [if_pos g, decide_eq_false (by omega)]
    ·rw [if_neg g]
   rw [hj2]
   rw [platenref01_Size.j2]
   rw [if_neg (by simp)]
   by_cases g3 : b ≥ 240 ∧ b ≤ 244
   ·have hn : need b = 4 := by unfold need; rw [if_neg (by omega), if_neg (by omega), if_pos (by omega)]
    rw [if_pos g3.1, if_pos g3.2, size_j3]
    rw [hn] at h4
    exact h4 k
   ·have hn : need b = 1 := by unfold need; rw [if_neg (by omega), if_neg (by omega), if_neg (by omega)]
    rw [hn] at h4
    by_cases g : b ≥ 240
    ·rw [if_pos g, if_neg (by omega), size_j3]; exact h4 k
    ·rw [if_neg g, size_j3]; exact h4 k
theorem platenref03_Ends_l0 (p : List Int) (hp : p.length ≤ 1000000000) (m : Nat) : ∀ (k i : Nat) (acc : List Int), i + m = p.length → acc.length ≤ i → m < k →
  platenref03_Ends.l0 k p acc (i : Int) = some (acc ++ zs (endsF i (p.drop i))) := by
 induction m with
 | zero =>
  intro k i acc hi ha hk
  obtain ⟨k, rfl⟩ := ex_succ hk
  rw [platenref03_Ends.l0, if_neg (by omega), List.drop_eq_nil_of_le (by omega)]
  simp [endsF, zs]
 | succ m ih =>
  intro k i acc hi ha hk
  obtain ⟨k, rfl⟩ := ex_succ hk
  have hlt : i < p.length := by omega
  have hw : wrap64 ((i : Int) + 1) = ((i + 1 : Nat) : Int) := wnat (by omega)
  have h1 := ih k (i + 1) acc (by omega) (by omega) (by omega)
  have h2 := ih k (i + 1) (acc ++ [(i : Int)]) (by omega) (by simp only [List.length_append, List.length_cons, List.length_nil]; omega) (by omega)
  rw [platenref03_Ends.l0, hw, h1, h2]
  clear hw h1 h2
  rw [if_pos (by omega), if_pos (by omega), rd_nat p i hlt, if_pos (show acc.length < 17592186044416 by omega), drop_at p i hlt]
  simp only [endsF]
  by_cases h : p[i] = 10
  ·rw [if_pos h, if_pos h]; simp [zs]
  ·rw [if_neg h, if_neg h]
theorem platenref03_Ends_spec (p : List Int) (hp : p.length ≤ 1000000000) (k : Nat) (hk : p.length < k) : platenref03_Ends.f k p = some (zs (endsF 0 p)) := by
 have := platenref03_Ends_l0 p hp p.length k 0 [] (by omega) (by simp) hk
 simpa [platenref03_Ends.f] using this
theorem platenref03_Of_l0 (L : List Nat) (a : Int) (hL : L.length ≤ 1000000000) (m : Nat) : ∀ (k i n : Nat), i + m = L.length → n ≤ i → m < k →
  platenref03_Of.l0 k a (n : Int) (zs L) (i : Int) = some ((n + ((L.drop i).filter fun (e : Nat) => decide ((e : Int) < a)).length : Nat) : Int) := by
 induction m with
 | zero =>
  intro k i n hi hn hk
  obtain ⟨k, rfl⟩ := ex_succ hk
  rw [platenref03_Of.l0, zs_len, if_neg (by omega), List.drop_eq_nil_of_le (by omega)]; rfl
 | succ m ih =>
  intro k i n hi hn hk
  obtain ⟨k, rfl⟩ := ex_succ hk
  have hlt : i < L.length := by omega
  have hw : wrap64 ((i : Int) + 1) = ((i + 1 : Nat) : Int) := wnat (by omega)
  have hw2 : wrap64 ((n : Int) + 1) = ((n + 1 : Nat) : Int) := by clear hw; exact wnat (by omega)
  have h1 := ih k (i + 1) n (by omega) (by omega) (by omega)
  have h2 := ih k (i + 1) (n + 1) (by omega) (by omega) (by omega)
  rw [platenref03_Of.l0, hw, hw2, h1, h2]
  clear hw hw2 h1 h2
  rw [zs_len, if_pos (by omega), if_pos (by omega), rd_zs L i hlt, drop_at L i hlt]
  by_cases h : (L[i] : Int) < a
  ·rw [if_pos h, List.filter_cons_of_pos (by simpa using h), List.length_cons]
   congr 2; omega
  ·rw [if_neg h, List.filter_cons_of_neg (by simpa using h)]
theorem platenref03_Of_spec (p : List Int) (hp : p.length ≤ 1000000000) (a : Int) (k : Nat) (hk : p.length < k) : platenref03_Of.f k p a = some (row p (clip p a) : Int) := by
 have hn := nls_le p
 have hl := endsF_length p 0
 unfold platenref03_Of.f
 rw [platenref03_Ends_spec p hp k hk, Option.bind_some]
 have := platenref03_Of_l0 (endsF 0 p) a (by omega) (endsF 0 p).length k 0 0 (by omega) (by omega) (by omega)
 rw [Int.natCast_zero, List.drop_zero, Nat.zero_add] at this
 rw [this]
 have he := ends_ahead p 0 a.toNat
 have ef : (endsF 0 p).filter (fun (e : Nat) => decide ((e : Int) < a)) = (endsF 0 p).filter (fun e => decide (e < 0 + a.toNat)) := by
  refine List.filter_congr fun x _ => ?_
  rw [decide_eq_decide]; omega
 rw [ef, he]
 unfold row clip
 by_cases hc : a.toNat ≤ p.length
 ·rw [show min a.toNat p.length = a.toNat by omega]
 ·rw [show min a.toNat p.length = p.length by omega, List.take_of_length_le (by omega), List.take_of_length_le (by omega)]
def mk (x : NN) : S27 := ⟨(x.1 : Int), (x.2 : Int)⟩
theorem rd_mk (l : List NN) (i : Nat) (h : i < l.length) : rd_T27 (l.map mk) (i : Int) = mk l[i] := by
 simp [rd_T27, h]
theorem platenref03_Spans_l0 (p : List Int) (hp : p.length ≤ 1000000000) (E : List Nat) (hE : ∀ e ∈ E, e < p.length) (hs : E.Pairwise (· < ·)) (hn : E.length ≤ 1000000000) (m : Nat) : ∀ (k i a : Nat) (acc : List NN), i + m = E.length → acc.length ≤ i → a ≤ p.length → (∀ e ∈ E.drop i, a ≤ e) → m < k →
  platenref03_Spans.l0 k p (acc.map mk) (a : Int) (zs E) (i : Int) = some ((acc ++ spe a (E.drop i) p.length).map mk) := by
 induction m with
 | zero =>
  intro k i a acc hi ha hap _ hk
  obtain ⟨k, rfl⟩ := ex_succ hk
  have hcap : (acc.map mk).length < 8796093022208 := by simp only [List.length_map]; omega
  have hw : wrap64 ((p.length : Int) - (a : Int)) = ((p.length - a : Nat) : Int) := by rw [wid (by omega) (by omega)]; omega
  rw [platenref03_Spans.l0, zs_len, if_neg (by omega), if_pos hcap, List.drop_eq_nil_of_le (by omega), hw]
  simp [spe, mk]
 | succ m ih =>
  intro k i a acc hi ha hap hle hk
  obtain ⟨k, rfl⟩ := ex_succ hk
  have hlt : i < E.length := by omega
  have hcap : (acc.map mk).length < 8796093022208 := by simp only [List.length_map]; omega
  have hel := hE _ (List.getElem_mem hlt)
  have hd := List.drop_eq_getElem_cons hlt
  have hmem : E[i] ∈ E.drop i := by rw [hd]; exact List.mem_cons_self
  have hea : a ≤ E[i] := hle _ hmem
  have hps : (E[i] :: E.drop (i + 1)).Pairwise (· < ·) := by rw [← hd]; exact hs.sublist (List.drop_sublist _ _)
  have hnx : ∀ e ∈ E.drop (i + 1), E[i] + 1 ≤ e := fun e he => Nat.succ_le_of_lt ((List.pairwise_cons.1 hps).1 e he)
  have h1 := ih k (i + 1) (E[i] + 1) (acc ++ [(a, E[i] - a)]) (by omega) (by simp only [List.length_append, List.length_cons, List.length_nil]; omega) (by omega) hnx (by omega)
  have hw : wrap64 ((i : Int) + 1) = ((i + 1 : Nat) : Int) := wnat (by omega)
  have hw2 : wrap64 ((E[i] : Int) + 1) = ((E[i] + 1 : Nat) : Int) := by clear hw; exact wnat (by omega)
  have hw3 : wrap64 ((E[i] : Int) - (a : Int)) = ((E[i] - a : Nat) : Int) := by clear hw hw2; rw [wid (by omega) (by omega)]; omega
  have erow : acc.map mk ++ [(⟨(a : Int), ((E[i] - a : Nat) : Int)⟩ : S27)] = (acc ++ [(a, E[i] - a)]).map mk := by simp [mk]
  rw [platenref03_Spans.l0, zs_len, rd_zs E i hlt, hw, hw2, hw3, erow, h1]
  clear hw hw2 hw3 h1 erow
  rw [if_pos (by omega), if_pos (by omega), if_pos hcap, hd, spe]
  simp
theorem endsF_asc (p : List Int) : ∀ o, (endsF o p).Pairwise (· < ·) := by
 induction p with
 | nil => intro o; exact List.Pairwise.nil
 | cons c t ih =>
  intro o
  simp only [endsF]
  split
  ·exact List.pairwise_cons.2 ⟨fun x hx => by have := endsF_bd t _ x hx; omega, ih _⟩
  ·exact ih _
theorem platenref03_Spans_spec (p : List Int) (hp : p.length ≤ 1000000000) (k : Nat) (hk : p.length + 1 < k) : platenref03_Spans.f k p = some ((spans p).map mk) := by
 have hn := nls_le p
 have hl := endsF_length p 0
 unfold platenref03_Spans.f
 rw [platenref03_Ends_spec p hp k (by omega), Option.bind_some]
 have := platenref03_Spans_l0 p hp (endsF 0 p) (fun e he => by have := endsF_bd p 0 e he; omega) (endsF_asc p 0) (by omega) (endsF 0 p).length k 0 0 [] (by omega) (by simp) (by omega) (fun _ _ => by omega) (by omega)
 rw [List.drop_zero, spans_eq, List.nil_append] at this
 simpa using this
theorem spans_rd (p : List Int) (i : Nat) (h : i < (lns p).length) : rd_T27 ((spans p).map mk) (i : Int) = mk (off ((lns p).take i), (lns p)[i].length) := by
 have h2 : i < (spans p).length := by rw [spans, spo_length]; exact h
 rw [rd_mk _ _ h2]
 have := spans_at h
 rw [List.getElem?_eq_getElem h2, Option.some_inj] at this
 rw [this]
theorem platenref03_Whole_j0 (p : List Int) (hp : p.length ≤ 1000000000) (a b : Int) (hab : a ≤ b) (k : Nat) (hk : p.length + 3 < k) : platenref03_Whole.j0 k p a b = some (spr (whole p a b)) := by
 obtain ⟨k, rfl⟩ := ex_succ (n := 0) (k := k) (by omega)
 obtain ⟨k, rfl⟩ := ex_succ (n := 0) (k := k) (by omega)
 have hsl := spans_length p
 have hcnt := lns_count p
 rw [platenref03_Whole.j0, platenref03_Spans_spec p hp _ (by omega), Option.bind_some]
 by_cases h : 0 ≤ min a b ∧ (max a b).toNat < (lns p).length
 ·obtain ⟨h1, h2⟩ := h
  obtain ⟨i, rfl⟩ : ∃ i : Nat, a = (i : Int) := ⟨a.toNat, by omega⟩
  obtain ⟨j, rfl⟩ : ∃ j : Nat, b = (j : Int) := ⟨b.toNat, by omega⟩
  have ei : (min (i : Int) (j : Int)).toNat = i := by omega
  have ej : (max (i : Int) (j : Int)).toNat = j := by omega
  rw [ej] at h2
  have hi : i < (lns p).length := by omega
  have ew : whole p i j = some (whl p i j) := by
   unfold whole
   rw [ei, ej, if_pos ⟨h1, h2⟩]
  have hol := off_last h2
  have hot := off_take h2
  have hwe := whl_end (show i ≤ j by omega) h2
  have hom := off_mono (lns p) (show i ≤ j by omega)
  have hf : (whl p i j).1 = off ((lns p).take i) := rfl
  rw [if_neg (by omega), decide_eq_false (by simp only [List.length_map]; omega), platenref03_Whole.j1, if_neg (by simp), List.length_map, spans_rd p i hi, spans_rd p j h2, ew]
  simp only [spr, mk, hf]
  generalize (whl p i j).2 = n at *
  generalize off ((lns p).take i) = s at *
  generalize off ((lns p).take (j + 1)) = u at *
  generalize off ((lns p).take j) = v at *
  generalize ((lns p)[j]).length = z at *
  have hw : wrap64 ((v : Int) + (z : Int)) = ((v + z : Nat) : Int) := by rw [wid (by omega) (by omega)]; omega
  have hw1 : wrap64 (((v + z : Nat) : Int) + 1) = ((v + z + 1 : Nat) : Int) := by clear hw; exact wnat (by omega)
  have hw2 : wrap64 (((spans p).length : Int) - 1) = ((lns p).length : Int) - 1 := by
   clear hw hw1
   rw [wid (by have := nls_le p; omega) (by have := nls_le p; omega)]; omega
  rw [hw, hw1, hw2]
  clear hw hw1 hw2
  rw [if_pos (by omega), if_pos (by omega)]
  by_cases hlt : j + 1 = (lns p).length
  ·have hw2 : wrap64 (((v + z : Nat) : Int) - (s : Int)) = (n : Int) := by
    rw [wid (by omega) (by omega)]; omega
   rw [if_neg (by clear hw2; omega), if_pos (by clear hw2; omega), if_pos (by clear hw2; omega), hw2]
  ·have hw2 : wrap64 (((v + z + 1 : Nat) : Int) - (s : Int)) = (n : Int) := by
    rw [wid (by omega) (by omega)]; omega
   rw [if_pos (by clear hw2; omega), if_pos (by clear hw2; omega), if_pos (by clear hw2; omega), hw2]
 ·have ew : whole p a b = none := if_neg h
  rw [ew]
  by_cases h1 : a < 0
  ·rw [if_pos h1, platenref03_Whole.j1, if_pos rfl]; rfl
  ·rw [if_neg h1, decide_eq_true (by simp only [List.length_map]; omega), platenref03_Whole.j1, if_pos rfl]; rfl
theorem platenref03_Whole_spec (p : List Int) (hp : p.length ≤ 1000000000) (a b : Int) (k : Nat) (hk : p.length + 3 < k) : platenref03_Whole.f k p a b = some (spr (whole p a b)) := by
 unfold platenref03_Whole.f
 by_cases h : a > b
 ·rw [if_pos h, platenref03_Whole_j0 p hp b a (by omega) k hk, whole_comm]
 ·rw [if_neg h, platenref03_Whole_j0 p hp a b (by omega) k hk]
theorem platenref20_whole_spec (p : List Int) (hp : p.length ≤ 1000000000) (a b : Int) (k : Nat) (hk : p.length + 3 < k) : platenref20_whole.f k p a b = some (whz (whole p a b)) := by
 unfold platenref20_whole.f
 rw [platenref03_Whole_spec p hp a b k hk, Option.bind_some, whz_spr]
theorem platenref20_Lines_spec (p : List Int) (hp : p.length ≤ 1000000000) (a b : Int) (k : Nat) (hk : p.length + 3 < k) : platenref20_Lines.f k p a b = some (whz (whole p (row p (clip p a) : Int) (row p (clip p b) : Int))) := by
 unfold platenref20_Lines.f
 rw [platenref03_Of_spec p hp a k (by omega), Option.bind_some, platenref03_Of_spec p hp b k (by omega), Option.bind_some, platenref20_whole_spec p hp _ _ k hk, Option.bind_some]
def cntL (p : List Int) (r : Nat) (n : Int) : Int × Int × Bool × Bool := if (r : Int) + max n 1 ≤ ((lns p).length : Int) then (((whl p r (r + (max n 1).toNat - 1)).1 : Int), ((whl p r (r + (max n 1).toNat - 1)).2 : Int), true, true) else (0, 0, false, false)
theorem object_Count_spec (p : List Int) (hb : Bytes p) (hp : p.length ≤ 1000000) (a n : Int) (h0 : -9223372036854775808 ≤ n) (h1 : n ≤ 9223372036854775807) (k : Nat) (hk : 2 * p.length + 4 < k) : object_Count.f k p a n = some (cntL p (row p (clip p a)) n) := by
 have hr := row_lt p (clip p a)
 have hcnt := lns_count p
 have hnl := nls_le p
 unfold object_Count.f
 rw [lines_Of_spec p hb, Option.bind_some]
 generalize row p (clip p a) = r at *
 have e : mx n 1 = max n 1 := by unfold mx; split <;> omega
 rw [e, lines_Whole_spec p hb (by omega) _ _ k hk, Option.bind_some]
 clear e
 generalize hm : max n 1 = m at *
 have hm1 : 1 ≤ m := by omega
 have hm2 : m ≤ 9223372036854775807 := by omega
 unfold cntL
 rw [hm]
 by_cases h : (r : Int) + m ≤ ((lns p).length : Int)
 ·have hw : wrap64 (wrap64 ((r : Int) + m) - 1) = ((r + m.toNat - 1 : Nat) : Int) := by
   have hwa : wrap64 ((r : Int) + m) = (r : Int) + m := wid (by omega) (by omega)
   rw [hwa]; clear hwa; rw [wid (by omega) (by omega)]; omega
  rw [if_pos h, hw]
  clear hw
  rw [whole_nat (p := p) (show r ≤ r + m.toNat - 1 by omega) (by omega)]
  rfl
 ·rw [if_neg h]
  have hw : wrap64 (wrap64 ((r : Int) + m) - 1) < 0 ∨ ((lns p).length : Int) ≤ wrap64 (wrap64 ((r : Int) + m) - 1) := by
   by_cases g : (r : Int) + m ≤ 9223372036854775807
   ·right
    have hwa : wrap64 ((r : Int) + m) = (r : Int) + m := wid (by omega) (by omega)
    rw [hwa]; clear hwa; rw [wid (by omega) (by omega)]; omega
   ·by_cases g2 : (r : Int) + m = 9223372036854775808
    ·right
     rw [g2]
     have : wrap64 (wrap64 9223372036854775808 - 1) = 9223372036854775807 := by unfold wrap64; omega
     rw [this]; omega
    ·left
     unfold wrap64
     omega
  have : whole p (r : Int) (wrap64 (wrap64 ((r : Int) + m) - 1)) = none := by
   generalize wrap64 (wrap64 ((r : Int) + m) - 1) = z at *
   unfold whole
   rw [if_neg (by omega)]
  rw [this]
  rfl
theorem glyph_Blank_spec (c : Int) : glyph_Blank.f c = some (decide (c = 32 ∨ c = 9)) := by
 unfold glyph_Blank.f
 split
 ·simp [*]
 ·rw [Option.some_inj, Bool.eq_iff_iff]; simp; omega
theorem words_Class_spec (c : Int) : words_Class.f c = some (cls c) := by
 unfold words_Class.f cls
 rw [glyph_Blank_spec, Option.bind_some]
 simp only [decide_eq_true_eq]
 repeat' split
 all_goals first | rfl | (exfalso; omega)
theorem words_Runs_l0 (p : List Int) (hp : p.length ≤ 1000000) (m : Nat) : ∀ (k i : Nat), i + m = p.length → m < k →
  words_Runs.l0 k p ((rn 0 (p.take i)).map mk) (i : Int) = some ((rn 0 p).map mk) := by
 induction m with
 | zero =>
  intro k i hi hk
  obtain ⟨k, rfl⟩ := ex_succ hk
  rw [words_Runs.l0, if_neg (by omega), List.take_of_length_le (by omega)]
 | succ m ih =>
  intro k i hi hk
  obtain ⟨k, rfl⟩ := ex_succ hk
  have hlt : i < p.length := by omega
  have hnext := ih k (i + 1) (by omega) (by omega)
  rw [List.take_succ_eq_append_getElem hlt] at hnext
  have hw1 : wrap64 ((i : Int) + 1) = ((i + 1 : Nat) : Int) := wnat (by omega)
  rw [words_Runs.l0, hw1]
  clear hw1
  rw [if_pos (by omega)]
  by_cases h0 : i = 0
  ·subst h0
   have e0 : (rn 0 (p.take 0)).map mk = [] := rfl
   rw [List.take_zero, List.nil_append, rn_one] at hnext
   rw [e0, if_neg (by simp [wrap64]), if_pos (by simp)]
   exact hnext
  ·have hne : p.take i ≠ [] := by intro e; have := congrArg List.length e; simp only [List.length_take, List.length_nil] at this; omega
   obtain ⟨l, a, n, h1, h2⟩ := rn_snoc (p.take i) p[i] 0 hne
   have hl1 := rn_length (p.take i) 0
   rw [h1] at hl1
   simp only [List.length_append, List.length_cons, List.length_nil, List.length_take] at hl1
   have hmem := rn_mem (p.take i) (a, n) (by rw [h1]; simp)
   simp only [List.length_take] at hmem
   have hnb : n ≤ 1000000 := by have := hmem.2; omega
   have hi1 : i - 1 < p.length := by omega
   rw [take_last p i (by omega) (by omega) hne] at h2
   simp only [List.length_take, Nat.zero_add] at h2
   rw [show min i p.length = i by omega] at h2
   rw [h2] at hnext
   rw [h1]
   have hll : l.length ≤ 1000000 := by omega
   have hlen : wrap64 ((((l ++ [(a, n)]).map mk).length : Int) - 1) = (l.length : Int) := by
    rw [show (((l ++ [(a, n)]).map mk).length : Int) - 1 = (l.length : Int) by simp]
    exact wid (by omega) (by omega)
   have hwi : wrap64 ((i : Int) - 1) = ((i - 1 : Nat) : Int) := by
    clear hlen
    rw [show (i : Int) - 1 = ((i - 1 : Nat) : Int) by omega]; exact wid (by omega) (by omega)
   have hrd : rd_T27 ((l ++ [(a, n)]).map mk) (l.length : Int) = mk (a, n) := by
    rw [rd_mk _ _ (by simp)]; simp
   have hlen2 : (((l ++ [(a, n)]).map mk).length : Int) = ((l.length + 1 : Nat) : Int) := by simp
   have hw1 : wrap64 ((mk (a, n)).f1 + 1) = ((n + 1 : Nat) : Int) := by clear hlen hwi; exact wnat (n := n) (by omega)
   have hcap : ((l ++ [(a, n)]).map mk).length < 8796093022208 := by
    clear hlen hwi hw1
    simp only [List.length_map, List.length_append, List.length_cons, List.length_nil]; omega
   rw [hlen, hwi, hrd, hw1, if_pos hcap, hlen2]
   clear hlen hwi hw1 hlen2
   rw [if_pos (by omega), if_pos (by omega), rd_nat p i hlt, words_Class_spec, Option.bind_some, if_pos (by omega), if_pos (by omega), rd_nat p (i - 1) hi1, words_Class_spec, Option.bind_some]
   by_cases hc : cls p[i - 1] = cls p[i]
   ·rw [if_pos hc] at hnext
    have hset : ((l ++ [(a, n)]).map mk).set ((l.length : Int)).toNat (⟨(mk (a, n)).f0, ((n + 1 : Nat) : Int)⟩ : S27) = (l ++ [(a, n + 1)]).map mk := by simp [mk]
    rw [if_pos hc.symm, if_pos (by omega), if_pos (by omega), hset]
    exact hnext
   ·rw [if_neg hc] at hnext
    have hset : ((l ++ [(a, n)]).map mk) ++ [(⟨(i : Int), 1⟩ : S27)] = (l ++ [(a, n)] ++ [(i, 1)]).map mk := by simp [mk]
    rw [if_neg (fun e => hc e.symm), hset]
    exact hnext
theorem words_Runs_spec (p : List Int) (hp : p.length ≤ 1000000) (k : Nat) (hk : p.length < k) : words_Runs.f k p = some ((rn 0 p).map mk) := by
 have := words_Runs_l0 p hp p.length k 0 (by omega) hk
 simpa [words_Runs.f, rn] using this
def innR (o : Option NN) : Int × Int × Bool × Int := match o with
 | some x => ((x.1 : Int), (x.2 : Int), false, 0)
 | none => (0, 0, false, 2)
theorem object_Inner_l0 (p : List Int) (hp : p.length ≤ 1000000) (a : Int) (L : List NN) (hL : ∀ x ∈ L, 1 ≤ x.2 ∧ x.1 + x.2 ≤ p.length) (hn : L.length ≤ 1000000000) (m : Nat) : ∀ (k i : Nat), i + m = L.length → m < k →
  object_Inner.l0 k p a (L.map mk) (L.length : Int) (i : Int) = some (innR (inn p a (L.drop i))) := by
 induction m with
 | zero =>
  intro k i hi hk
  obtain ⟨k, rfl⟩ := ex_succ (n := 0) (k := k) (by omega)
  rw [object_Inner.l0, if_neg (by omega), List.drop_eq_nil_of_le (by omega)]
  rfl
 | succ m ih =>
  intro k i hi hk
  obtain ⟨k, rfl⟩ := ex_succ (n := 0) (k := k) (by omega)
  have hlt : i < L.length := by omega
  have hx := hL L[i] (List.getElem_mem hlt)
  have hn' := ih k (i + 1) (by omega) (by omega)
  have hw : wrap64 ((i : Int) + 1) = ((i + 1 : Nat) : Int) := wnat (by omega)
  have hw2 : wrap64 ((L[i].1 : Int) + (L[i].2 : Int)) = ((L[i].1 + L[i].2 : Nat) : Int) := by clear hw; exact wadd (by omega)
  have hg : L[i].1 < p.length := by clear hw hw2; omega
  have hrd : rd p (L[i].1 : Int) = p.getD L[i].1 0 := by
   rw [rd_nat p _ hg]; simp [List.getD_eq_getElem?_getD, hg]
  rw [object_Inner.l0, List.length_map, rd_mk _ _ hlt, List.drop_eq_getElem_cons hlt, inn_cons]
  have m0 : (mk L[i]).f0 = (L[i].1 : Int) := rfl
  have m1 : (mk L[i]).f1 = (L[i].2 : Int) := rfl
  rw [m0, m1, hw2, hw, hrd, words_Class_spec, Option.bind_some]
  clear hw hw2 m0 m1 hrd
  rw [if_pos (by omega), if_pos (by omega), if_pos (by omega)]
  by_cases h1 : (L[i].1 : Int) ≤ a
  ·rw [if_pos (by omega)]
   by_cases h2 : a < ((L[i].1 + L[i].2 : Nat) : Int)
   ·rw [if_pos h2, if_pos (by omega), if_pos (by omega)]
    by_cases h3 : cls (p.getD L[i].1 0) = 1
    ·rw [if_pos h3, if_neg (fun h => h.2.2 h3)]
     exact hn'
    ·rw [if_neg h3, if_pos ⟨h1, h2, h3⟩]
     rfl
   ·rw [if_neg h2, if_neg (fun h => h2 h.2.1)]
    exact hn'
  ·rw [if_neg (by omega), if_neg (fun h => h1 h.1)]
   exact hn'
theorem object_Inner_w (p : List Int) (hp : p.length ≤ 1000000) (a : Int) (k : Nat) (hk : p.length < k) : object_Inner.f k p a 119 = some (innR (inn p a (rn 0 p))) := by
 have h1 := rn_length p 0
 unfold object_Inner.f
 rw [if_pos rfl, words_Runs_spec p hp k hk, Option.bind_some, List.length_map]
 have := object_Inner_l0 p hp a (rn 0 p) (rn_mem p) (by omega) (rn 0 p).length k 0 (by omega) (by omega)
 rw [List.drop_zero] at this
 exact this
theorem object_Inner_no (p : List Int) (a c : Int) (h1 : c ≠ 119) (h2 : c ≠ 112) (h3 : c ≠ 108) (k : Nat) : object_Inner.f k p a c = some (0, 0, false, 3) := by
 unfold object_Inner.f
 rw [if_neg h1, if_neg h2, if_neg h3]
theorem inner20_spec (k : Nat) (hk : 200 < k) : platenlaw20_inner.f k = some true := by
 have b1 : Bytes [97, 10, 98] := by intro x hx; simp at hx; omega
 have i1 := object_Inner_w [97, 98, 32, 99] (by decide) 1 k (by simp only [List.length_cons, List.length_nil]; omega)
 have i2 := object_Inner_no [97, 98, 32, 99] 1 122 (by decide) (by decide) (by decide) k
 have i3 := object_Count_spec [97, 10, 98] b1 (by decide) 0 2 (by decide) (by decide) k (by simp only [List.length_cons, List.length_nil]; omega)
 have v1 : innR (inn [97, 98, 32, 99] 1 (rn 0 [97, 98, 32, 99])) = (0, 2, false, 0) := by decide
 have v3 : cntL [97, 10, 98] (row [97, 10, 98] (clip [97, 10, 98] 0)) 2 = (0, 3, true, true) := by decide
 rw [v1] at i1; rw [v3] at i3
 unfold platenlaw20_inner.f
 rw [i1, Option.bind_some, i2, Option.bind_some, i3, Option.bind_some]
 rfl
theorem is_same (a b : Int) (c : Bool) : platenlaw20_is.f a b c a b c = some true := by
 unfold platenlaw20_is.f
 rw [if_pos rfl, if_pos rfl]
 simp
end Go.Proofs.YtcljafgpjoagpaaDoor.Ad
namespace Go.Proofs.YtcljafgpjoagpaaDoor.Pure
open Go Go.RowKit Go.Proofs.YtcljafgpjoagpaaDoor.Pa Go.Proofs.YtcljafgpjoagpaaDoorW.PrintWords Go.Proofs.YtcljafgpjoagpaaDoorW.PrintLast Go.Proofs.YtcljafgpjoagpaaDoorW.PrintMore Go.Proofs.YtcljafgpjoagpaaDoor.Gen Go.Proofs.YtcljafgpjoagpaaDoor.Ad
set_option linter.unusedVariables false
set_option linter.unusedSimpArgs false
theorem next_size (p : List Int) (hb : Bytes p) (hp : p.length ≤ 1000000) (i : Nat) (hi : i ≤ p.length) (k : Nat) (hk : 20 < k) : ∃ s : Int, glyph_Next.f k p (i : Int) = some s ∧ platenref01_Size.f k p (i : Int) = some s := by
 by_cases h : i < p.length
 ·exact ⟨_, glyph_Next_spec p hb i h k (by omega), platenref01_Size_spec p i h (by omega) k (by omega)⟩
 ·refine ⟨0, glyph_Next_out p _ (by omega) k, ?_⟩
  obtain ⟨k, rfl⟩ := ex_succ (n := 0) (k := k) (by omega)
  unfold platenref01_Size.f
  rw [if_neg (by omega), decide_eq_true (by omega), platenref01_Size.j0, if_pos rfl]
theorem between_same (p : List Int) (hb : Bytes p) (hp : p.length ≤ 200) (a b : Nat) (ha : a ≤ p.length) (hb2 : b ≤ p.length) (rows w : Bool) (k : Nat) (hk : 1000 < k) : ∃ x, object_Between.f k p (a : Int) (b : Int) rows w = some x ∧ platenref20_Between.f k p (a : Int) (b : Int) rows w = some x := by
 unfold object_Between.f platenref20_Between.f
 cases rows with
 | true =>
  rw [if_pos rfl, if_pos rfl, object_Lines_spec p hb (by omega) _ _ k (by omega), Option.bind_some, platenref20_Lines_spec p (by omega) _ _ k (by omega), Option.bind_some]
  exact ⟨_, rfl, rfl⟩
 | false =>
  rw [if_neg Bool.false_ne_true, if_neg Bool.false_ne_true]
  by_cases h : (b : Int) < (a : Int)
  ·have e1 : mn (a : Int) (b : Int) = (b : Int) := by unfold mn; split <;> omega
   have e2 : mx (a : Int) (b : Int) = (a : Int) := by unfold mx; split <;> omega
   rw [e1, e2, if_pos h]
   cases w with
   | true =>
    obtain ⟨s, h1, h2⟩ := next_size p hb (by omega) a ha k (by omega)
    rw [if_pos rfl, if_pos rfl, h1, Option.bind_some, h2, Option.bind_some]
    exact ⟨_, rfl, rfl⟩
   | false =>
    rw [if_neg Bool.false_ne_true, if_neg Bool.false_ne_true]
    exact ⟨_, rfl, rfl⟩
  ·have e1 : mn (a : Int) (b : Int) = (a : Int) := by unfold mn; split <;> omega
   have e2 : mx (a : Int) (b : Int) = (b : Int) := by unfold mx; split <;> omega
   rw [e1, e2, if_neg h]
   cases w with
   | true =>
    obtain ⟨s, h1, h2⟩ := next_size p hb (by omega) b hb2 k (by omega)
    rw [if_pos rfl, if_pos rfl, h1, Option.bind_some, h2, Option.bind_some]
    exact ⟨_, rfl, rfl⟩
   | false =>
    rw [if_neg Bool.false_ne_true, if_neg Bool.false_ne_true]
    exact ⟨_, rfl, rfl⟩
theorem ObjectBetween : platenlaw20_ObjectBetween.Pure := by
 intro p a b rows w _ _ hp ha hb
 have bp := bytes_of hp
 have ba := u8_of ha
 have bb := u8_of hb
 clear ha hb
 refine ⟨2002, ?_⟩
 unfold platenlaw20_ObjectBetween.f
 rw [inner20_spec 2002 (by omega), Option.bind_some, if_pos rfl]
 by_cases h : (p.length : Int) > 200
 ·rw [decide_eq_true h, platenlaw20_ObjectBetween.j0, if_pos rfl, inner20_spec 2001 (by omega), Option.bind_some]
 ·have ma : a.toNat % (p.length + 1) < p.length + 1 := Nat.mod_lt a.toNat (Nat.succ_pos p.length)
  have mb : b.toNat % (p.length + 1) < p.length + 1 := Nat.mod_lt b.toNat (Nat.succ_pos p.length)
  obtain ⟨x, h1, h2⟩ := between_same p bp (by omega) (a.toNat % (p.length + 1)) (b.toNat % (p.length + 1)) (by omega) (by omega) rows w 2001 (by omega)
  rw [decide_eq_false h, platenlaw20_ObjectBetween.j0, if_neg (by simp), place_spec p (by omega) b bb.1 bb.2, Option.bind_some, place_spec p (by omega) a ba.1 ba.2, Option.bind_some, h1, Option.bind_some, Option.bind_some, h2, Option.bind_some, is_same, Option.bind_some]
end Go.Proofs.YtcljafgpjoagpaaDoor.Pure
