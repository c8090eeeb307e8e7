/- unicode/utf8.decodeRuneSlow over bytes, valid or not: its own text walked; after the kit's worked walk of DecodeRuneInString. -/
import Derived.Test.YtloafpnniooliaaDoorExtTabs
import Derived.WalkKit
import Derived.Lib.Walk
import Derived.Laws.BitsLemmas
import Derived.Test.YtloafpnniooliaaDoorWMore
namespace Go.Proofs.YtloafpnniooliaaDoor.Pa
open Go Go.RowKit Go.Proofs.YtloafpnniooliaaDoorW.PrintWords Go.Proofs.YtloafpnniooliaaDoorW.PrintLast Go.Proofs.YtloafpnniooliaaDoorW.PrintMore Go.Lib
set_option linter.unusedVariables false
set_option linter.unusedSimpArgs false

theorem mask240 : wrap32 515396075520 / 2147483648 = 0 := by unfold wrap32; omega
theorem mask241 : wrap32 517543559168 / 2147483648 = -1 := by unfold wrap32; omega
set_option maxRecDepth 100000 in
theorem keep_byte : ∀ x : Fin 256, bits .or .i32 (bits .andNot .i32 ((x.val : Nat) : Int) 0) (bits .and .i32 65533 0) = ((x.val : Nat) : Int) := by decide
set_option maxRecDepth 100000 in
theorem drop_byte : ∀ x : Fin 256, bits .or .i32 (bits .andNot .i32 ((x.val : Nat) : Int) (-1)) (bits .and .i32 65533 (-1)) = 65533 := by decide
theorem firstT_cases (b : Nat) : firstT b = 240 ∨ firstT b = 241 ∨ firstT b = 2 ∨ firstT b = 19 ∨ firstT b = 3 ∨ firstT b = 35 ∨ firstT b = 52 ∨ firstT b = 4 ∨ firstT b = 68 := by
  unfold firstT
  repeat' split
  all_goals simp

/-- The bytes of a slice that is read, one by one. -/
theorem cell_at {w : World} {A : Option Addr} {l : List Int} (h : Kd.C (Kd.int .u8) w A l.length l) (hp : 0 < l.length) :
    ∃ ad, A = some ad ∧ ∀ j, j < l.length → w.cell? (ad.add j) = some (.int .u8 (l.getD j 0)) := by
  obtain ⟨ad, e, h0⟩ := Kd.at_int h 0 (by omega) (by omega)
  refine ⟨ad, e, fun j hj => ?_⟩
  obtain ⟨ad', e', h1⟩ := Kd.at_int h (j : Int) (by omega) (by omega)
  rw [e] at e'
  cases e'
  simpa [rd] using h1

/-- The bytes of a list as numbers below 256, as far as the decoder looks. -/
theorem bytes4 {l : List Int} (h : (l.take 4).all byteB = true) (j : Nat) (hj : j < 4) : ∃ n : Nat, n < 256 ∧ l.getD j 0 = (n : Int) := by
  by_cases hl : j < l.length
  · have hm : l[j] ∈ l.take 4 := by
      rw [List.mem_take_iff_getElem]
      exact ⟨j, by omega, rfl⟩
    have := List.all_eq_true.1 h _ hm
    simp only [byteB, Bool.and_eq_true, decide_eq_true_eq] at this
    exact ⟨(l[j]).toNat, by omega, by simp [List.getD_eq_getElem?_getD, hl]; omega⟩
  · exact ⟨0, by omega, by simp [List.getD_eq_getElem?_getD, List.getElem?_eq_none (Nat.le_of_not_lt hl)]⟩

theorem len_cases (n : Nat) : n = 0 ∨ n = 1 ∨ n = 2 ∨ n = 3 ∨ 4 ≤ n := by omega

set_option maxHeartbeats 8000000 in
set_option maxRecDepth 1000000 in
theorem utf8_decodeRuneSlow.calls (A0 : Option Addr) (c0 : Nat) (l0 : List Int) (r1 r2 : Int) (w : World) (hT : Tabs w) (hr0 : Kd.C (Kd.int .u8) w A0 l0.length l0) (hc0 : l0.length ≤ c0) (h : utf8_decodeRuneSlow.f l0 = some (r1, r2)) :
    Calls Tryd.prog 69 #[.slice A0 l0.length c0] w fun e w' => e = .returned (.tuple #[.int .i32 r1, .int .i64 r2]) ∧ Below w.heap.size w w' := by
  unfold utf8_decodeRuneSlow.f at h
  by_cases hB : (l0.take 4).all byteB = true
  · rw [if_pos hB] at h
    obtain ⟨rfl, rfl⟩ := Prod.mk.inj (Option.some.inj h)
    clear h
    by_cases h0 : l0.length = 0
    · have hz : (l0.length : Int) < 1 := by omega
      have hd : decL l0 = (65533, 0) := by simp [decL, h0]
      rw [hd]
      have hz2 : decide ((l0.length : Int) < 1) = true := decide_eq_true hz
      clear hd
      go_enter Tryd.func69, Tryd.ntmps69
      go_wp2
      go_ret2
      exact ⟨rfl, Below.refl _ _⟩
    · obtain ⟨ad, rfl, hcell⟩ := cell_at hr0 (by omega)
      obtain ⟨b0, l0', e0⟩ := bytes4 hB 0 (by omega)
      obtain ⟨b1, l1', e1⟩ := bytes4 hB 1 (by omega)
      obtain ⟨b2, l2', e2⟩ := bytes4 hB 2 (by omega)
      obtain ⟨b3, l3', e3⟩ := bytes4 hB 3 (by omega)
      have hdec : decL l0 = decodeN l0.length b0 b1 b2 b3 := by
        simp only [decL, h0, if_false, e0, e1, e2, e3, Int.toNat_natCast]
      rw [hdec]
      clear hdec
      have hx0 : w.cell? ad = some (.int .u8 (b0 : Int)) := by have := hcell 0 (by omega); rw [e0, Addr.add_zero'] at this; exact this
      have hx1 : 1 < l0.length → w.cell? (ad.add 1) = some (.int .u8 (b1 : Int)) := fun hl => by have := hcell 1 hl; rw [e1] at this; exact this
      have hx2 : 2 < l0.length → w.cell? (ad.add 2) = some (.int .u8 (b2 : Int)) := fun hl => by have := hcell 2 hl; rw [e2] at this; exact this
      have hx3 : 3 < l0.length → w.cell? (ad.add 3) = some (.int .u8 (b3 : Int)) := fun hl => by have := hcell 3 hl; rw [e3] at this; exact this
      clear hcell e0 e1 e2 e3 hr0 hB
      have hc0' := hT.1 b0 l0'
      obtain ⟨n, hn⟩ : ∃ n, l0.length = n := ⟨_, rfl⟩
      rw [hn] at hx1 hx2 hx3 h0 hc0 ⊢
      clear hn
      have hz0 : (0 : Int) < (n : Int) := by omega
      have hz0' : ¬ ((n : Int) < 1) := by omega
      have hres : firstT b0 < 240 → decodeN n b0 b1 b2 b3 = slowN n b0 b1 b2 b3 (firstT b0 % 8) (accLo (firstT b0 / 16)) (accHi (firstT b0 / 16)) :=
        fun h => (Lib.slow_eq _ _ _ _ _ (by omega) (by omega) (by omega) (by omega) h).symm
      rcases firstT_cases b0 with hX | hX | hX | hX | hX | hX | hX | hX | hX
      · rw [Lib.ascii_eq _ _ _ _ _ hX]
        rw [hX] at hc0'
        clear hres hT hX hx1 hx2 hx3
        go_enter Tryd.func69, Tryd.ntmps69
        go_wp2
        rw [mask240, keep_byte ⟨b0, l0'⟩]
        go_ret2
        exact ⟨rfl, Below.refl _ _⟩
      · rw [Lib.bad_eq _ _ _ _ _ (by omega) hX]
        rw [hX] at hc0'
        clear hres hT hX hx1 hx2 hx3
        go_enter Tryd.func69, Tryd.ntmps69
        go_wp2
        rw [mask241, drop_byte ⟨b0, l0'⟩]
        go_ret2
        exact ⟨rfl, Below.refl _ _⟩
      all_goals replace hres := hres (by omega)
      · rw [hX] at hc0' hres
        have ha0 := (hT.2 0 (by omega)).1
        have ha1 := (hT.2 0 (by omega)).2
        simp only [accLo, accHi, Nat.reduceMul, Nat.reduceAdd, Nat.reduceEqDiff, if_true, if_false, Nat.reduceMod, Nat.reduceDiv] at ha0 ha1 hres
        rw [hres]
        clear hres hT hX
        by_cases hn : n < 2
        · have hnz : (n : Int) < 2 := by omega
          clear hx1 hx2 hx3
          go_enter Tryd.func69, Tryd.ntmps69
          go_wp2
          all_goals (go_ret2; refine ⟨?_, (Below.refl _ _).alloc (Nat.le_refl _) _⟩; unfold slowN; repeat' split)
          all_goals first | (exfalso; omega) | rfl | (simp only [Int.natCast_add, Int.natCast_mul, Int.natCast_emod, Int.natCast_ofNat]; rfl)
        · have hz1 : (1 : Int) < (n : Int) := by omega
          have hy1 := hx1 (by omega)
          simp only [Go.Addr.add, Nat.reduceEqDiff, ↓reduceIte] at hy1
          have ha4 : ∀ o, (w.alloc o).cell? ⟨ad.block, ad.off + 1, none⟩ = some (.int .u8 (b1 : Int)) := fun o => (World.cell?_alloc_lt w o _ (World.block_lt_of_cell? w _ hy1)).trans hy1
          clear hy1
          clear hx1 hx2 hx3
          go_enter Tryd.func69, Tryd.ntmps69
          go_wp2
          all_goals (go_ret2; refine ⟨?_, (Below.refl _ _).alloc (Nat.le_refl _) _⟩; unfold slowN; repeat' split)
          all_goals first | (exfalso; omega) | rfl | (simp only [Int.natCast_add, Int.natCast_mul, Int.natCast_emod, Int.natCast_ofNat]; rfl)
      · rw [hX] at hc0' hres
        have ha0 := (hT.2 1 (by omega)).1
        have ha1 := (hT.2 1 (by omega)).2
        simp only [accLo, accHi, Nat.reduceMul, Nat.reduceAdd, Nat.reduceEqDiff, if_true, if_false, Nat.reduceMod, Nat.reduceDiv] at ha0 ha1 hres
        rw [hres]
        clear hres hT hX
        by_cases hn : n < 3
        · have hnz : (n : Int) < 3 := by omega
          clear hx1 hx2 hx3
          go_enter Tryd.func69, Tryd.ntmps69
          go_wp2
          all_goals (go_ret2; refine ⟨?_, (Below.refl _ _).alloc (Nat.le_refl _) _⟩; unfold slowN; repeat' split)
          all_goals first | (exfalso; omega) | rfl | (simp only [Int.natCast_add, Int.natCast_mul, Int.natCast_emod, Int.natCast_ofNat]; rfl)
        · have hz1 : (1 : Int) < (n : Int) := by omega
          have hy1 := hx1 (by omega)
          simp only [Go.Addr.add, Nat.reduceEqDiff, ↓reduceIte] at hy1
          have ha4 : ∀ o, (w.alloc o).cell? ⟨ad.block, ad.off + 1, none⟩ = some (.int .u8 (b1 : Int)) := fun o => (World.cell?_alloc_lt w o _ (World.block_lt_of_cell? w _ hy1)).trans hy1
          clear hy1
          have hz2 : (2 : Int) < (n : Int) := by omega
          have hy2 := hx2 (by omega)
          simp only [Go.Addr.add, Nat.reduceEqDiff, ↓reduceIte] at hy2
          have ha5 : ∀ o, (w.alloc o).cell? ⟨ad.block, ad.off + 2, none⟩ = some (.int .u8 (b2 : Int)) := fun o => (World.cell?_alloc_lt w o _ (World.block_lt_of_cell? w _ hy2)).trans hy2
          clear hy2
          clear hx1 hx2 hx3
          go_enter Tryd.func69, Tryd.ntmps69
          go_wp2
          all_goals (go_ret2; refine ⟨?_, (Below.refl _ _).alloc (Nat.le_refl _) _⟩; unfold slowN; repeat' split)
          all_goals first | (exfalso; omega) | rfl | (simp only [Int.natCast_add, Int.natCast_mul, Int.natCast_emod, Int.natCast_ofNat]; rfl)
      · rw [hX] at hc0' hres
        have ha0 := (hT.2 0 (by omega)).1
        have ha1 := (hT.2 0 (by omega)).2
        simp only [accLo, accHi, Nat.reduceMul, Nat.reduceAdd, Nat.reduceEqDiff, if_true, if_false, Nat.reduceMod, Nat.reduceDiv] at ha0 ha1 hres
        rw [hres]
        clear hres hT hX
        by_cases hn : n < 3
        · have hnz : (n : Int) < 3 := by omega
          clear hx1 hx2 hx3
          go_enter Tryd.func69, Tryd.ntmps69
          go_wp2
          all_goals (go_ret2; refine ⟨?_, (Below.refl _ _).alloc (Nat.le_refl _) _⟩; unfold slowN; repeat' split)
          all_goals first | (exfalso; omega) | rfl | (simp only [Int.natCast_add, Int.natCast_mul, Int.natCast_emod, Int.natCast_ofNat]; rfl)
        · have hz1 : (1 : Int) < (n : Int) := by omega
          have hy1 := hx1 (by omega)
          simp only [Go.Addr.add, Nat.reduceEqDiff, ↓reduceIte] at hy1
          have ha4 : ∀ o, (w.alloc o).cell? ⟨ad.block, ad.off + 1, none⟩ = some (.int .u8 (b1 : Int)) := fun o => (World.cell?_alloc_lt w o _ (World.block_lt_of_cell? w _ hy1)).trans hy1
          clear hy1
          have hz2 : (2 : Int) < (n : Int) := by omega
          have hy2 := hx2 (by omega)
          simp only [Go.Addr.add, Nat.reduceEqDiff, ↓reduceIte] at hy2
          have ha5 : ∀ o, (w.alloc o).cell? ⟨ad.block, ad.off + 2, none⟩ = some (.int .u8 (b2 : Int)) := fun o => (World.cell?_alloc_lt w o _ (World.block_lt_of_cell? w _ hy2)).trans hy2
          clear hy2
          clear hx1 hx2 hx3
          go_enter Tryd.func69, Tryd.ntmps69
          go_wp2
          all_goals (go_ret2; refine ⟨?_, (Below.refl _ _).alloc (Nat.le_refl _) _⟩; unfold slowN; repeat' split)
          all_goals first | (exfalso; omega) | rfl | (simp only [Int.natCast_add, Int.natCast_mul, Int.natCast_emod, Int.natCast_ofNat]; rfl)
      · rw [hX] at hc0' hres
        have ha0 := (hT.2 2 (by omega)).1
        have ha1 := (hT.2 2 (by omega)).2
        simp only [accLo, accHi, Nat.reduceMul, Nat.reduceAdd, Nat.reduceEqDiff, if_true, if_false, Nat.reduceMod, Nat.reduceDiv] at ha0 ha1 hres
        rw [hres]
        clear hres hT hX
        by_cases hn : n < 3
        · have hnz : (n : Int) < 3 := by omega
          clear hx1 hx2 hx3
          go_enter Tryd.func69, Tryd.ntmps69
          go_wp2
          all_goals (go_ret2; refine ⟨?_, (Below.refl _ _).alloc (Nat.le_refl _) _⟩; unfold slowN; repeat' split)
          all_goals first | (exfalso; omega) | rfl | (simp only [Int.natCast_add, Int.natCast_mul, Int.natCast_emod, Int.natCast_ofNat]; rfl)
        · have hz1 : (1 : Int) < (n : Int) := by omega
          have hy1 := hx1 (by omega)
          simp only [Go.Addr.add, Nat.reduceEqDiff, ↓reduceIte] at hy1
          have ha4 : ∀ o, (w.alloc o).cell? ⟨ad.block, ad.off + 1, none⟩ = some (.int .u8 (b1 : Int)) := fun o => (World.cell?_alloc_lt w o _ (World.block_lt_of_cell? w _ hy1)).trans hy1
          clear hy1
          have hz2 : (2 : Int) < (n : Int) := by omega
          have hy2 := hx2 (by omega)
          simp only [Go.Addr.add, Nat.reduceEqDiff, ↓reduceIte] at hy2
          have ha5 : ∀ o, (w.alloc o).cell? ⟨ad.block, ad.off + 2, none⟩ = some (.int .u8 (b2 : Int)) := fun o => (World.cell?_alloc_lt w o _ (World.block_lt_of_cell? w _ hy2)).trans hy2
          clear hy2
          clear hx1 hx2 hx3
          go_enter Tryd.func69, Tryd.ntmps69
          go_wp2
          all_goals (go_ret2; refine ⟨?_, (Below.refl _ _).alloc (Nat.le_refl _) _⟩; unfold slowN; repeat' split)
          all_goals first | (exfalso; omega) | rfl | (simp only [Int.natCast_add, Int.natCast_mul, Int.natCast_emod, Int.natCast_ofNat]; rfl)
      · rw [hX] at hc0' hres
        have ha0 := (hT.2 3 (by omega)).1
        have ha1 := (hT.2 3 (by omega)).2
        simp only [accLo, accHi, Nat.reduceMul, Nat.reduceAdd, Nat.reduceEqDiff, if_true, if_false, Nat.reduceMod, Nat.reduceDiv] at ha0 ha1 hres
        rw [hres]
        clear hres hT hX
        by_cases hn : n < 4
        · have hnz : (n : Int) < 4 := by omega
          clear hx1 hx2 hx3
          go_enter Tryd.func69, Tryd.ntmps69
          go_wp2
          all_goals (go_ret2; refine ⟨?_, (Below.refl _ _).alloc (Nat.le_refl _) _⟩; unfold slowN; repeat' split)
          all_goals first | (exfalso; omega) | rfl | (simp only [Int.natCast_add, Int.natCast_mul, Int.natCast_emod, Int.natCast_ofNat]; rfl)
        · have hz1 : (1 : Int) < (n : Int) := by omega
          have hy1 := hx1 (by omega)
          simp only [Go.Addr.add, Nat.reduceEqDiff, ↓reduceIte] at hy1
          have ha4 : ∀ o, (w.alloc o).cell? ⟨ad.block, ad.off + 1, none⟩ = some (.int .u8 (b1 : Int)) := fun o => (World.cell?_alloc_lt w o _ (World.block_lt_of_cell? w _ hy1)).trans hy1
          clear hy1
          have hz2 : (2 : Int) < (n : Int) := by omega
          have hy2 := hx2 (by omega)
          simp only [Go.Addr.add, Nat.reduceEqDiff, ↓reduceIte] at hy2
          have ha5 : ∀ o, (w.alloc o).cell? ⟨ad.block, ad.off + 2, none⟩ = some (.int .u8 (b2 : Int)) := fun o => (World.cell?_alloc_lt w o _ (World.block_lt_of_cell? w _ hy2)).trans hy2
          clear hy2
          have hz3 : (3 : Int) < (n : Int) := by omega
          have hy3 := hx3 (by omega)
          simp only [Go.Addr.add, Nat.reduceEqDiff, ↓reduceIte] at hy3
          have ha6 : ∀ o, (w.alloc o).cell? ⟨ad.block, ad.off + 3, none⟩ = some (.int .u8 (b3 : Int)) := fun o => (World.cell?_alloc_lt w o _ (World.block_lt_of_cell? w _ hy3)).trans hy3
          clear hy3
          clear hx1 hx2 hx3
          go_enter Tryd.func69, Tryd.ntmps69
          go_wp2
          all_goals (go_ret2; refine ⟨?_, (Below.refl _ _).alloc (Nat.le_refl _) _⟩; unfold slowN; repeat' split)
          all_goals first | (exfalso; omega) | rfl | (simp only [Int.natCast_add, Int.natCast_mul, Int.natCast_emod, Int.natCast_ofNat]; rfl)
      · rw [hX] at hc0' hres
        have ha0 := (hT.2 0 (by omega)).1
        have ha1 := (hT.2 0 (by omega)).2
        simp only [accLo, accHi, Nat.reduceMul, Nat.reduceAdd, Nat.reduceEqDiff, if_true, if_false, Nat.reduceMod, Nat.reduceDiv] at ha0 ha1 hres
        rw [hres]
        clear hres hT hX
        by_cases hn : n < 4
        · have hnz : (n : Int) < 4 := by omega
          clear hx1 hx2 hx3
          go_enter Tryd.func69, Tryd.ntmps69
          go_wp2
          all_goals (go_ret2; refine ⟨?_, (Below.refl _ _).alloc (Nat.le_refl _) _⟩; unfold slowN; repeat' split)
          all_goals first | (exfalso; omega) | rfl | (simp only [Int.natCast_add, Int.natCast_mul, Int.natCast_emod, Int.natCast_ofNat]; rfl)
        · have hz1 : (1 : Int) < (n : Int) := by omega
          have hy1 := hx1 (by omega)
          simp only [Go.Addr.add, Nat.reduceEqDiff, ↓reduceIte] at hy1
          have ha4 : ∀ o, (w.alloc o).cell? ⟨ad.block, ad.off + 1, none⟩ = some (.int .u8 (b1 : Int)) := fun o => (World.cell?_alloc_lt w o _ (World.block_lt_of_cell? w _ hy1)).trans hy1
          clear hy1
          have hz2 : (2 : Int) < (n : Int) := by omega
          have hy2 := hx2 (by omega)
          simp only [Go.Addr.add, Nat.reduceEqDiff, ↓reduceIte] at hy2
          have ha5 : ∀ o, (w.alloc o).cell? ⟨ad.block, ad.off + 2, none⟩ = some (.int .u8 (b2 : Int)) := fun o => (World.cell?_alloc_lt w o _ (World.block_lt_of_cell? w _ hy2)).trans hy2
          clear hy2
          have hz3 : (3 : Int) < (n : Int) := by omega
          have hy3 := hx3 (by omega)
          simp only [Go.Addr.add, Nat.reduceEqDiff, ↓reduceIte] at hy3
          have ha6 : ∀ o, (w.alloc o).cell? ⟨ad.block, ad.off + 3, none⟩ = some (.int .u8 (b3 : Int)) := fun o => (World.cell?_alloc_lt w o _ (World.block_lt_of_cell? w _ hy3)).trans hy3
          clear hy3
          clear hx1 hx2 hx3
          go_enter Tryd.func69, Tryd.ntmps69
          go_wp2
          all_goals (go_ret2; refine ⟨?_, (Below.refl _ _).alloc (Nat.le_refl _) _⟩; unfold slowN; repeat' split)
          all_goals first | (exfalso; omega) | rfl | (simp only [Int.natCast_add, Int.natCast_mul, Int.natCast_emod, Int.natCast_ofNat]; rfl)
      · rw [hX] at hc0' hres
        have ha0 := (hT.2 4 (by omega)).1
        have ha1 := (hT.2 4 (by omega)).2
        simp only [accLo, accHi, Nat.reduceMul, Nat.reduceAdd, Nat.reduceEqDiff, if_true, if_false, Nat.reduceMod, Nat.reduceDiv] at ha0 ha1 hres
        rw [hres]
        clear hres hT hX
        by_cases hn : n < 4
        · have hnz : (n : Int) < 4 := by omega
          clear hx1 hx2 hx3
          go_enter Tryd.func69, Tryd.ntmps69
          go_wp2
          all_goals (go_ret2; refine ⟨?_, (Below.refl _ _).alloc (Nat.le_refl _) _⟩; unfold slowN; repeat' split)
          all_goals first | (exfalso; omega) | rfl | (simp only [Int.natCast_add, Int.natCast_mul, Int.natCast_emod, Int.natCast_ofNat]; rfl)
        · have hz1 : (1 : Int) < (n : Int) := by omega
          have hy1 := hx1 (by omega)
          simp only [Go.Addr.add, Nat.reduceEqDiff, ↓reduceIte] at hy1
          have ha4 : ∀ o, (w.alloc o).cell? ⟨ad.block, ad.off + 1, none⟩ = some (.int .u8 (b1 : Int)) := fun o => (World.cell?_alloc_lt w o _ (World.block_lt_of_cell? w _ hy1)).trans hy1
          clear hy1
          have hz2 : (2 : Int) < (n : Int) := by omega
          have hy2 := hx2 (by omega)
          simp only [Go.Addr.add, Nat.reduceEqDiff, ↓reduceIte] at hy2
          have ha5 : ∀ o, (w.alloc o).cell? ⟨ad.block, ad.off + 2, none⟩ = some (.int .u8 (b2 : Int)) := fun o => (World.cell?_alloc_lt w o _ (World.block_lt_of_cell? w _ hy2)).trans hy2
          clear hy2
          have hz3 : (3 : Int) < (n : Int) := by omega
          have hy3 := hx3 (by omega)
          simp only [Go.Addr.add, Nat.reduceEqDiff, ↓reduceIte] at hy3
          have ha6 : ∀ o, (w.alloc o).cell? ⟨ad.block, ad.off + 3, none⟩ = some (.int .u8 (b3 : Int)) := fun o => (World.cell?_alloc_lt w o _ (World.block_lt_of_cell? w _ hy3)).trans hy3
          clear hy3
          clear hx1 hx2 hx3
          go_enter Tryd.func69, Tryd.ntmps69
          go_wp2
          all_goals (go_ret2; refine ⟨?_, (Below.refl _ _).alloc (Nat.le_refl _) _⟩; unfold slowN; repeat' split)
          all_goals first | (exfalso; omega) | rfl | (simp only [Int.natCast_add, Int.natCast_mul, Int.natCast_emod, Int.natCast_ofNat]; rfl)
  · rw [if_neg hB] at h
    cases h

end Go.Proofs.YtloafpnniooliaaDoor.Pa
