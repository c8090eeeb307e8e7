-- Laid by a program of this claim's own (wip/tools/mkprint.py, ext.py): walks of the functions that the statements reach.
import Derived.Test.YtloafpnniooliaaDoorPax0
import Derived.Test.YtloafpnniooliaaDoorPax2
import Derived.Test.YtloafpnniooliaaDoorPax3
import Derived.Test.YtloafpnniooliaaDoorPax4
import Derived.Test.YtloafpnniooliaaDoorPax6
namespace Go.Proofs.YtloafpnniooliaaDoor.Pa
open Go.RowKit Go.Proofs.YtloafpnniooliaaDoor.Ext Go.Proofs.YtloafpnniooliaaDoorW.PrintWords Go.Proofs.YtloafpnniooliaaDoorW.PrintLast Go.Proofs.YtloafpnniooliaaDoorW.PrintMore
attribute [local go_sem] max2_int min2_int max_two min_two max_three min_three max_four min_four   -- for this text's walks alone
set_option linter.unusedVariables false
set_option linter.unusedSimpArgs false

/-! ### words_Back: function 38 -/
mutual
def words_Back.j0 : Nat → List Int → Int → Bool → Option (Int × Bool)
  | 0, _, _, _ => none
  | k + 1, x0, x1, x16 => if x16 = true then (some (0, false)) else ((words_Runs.f k x0).bind fun t201 => (words_Back.l0 k x0 x1 0 t201 (t201.length : Int) 0))
def words_Back.l0 : Nat → List Int → Int → Int → List (S39) → Int → Int → Option (Int × Bool)
  | 0, _, _, _, _, _, _ => none
  | k + 1, x0, x1, x6, x18, x19, x20 => if x20 < x19 then (if 0 ≤ x20 then (if x20 < (x18.length : Int) then (if ((rd_T39 x18 x20).f0) < x1 then (if 0 ≤ ((rd_T39 x18 x20).f0) then (if ((rd_T39 x18 x20).f0) < (x0.length : Int) then ((words_Class.f (rd x0 ((rd_T39 x18 x20).f0))).bind fun t207 => ((words_empty.f t207).bind fun t208 => (if t208 = true then (words_Back.l0 k x0 x1 x6 x18 x19 (wrap64 (x20 + 1))) else (words_Back.l0 k x0 x1 ((rd_T39 x18 x20).f0) x18 x19 (wrap64 (x20 + 1)))))) else (none)) else (none)) else (words_Back.l0 k x0 x1 x6 x18 x19 (wrap64 (x20 + 1)))) else (none)) else (none)) else (some (x6, true))
end
def words_Back.f (k : Nat) (l0 : List Int) (a1 : Int) : Option (Int × Bool) := if a1 ≤ 0 then (words_Back.j0 k l0 a1 true) else (words_Back.j0 k l0 a1 (decide (a1 > (l0.length : Int))))
theorem words_Back.mono_l : ∀ k, (∀ y0 y1 y2, LeO (words_Back.j0 k y0 y1 y2) (words_Back.j0 (k + 1) y0 y1 y2)) ∧ (∀ y0 y1 y2 y3 y4 y5, LeO (words_Back.l0 k y0 y1 y2 y3 y4 y5) (words_Back.l0 (k + 1) y0 y1 y2 y3 y4 y5))
  | 0 => ⟨fun _ _ _ r h => by simp [words_Back.j0] at h, fun _ _ _ _ _ _ r h => by simp [words_Back.l0] at h⟩
  | k + 1 => by
    obtain ⟨ih0, ih1⟩ := words_Back.mono_l k
    refine ⟨?_, ?_⟩
    · intro y0 y1 y2
      unfold words_Back.j0
      repeat' first
      | (with_reducible exact ih0 _ _ _)
      | (with_reducible exact ih1 _ _ _ _ _ _)
      | (with_reducible exact words_Runs.mono _ _)
      | (with_reducible exact LeO.refl _)
      | (with_reducible exact LeO.none _)
      | (with_reducible refine LeO.ite ?_ ?_)
      | (with_reducible refine LeO.bind ?_ (fun _ => ?_))
      | exact ih0 _ _ _
      | exact ih1 _ _ _ _ _ _
      | exact words_Runs.mono _ _
      | exact LeO.none _
      | refine LeO.ite ?_ ?_
      | refine LeO.bind ?_ (fun _ => ?_)
    · intro y0 y1 y2 y3 y4 y5
      unfold words_Back.l0
      repeat' first
      | (with_reducible exact ih0 _ _ _)
      | (with_reducible exact ih1 _ _ _ _ _ _)
      | (with_reducible exact words_Runs.mono _ _)
      | (with_reducible exact LeO.refl _)
      | (with_reducible exact LeO.none _)
      | (with_reducible refine LeO.ite ?_ ?_)
      | (with_reducible refine LeO.bind ?_ (fun _ => ?_))
      | exact ih0 _ _ _
      | exact ih1 _ _ _ _ _ _
      | exact words_Runs.mono _ _
      | exact LeO.none _
      | refine LeO.ite ?_ ?_
      | refine LeO.bind ?_ (fun _ => ?_)
theorem words_Back.mono : ∀ a0 a1 k, LeO (words_Back.f k a0 a1) (words_Back.f (k + 1) a0 a1) := by
  intro a0 a1 k
  obtain ⟨ih0, ih1⟩ := words_Back.mono_l k
  unfold words_Back.f
  repeat' first
      | (with_reducible exact ih0 _ _ _)
      | (with_reducible exact ih1 _ _ _ _ _ _)
      | (with_reducible exact words_Runs.mono _ _)
      | (with_reducible exact LeO.refl _)
      | (with_reducible exact LeO.none _)
      | (with_reducible refine LeO.ite ?_ ?_)
      | (with_reducible refine LeO.bind ?_ (fun _ => ?_))
      | exact ih0 _ _ _
      | exact ih1 _ _ _ _ _ _
      | exact words_Runs.mono _ _
      | exact LeO.none _
      | refine LeO.ite ?_ ?_
      | refine LeO.bind ?_ (fun _ => ?_)
set_option maxHeartbeats 8000000 in
set_option maxRecDepth 100000 in
theorem words_Back.calls (k : Nat) (A0 : Option Addr) (c0 : Nat) (l0 : List Int) (a1 : Int) (r1 : Int) (r2 : Bool) (w : World) (hr0 : Kd.C (Kd.int .u8) w A0 l0.length l0) (hc0 : l0.length ≤ c0) (h : words_Back.f k l0 a1 = some (r1, r2)) :
  Calls Tryd.prog 38 #[.slice A0 l0.length c0, .int .i64 a1] w fun e w' => e = .returned (.tuple #[.int .i64 r1, .bool r2]) ∧ Below w.heap.size w w' := by
 have hu39 := Tryd.underlying39
 have HR0 := Aside0.mk hr0
 have HC0 := Aside0.mk hc0
 clear hr0 hc0
 have HB := Aside0.mk (Below.refl w.heap.size w)
 have H : (if a1 ≤ 0 then (words_Back.j0 k l0 a1 true) else (words_Back.j0 k l0 a1 (decide (a1 > (l0.length : Int))))) = some (r1, r2) := h
 clear h
 have HC3 := Aside0.mk H
 clear H
 go_enter Tryd.func38, Tryd.ntmps38
 go_upto_region 1 with (fail)
 go_cut [16] (fun v16 wc => ∃ (kq : Nat) (x16_2 : Bool), v16 = .bool x16_2 ∧ Aside0 (words_Back.j0 kq l0 a1 x16_2 = some (r1, r2)) ∧ Aside0 (kq ≤ k) ∧ Aside0 (Below w.heap.size w wc))
 case first =>
  have H := HC3.out
  clear HC3
  by_cases c4 : a1 ≤ 0
  ·rw [if_pos c4] at H
   have c4b0 : decide (a1 ≤ 0) = true := decide_eq_true c4
   clear c4
   (first | rw [c4b0] | (simp only [i64_w, i32_w]; rw [c4b0]) | skip)
   have H' := Aside0.mk H
   clear H
   go_wp2
   go_meet
   case rel => exact ⟨_, (true), (by first | rfl | (simp; done) | (simp [*]; done)), H', ⟨by first | omega | exact Nat.le_refl _⟩, ⟨by repeat (first | exact HB.out | apply bA | apply bN | apply bD)⟩⟩
  ·rw [if_neg c4] at H
   have c4b0 : decide (a1 ≤ 0) = false := decide_eq_false c4
   clear c4
   (first | rw [c4b0] | (simp only [i64_w, i32_w]; rw [c4b0]) | skip)
   have H' := Aside0.mk H
   clear H
   go_wp2
   go_meet
   case rel => exact ⟨_, (decide (a1 > (l0.length : Int))), (by first | rfl | (simp; done) | (simp [*]; done)), H', ⟨by first | omega | exact Nat.le_refl _⟩, ⟨by repeat (first | exact HB.out | apply bA | apply bN | apply bD)⟩⟩
 case rest =>
  clear HC3
  try clear p2
  try clear c3
  try clear c4
  try clear c4b0
  obtain ⟨kq, x16_2, rfl, HA, HJ2, HB⟩ := hcut
  cases kq with
  | zero => exact absurd HA.out (by simp [words_Back.j0])
  | succ kj2 =>
   have H := HA.out
   clear HA
   simp only [words_Back.j0] at H
   by_cases c5 : x16_2 = true
   ·subst c5
    have H1 : (some (0, false)) = some (r1, r2) := by rw [if_pos rfl] at H; exact H
    clear H
    have H := H1
    clear H1
    simp only [Option.some.injEq, Prod.mk.injEq] at H
    obtain ⟨rfl, rfl⟩ := H
    go_wp2
    go_ret2
    exact ⟨by first | rfl | (simp [errW_none, errW_some] <;> rfl) | (simp [*, errW_none, errW_some] <;> rfl), by repeat (first | exact HB.out | apply bA | apply bN | apply bD)⟩
   ·replace c5 := Bool.eq_false_iff.mpr c5
    subst c5
    have H1 : ((words_Runs.f kj2 l0).bind fun t201 => (words_Back.l0 kj2 l0 a1 0 t201 (t201.length : Int) 0)) = some (r1, r2) := by rw [if_neg (show ¬ (false = true) by decide)] at H; exact H
    clear H
    have H := H1
    clear H1
    replace H := Option.bind_eq_some_iff.mp H
    obtain ⟨t201, A60, H⟩ := H
    replace H : (words_Back.l0 kj2 l0 a1 0 t201 (t201.length : Int) 0) = some (r1, r2) := H
    have A6 := Aside0.mk A60
    clear A60
    have H' := Aside0.mk H
    clear H
    go_wp2_with (first | ((with_reducible refine gate_callee (f := 60) rfl ?_); refine goesL_ (some 18) rfl rfl Tryd.func60 (by kernel_rfl) rfl #[.slice A0 l0.length c0] rfl (by (try simp only [List.map_toArray, List.map_cons, List.map_nil]); first | done | rfl | (simp only [List.length_drop, List.length_take]; rfl)) ?_; (with_reducible refine (words_Runs.calls kj2 _ _ l0 t201 _ ?side1 ?side2 A6.out).mono ?_); (case side1 => repeat (first | exact (Kd.C_below HR0.out HB.out) | (with_reducible refine Kd.C_alloc ?_ _) | (with_reducible refine Kd.C_drewN ?_ _) | (with_reducible refine Kd.C_drew ?_))); (case side2 => exact HC0.out); rintro e w7 ⟨v202, rfl, ho0, hb⟩; refine ⟨_, rfl, ?_⟩; have n0_ := Aside0.mk (Kd.R_lower ho0 (below_size (by repeat (first | exact HB.out | apply bA | apply bN | apply bD)))); have n1_ := Aside0.mk (below_step (by repeat (first | exact HB.out | apply bA | apply bN | apply bD)) hb); clear HB; have HO203 := n0_; have HB := n1_; clear n0_ n1_; (try clear hb); (try clear hb2); (try clear hk); (try clear hi); (try clear ho0); obtain ⟨Ao8, co8, eo8⟩ := Kd.R_slice HO203.out; subst eo8))
    go_loopg [6, 20] kj2 (fun kq v6 v20 w' => ∃ (x6_2 : Int) (x20_2 : Int), v6 = .int .i64 x6_2 ∧ v20 = .int .i64 x20_2 ∧ Aside0 (words_Back.l0 kq l0 a1 x6_2 t201 (t201.length : Int) x20_2 = some (r1, r2)) ∧ Aside0 (kq ≤ kj2) ∧ Aside0 (Kd.R k39 39 w' w.heap.size (fun _ => True) (.slice Ao8 t201.length co8) t201) ∧ Aside0 (Below w.heap.size w w'))
    case atStart => exact ⟨(0), (0), (by first | rfl | (simp; done) | (simp [*]; done)), (by first | rfl | (simp; done) | (simp [*]; done)), H', ⟨Nat.le_refl _⟩, ⟨by (with_reducible repeat (first | apply Kd.R_alloc | apply Kd.R_drewN | apply Kd.R_drew)); exact HO203.out⟩, ⟨by repeat (first | exact HB.out | apply bA | apply bN | apply bD)⟩⟩
    case round =>
     clear H'
     try clear p2
     try clear c3
     try clear c4
     try clear c4b0
     try clear c5
     try clear c6
     try clear p2
     obtain ⟨x6_2, x20_2, rfl, rfl, HA, HK2, HO_18, HB⟩ := hrel
     cases gk with
     | zero => exact absurd HA.out (by simp [words_Back.l0])
     | succ k2 =>
      have H := HA.out
      clear HA
      simp only [words_Back.l0] at H
      by_cases c9 : x20_2 < (t201.length : Int)
      ·rw [if_pos c9] at H
       have c9b0 : decide (x20_2 < (t201.length : Int)) = true := decide_eq_true c9
       clear c9
       by_cases c10 : 0 ≤ x20_2
       ·rw [if_pos c10] at H
        have c10b0 : decide (0 ≤ x20_2) = true := decide_eq_true c10
        clear c10
        by_cases c11 : x20_2 < (t201.length : Int)
        ·rw [if_pos c11] at H
         have c11b0 : decide (x20_2 < (t201.length : Int)) = true := decide_eq_true c11
         clear c11
         by_cases c12 : ((rd_T39 t201 x20_2).f0) < a1
         ·rw [if_pos c12] at H
          have c12b0 : decide (((rd_T39 t201 x20_2).f0) < a1) = true := decide_eq_true c12
          clear c12
          by_cases c13 : 0 ≤ ((rd_T39 t201 x20_2).f0)
          ·rw [if_pos c13] at H
           have c13b0 : decide (0 ≤ ((rd_T39 t201 x20_2).f0)) = true := decide_eq_true c13
           clear c13
           by_cases c14 : ((rd_T39 t201 x20_2).f0) < (l0.length : Int)
           ·rw [if_pos c14] at H
            have c14b0 : decide (((rd_T39 t201 x20_2).f0) < (l0.length : Int)) = true := decide_eq_true c14
            clear c14
            replace H := Option.bind_eq_some_iff.mp H
            obtain ⟨t207, A150, H⟩ := H
            replace H : ((words_empty.f t207).bind fun t208 => (if t208 = true then (words_Back.l0 k2 l0 a1 x6_2 t201 (t201.length : Int) (wrap64 (x20_2 + 1))) else (words_Back.l0 k2 l0 a1 ((rd_T39 t201 x20_2).f0) t201 (t201.length : Int) (wrap64 (x20_2 + 1))))) = some (r1, r2) := H
            have A15 := Aside0.mk A150
            clear A150
            replace H := Option.bind_eq_some_iff.mp H
            obtain ⟨t208, A160, H⟩ := H
            replace H : (if t208 = true then (words_Back.l0 k2 l0 a1 x6_2 t201 (t201.length : Int) (wrap64 (x20_2 + 1))) else (words_Back.l0 k2 l0 a1 ((rd_T39 t201 x20_2).f0) t201 (t201.length : Int) (wrap64 (x20_2 + 1)))) = some (r1, r2) := H
            have A16 := Aside0.mk A160
            clear A160
            by_cases c17 : t208 = true
            ·subst c17
             have H1 : (words_Back.l0 k2 l0 a1 x6_2 t201 (t201.length : Int) (wrap64 (x20_2 + 1))) = some (r1, r2) := by rw [if_pos rfl] at H; exact H
             clear H
             have H := H1
             clear H1
             have H' := Aside0.mk H
             clear H
             have p204 : 0 ≤ (x20_2 : Int) := of_decide_eq_true (by first | (with_reducible assumption) | assumption)
             have q204 : x20_2 < (t201.length : Int) := of_decide_eq_true (by first | (with_reducible assumption) | assumption)
             obtain ⟨ad204, e204, hx204_0, hx204_1⟩ := at_T39 (Kd.R_reads' HO_18.out).2.2 x20_2 p204 q204
             cases e204
             replace p204 := eq_true p204
             replace q204 := eq_true q204
             go_wp2_with (first | ((with_reducible refine gate_dst (N := 8) rfl ?_); (try (refine gate_guard (by rfl) ?_; dsimp only)); refine box_event ?hg (N := 8) ?hd (cs := #[.int .i64 0, .int .i64 0]) (t := 39) ?hr ?_; (case hd => rfl); (case hg => rfl); (case hr => first | (go_simp; done) | (go_simp; rfl)); intro gb205 hg w18 hbox hb; have n0_ := Aside0.mk (Kd.R_below (Kd.R_elderB (by (with_reducible repeat (first | apply Kd.R_alloc | apply Kd.R_drewN | apply Kd.R_drew)); exact HO_18.out) gb205 (Nat.le_of_eq hg.symm)) hb); have n1_ := Aside0.mk (below_step (by repeat (first | exact HB.out | apply bA | apply bN | apply bD)) hb); have n2_ := Aside0.mk (hbox); have n3_ := Aside0.mk ((by rw [hg]; exact (below_size (by repeat (first | exact HB.out | apply bA | apply bN | apply bD))) : w.heap.size ≤ gb205)); have n4_ := Aside0.mk ((by rw [hg]; exact (below_size (by repeat (first | exact HB.out | apply bA | apply bN | apply bD))) : w.heap.size ≤ gb205)); clear HO_18; clear HB; have HO_18 := n0_; have HB := n1_; have BK205 := n2_; have GW205 := n3_; have GE205 := n4_; clear n0_ n1_ n2_ n3_ n4_; clear hb hbox hg; have hcz19_0 : w18.cell? ⟨gb205, 0, none⟩ = some (.int .i64 0) := (blk_cell BK205.out 0).trans rfl; have hcz19_1 : w18.cell? ⟨gb205, 1, none⟩ = some (.int .i64 0) := (blk_cell BK205.out 1).trans rfl; have hfz19_0 := blk_frozen BK205.out 0; have hfz19_1 := blk_frozen BK205.out 1; have p206 : 0 ≤ (((rd_T39 t201 x20_2).f0) : Int) := of_decide_eq_true (by first | (with_reducible assumption) | assumption); have q206 : ((rd_T39 t201 x20_2).f0) < (l0.length : Int) := of_decide_eq_true (by first | (with_reducible assumption) | assumption); obtain ⟨ad206, e206, hx206_0⟩ := Kd.at_int HR0.out ((rd_T39 t201 x20_2).f0) p206 q206; cases e206; have hn206_0 : ad206.block ≠ gb205 := Nat.ne_of_lt (Nat.lt_of_lt_of_le (by have := World.block_lt_of_cell? _ _ hx206_0; first | rwa [add_block] at this | exact this) GW205.out); have hn206_1 : ad206.block ≠ gb205 := Nat.ne_of_lt (Nat.lt_of_lt_of_le (by have := World.block_lt_of_cell? _ _ hx206_0; first | rwa [add_block] at this | exact this) GW205.out); replace hx206_0 := (HB.out.cell (World.block_lt_of_cell? w _ hx206_0)).trans hx206_0; replace hx206_0 := (cell_far (p := ⟨gb205, 0, none⟩) (by first | (rw [add_block]; exact hn206_0) | (show (Addr.add _ _).block ≠ _; rw [add_block]; exact hn206_0) | exact hn206_0) (.int .i64 ((rd_T39 t201 x20_2).f0))).trans hx206_0; replace hx206_0 := (cell_far (p := ⟨gb205, 1, none⟩) (by first | (rw [add_block]; exact hn206_1) | (show (Addr.add _ _).block ≠ _; rw [add_block]; exact hn206_1) | exact hn206_1) (.int .i64 ((rd_T39 t201 x20_2).f1))).trans hx206_0; clear hn206_0; clear hn206_1; replace p206 := eq_true p206; replace q206 := eq_true q206) | (go_at_call 62; (with_reducible refine (words_Class.calls (rd l0 ((rd_T39 t201 x20_2).f0)) t207 _ A15.out).mono ?_); rintro e w' ⟨rfl, ⟨nd, rfl⟩⟩) | (go_at_call 61; (with_reducible refine (words_empty.calls t207 true _ A16.out).mono ?_); rintro e w' ⟨rfl, ⟨nd, rfl⟩⟩))
             go_roundg k2
             case measure => have := HJ2.out; have := HK2.out; omega
             case rel => exact ⟨(x6_2), (wrap64 (x20_2 + 1)), (by first | rfl | (simp; done) | (simp [*]; done)), (by first | rfl | (simp; done) | (simp [*]; done)), H', ⟨by have := HJ2.out; have := HK2.out; omega⟩, ⟨by (with_reducible repeat (first | apply Kd.R_alloc | apply Kd.R_drewN | apply Kd.R_drew)); exact Kd.R_mono (Kd.R_far (p := ⟨gb205, 1, none⟩) (Kd.R_far (p := ⟨gb205, 0, none⟩) (Kd.R_mono HO_18.out (fun k_ hk => (⟨hk, hk.2⟩ : _ ∧ k_ ≠ gb205))) (fun _ hk => hk.2) (.int .i64 ((rd_T39 t201 x20_2).f0))) (fun _ hk => hk.2) (.int .i64 ((rd_T39 t201 x20_2).f1))) (fun _ hk => trivial)⟩, ⟨by repeat (first | exact HB.out | apply bA | apply bN | apply bD | refine bS ?_ GE205.out)⟩⟩
            ·replace c17 := Bool.eq_false_iff.mpr c17
             subst c17
             have H1 : (words_Back.l0 k2 l0 a1 ((rd_T39 t201 x20_2).f0) t201 (t201.length : Int) (wrap64 (x20_2 + 1))) = some (r1, r2) := by rw [if_neg (show ¬ (false = true) by decide)] at H; exact H
             clear H
             have H := H1
             clear H1
             have H' := Aside0.mk H
             clear H
             have p204 : 0 ≤ (x20_2 : Int) := of_decide_eq_true (by first | (with_reducible assumption) | assumption)
             have q204 : x20_2 < (t201.length : Int) := of_decide_eq_true (by first | (with_reducible assumption) | assumption)
             obtain ⟨ad204, e204, hx204_0, hx204_1⟩ := at_T39 (Kd.R_reads' HO_18.out).2.2 x20_2 p204 q204
             cases e204
             replace p204 := eq_true p204
             replace q204 := eq_true q204
             go_wp2_with (first | ((with_reducible refine gate_dst (N := 8) rfl ?_); (try (refine gate_guard (by rfl) ?_; dsimp only)); refine box_event ?hg (N := 8) ?hd (cs := #[.int .i64 0, .int .i64 0]) (t := 39) ?hr ?_; (case hd => rfl); (case hg => rfl); (case hr => first | (go_simp; done) | (go_simp; rfl)); intro gb205 hg w20 hbox hb; have n0_ := Aside0.mk (Kd.R_below (Kd.R_elderB (by (with_reducible repeat (first | apply Kd.R_alloc | apply Kd.R_drewN | apply Kd.R_drew)); exact HO_18.out) gb205 (Nat.le_of_eq hg.symm)) hb); have n1_ := Aside0.mk (below_step (by repeat (first | exact HB.out | apply bA | apply bN | apply bD)) hb); have n2_ := Aside0.mk (hbox); have n3_ := Aside0.mk ((by rw [hg]; exact (below_size (by repeat (first | exact HB.out | apply bA | apply bN | apply bD))) : w.heap.size ≤ gb205)); have n4_ := Aside0.mk ((by rw [hg]; exact (below_size (by repeat (first | exact HB.out | apply bA | apply bN | apply bD))) : w.heap.size ≤ gb205)); clear HO_18; clear HB; have HO_18 := n0_; have HB := n1_; have BK205 := n2_; have GW205 := n3_; have GE205 := n4_; clear n0_ n1_ n2_ n3_ n4_; clear hb hbox hg; have hcz21_0 : w20.cell? ⟨gb205, 0, none⟩ = some (.int .i64 0) := (blk_cell BK205.out 0).trans rfl; have hcz21_1 : w20.cell? ⟨gb205, 1, none⟩ = some (.int .i64 0) := (blk_cell BK205.out 1).trans rfl; have hfz21_0 := blk_frozen BK205.out 0; have hfz21_1 := blk_frozen BK205.out 1; have p206 : 0 ≤ (((rd_T39 t201 x20_2).f0) : Int) := of_decide_eq_true (by first | (with_reducible assumption) | assumption); have q206 : ((rd_T39 t201 x20_2).f0) < (l0.length : Int) := of_decide_eq_true (by first | (with_reducible assumption) | assumption); obtain ⟨ad206, e206, hx206_0⟩ := Kd.at_int HR0.out ((rd_T39 t201 x20_2).f0) p206 q206; cases e206; have hn206_0 : ad206.block ≠ gb205 := Nat.ne_of_lt (Nat.lt_of_lt_of_le (by have := World.block_lt_of_cell? _ _ hx206_0; first | rwa [add_block] at this | exact this) GW205.out); have hn206_1 : ad206.block ≠ gb205 := Nat.ne_of_lt (Nat.lt_of_lt_of_le (by have := World.block_lt_of_cell? _ _ hx206_0; first | rwa [add_block] at this | exact this) GW205.out); replace hx206_0 := (HB.out.cell (World.block_lt_of_cell? w _ hx206_0)).trans hx206_0; replace hx206_0 := (cell_far (p := ⟨gb205, 0, none⟩) (by first | (rw [add_block]; exact hn206_0) | (show (Addr.add _ _).block ≠ _; rw [add_block]; exact hn206_0) | exact hn206_0) (.int .i64 ((rd_T39 t201 x20_2).f0))).trans hx206_0; replace hx206_0 := (cell_far (p := ⟨gb205, 1, none⟩) (by first | (rw [add_block]; exact hn206_1) | (show (Addr.add _ _).block ≠ _; rw [add_block]; exact hn206_1) | exact hn206_1) (.int .i64 ((rd_T39 t201 x20_2).f1))).trans hx206_0; clear hn206_0; clear hn206_1; replace p206 := eq_true p206; replace q206 := eq_true q206) | (go_at_call 62; (with_reducible refine (words_Class.calls (rd l0 ((rd_T39 t201 x20_2).f0)) t207 _ A15.out).mono ?_); rintro e w' ⟨rfl, ⟨nd, rfl⟩⟩) | (go_at_call 61; (with_reducible refine (words_empty.calls t207 false _ A16.out).mono ?_); rintro e w' ⟨rfl, ⟨nd, rfl⟩⟩))
             go_roundg k2
             case measure => have := HJ2.out; have := HK2.out; omega
             case rel => exact ⟨((rd_T39 t201 x20_2).f0), (wrap64 (x20_2 + 1)), (by first | rfl | (simp; done) | (simp [*]; done)), (by first | rfl | (simp; done) | (simp [*]; done)), H', ⟨by have := HJ2.out; have := HK2.out; omega⟩, ⟨by (with_reducible repeat (first | apply Kd.R_alloc | apply Kd.R_drewN | apply Kd.R_drew)); exact Kd.R_mono (Kd.R_far (p := ⟨gb205, 1, none⟩) (Kd.R_far (p := ⟨gb205, 0, none⟩) (Kd.R_mono HO_18.out (fun k_ hk => (⟨hk, hk.2⟩ : _ ∧ k_ ≠ gb205))) (fun _ hk => hk.2) (.int .i64 ((rd_T39 t201 x20_2).f0))) (fun _ hk => hk.2) (.int .i64 ((rd_T39 t201 x20_2).f1))) (fun _ hk => trivial)⟩, ⟨by repeat (first | exact HB.out | apply bA | apply bN | apply bD | refine bS ?_ GE205.out)⟩⟩
           ·rw [if_neg c14] at H
            exact absurd H (by simp)
          ·rw [if_neg c13] at H
           exact absurd H (by simp)
         ·rw [if_neg c12] at H
          have c12b0 : decide (((rd_T39 t201 x20_2).f0) < a1) = false := decide_eq_false c12
          clear c12
          have H' := Aside0.mk H
          clear H
          have p204 : 0 ≤ (x20_2 : Int) := of_decide_eq_true (by first | (with_reducible assumption) | assumption)
          have q204 : x20_2 < (t201.length : Int) := of_decide_eq_true (by first | (with_reducible assumption) | assumption)
          obtain ⟨ad204, e204, hx204_0, hx204_1⟩ := at_T39 (Kd.R_reads' HO_18.out).2.2 x20_2 p204 q204
          cases e204
          replace p204 := eq_true p204
          replace q204 := eq_true q204
          go_wp2_with (first | ((with_reducible refine gate_dst (N := 8) rfl ?_); (try (refine gate_guard (by rfl) ?_; dsimp only)); refine box_event ?hg (N := 8) ?hd (cs := #[.int .i64 0, .int .i64 0]) (t := 39) ?hr ?_; (case hd => rfl); (case hg => rfl); (case hr => first | (go_simp; done) | (go_simp; rfl)); intro gb205 hg w22 hbox hb; have n0_ := Aside0.mk (Kd.R_below (Kd.R_elderB (by (with_reducible repeat (first | apply Kd.R_alloc | apply Kd.R_drewN | apply Kd.R_drew)); exact HO_18.out) gb205 (Nat.le_of_eq hg.symm)) hb); have n1_ := Aside0.mk (below_step (by repeat (first | exact HB.out | apply bA | apply bN | apply bD)) hb); have n2_ := Aside0.mk (hbox); have n3_ := Aside0.mk ((by rw [hg]; exact (below_size (by repeat (first | exact HB.out | apply bA | apply bN | apply bD))) : w.heap.size ≤ gb205)); have n4_ := Aside0.mk ((by rw [hg]; exact (below_size (by repeat (first | exact HB.out | apply bA | apply bN | apply bD))) : w.heap.size ≤ gb205)); clear HO_18; clear HB; have HO_18 := n0_; have HB := n1_; have BK205 := n2_; have GW205 := n3_; have GE205 := n4_; clear n0_ n1_ n2_ n3_ n4_; clear hb hbox hg; have hcz23_0 : w22.cell? ⟨gb205, 0, none⟩ = some (.int .i64 0) := (blk_cell BK205.out 0).trans rfl; have hcz23_1 : w22.cell? ⟨gb205, 1, none⟩ = some (.int .i64 0) := (blk_cell BK205.out 1).trans rfl; have hfz23_0 := blk_frozen BK205.out 0; have hfz23_1 := blk_frozen BK205.out 1))
          go_roundg k2
          case measure => have := HJ2.out; have := HK2.out; omega
          case rel => exact ⟨(x6_2), (wrap64 (x20_2 + 1)), (by first | rfl | (simp; done) | (simp [*]; done)), (by first | rfl | (simp; done) | (simp [*]; done)), H', ⟨by have := HJ2.out; have := HK2.out; omega⟩, ⟨by (with_reducible repeat (first | apply Kd.R_alloc | apply Kd.R_drewN | apply Kd.R_drew)); exact Kd.R_mono (Kd.R_far (p := ⟨gb205, 1, none⟩) (Kd.R_far (p := ⟨gb205, 0, none⟩) (Kd.R_mono HO_18.out (fun k_ hk => (⟨hk, hk.2⟩ : _ ∧ k_ ≠ gb205))) (fun _ hk => hk.2) (.int .i64 ((rd_T39 t201 x20_2).f0))) (fun _ hk => hk.2) (.int .i64 ((rd_T39 t201 x20_2).f1))) (fun _ hk => trivial)⟩, ⟨by repeat (first | exact HB.out | apply bA | apply bN | apply bD | refine bS ?_ GE205.out)⟩⟩
        ·rw [if_neg c11] at H
         exact absurd H (by simp)
       ·rw [if_neg c10] at H
        exact absurd H (by simp)
      ·rw [if_neg c9] at H
       have c9b0 : decide (x20_2 < (t201.length : Int)) = false := decide_eq_false c9
       clear c9
       simp only [Option.some.injEq, Prod.mk.injEq] at H
       obtain ⟨rfl, rfl⟩ := H
       go_wp2
       go_ret2
       exact ⟨by first | rfl | (simp [errW_none, errW_some] <;> rfl) | (simp [*, errW_none, errW_some] <;> rfl), by repeat (first | exact HB.out | apply bA | apply bN | apply bD)⟩

/-! ### words_Last: function 39 -/
def words_Last.l0 : Nat → List Int → Int → List (S39) → Int → Int → Option (Int × Bool)
  | 0, _, _, _, _, _ => none
  | k + 1, x0, x1, x11, x12, x13 => if x13 < x12 then (if 0 ≤ x13 then (if x13 < (x11.length : Int) then ((glyph_Prev.f k x0 (wrap64 (((rd_T39 x11 x13).f0) + ((rd_T39 x11 x13).f1)))).bind fun t214 => (if (wrap64 ((wrap64 (((rd_T39 x11 x13).f0) + ((rd_T39 x11 x13).f1))) - t214)) > x1 then (if 0 ≤ ((rd_T39 x11 x13).f0) then (if ((rd_T39 x11 x13).f0) < (x0.length : Int) then ((words_Class.f (rd x0 ((rd_T39 x11 x13).f0))).bind fun t216 => ((words_empty.f t216).bind fun t217 => (if t217 = true then (words_Last.l0 k x0 x1 x11 x12 (wrap64 (x13 + 1))) else (some (wrap64 ((wrap64 (((rd_T39 x11 x13).f0) + ((rd_T39 x11 x13).f1))) - t214), true))))) else (none)) else (none)) else (words_Last.l0 k x0 x1 x11 x12 (wrap64 (x13 + 1))))) else (none)) else (none)) else (some (0, false))
def words_Last.f (k : Nat) (l0 : List Int) (a1 : Int) : Option (Int × Bool) := (words_Runs.f k l0).bind fun t209 => (words_Last.l0 k l0 a1 t209 (t209.length : Int) 0)
theorem words_Last.mono_l : ∀ k, (∀ y0 y1 y2 y3 y4, LeO (words_Last.l0 k y0 y1 y2 y3 y4) (words_Last.l0 (k + 1) y0 y1 y2 y3 y4))
  | 0 => fun _ _ _ _ _ r h => by simp [words_Last.l0] at h
  | k + 1 => by
    have ih0 := words_Last.mono_l k
    · intro y0 y1 y2 y3 y4
      unfold words_Last.l0
      repeat' first
      | (with_reducible exact ih0 _ _ _ _ _)
      | (with_reducible exact glyph_Prev.mono _ _ _)
      | (with_reducible exact words_Runs.mono _ _)
      | (with_reducible exact LeO.refl _)
      | (with_reducible exact LeO.none _)
      | (with_reducible refine LeO.ite ?_ ?_)
      | (with_reducible refine LeO.bind ?_ (fun _ => ?_))
      | exact ih0 _ _ _ _ _
      | exact glyph_Prev.mono _ _ _
      | exact words_Runs.mono _ _
      | exact LeO.none _
      | refine LeO.ite ?_ ?_
      | refine LeO.bind ?_ (fun _ => ?_)
theorem words_Last.mono : ∀ a0 a1 k, LeO (words_Last.f k a0 a1) (words_Last.f (k + 1) a0 a1) := by
  intro a0 a1 k
  have ih0 := words_Last.mono_l k
  unfold words_Last.f
  repeat' first
      | (with_reducible exact ih0 _ _ _ _ _)
      | (with_reducible exact glyph_Prev.mono _ _ _)
      | (with_reducible exact words_Runs.mono _ _)
      | (with_reducible exact LeO.refl _)
      | (with_reducible exact LeO.none _)
      | (with_reducible refine LeO.ite ?_ ?_)
      | (with_reducible refine LeO.bind ?_ (fun _ => ?_))
      | exact ih0 _ _ _ _ _
      | exact glyph_Prev.mono _ _ _
      | exact words_Runs.mono _ _
      | exact LeO.none _
      | refine LeO.ite ?_ ?_
      | refine LeO.bind ?_ (fun _ => ?_)
set_option maxHeartbeats 8000000 in
set_option maxRecDepth 100000 in
theorem words_Last.calls (k : Nat) (A0 : Option Addr) (c0 : Nat) (l0 : List Int) (a1 : Int) (r1 : Int) (r2 : Bool) (w : World) (hT : Tabs w) (hr0 : Kd.C (Kd.int .u8) w A0 l0.length l0) (hc0 : l0.length ≤ c0) (h : words_Last.f k l0 a1 = some (r1, r2)) :
  Calls Tryd.prog 39 #[.slice A0 l0.length c0, .int .i64 a1] w fun e w' => e = .returned (.tuple #[.int .i64 r1, .bool r2]) ∧ Below w.heap.size w w' := by
 have hu39 := Tryd.underlying39
 have HR0 := Aside0.mk hr0
 have HC0 := Aside0.mk hc0
 clear hr0 hc0
 have HB := Aside0.mk (Below.refl w.heap.size w)
 have HT := Aside0.mk hT
 clear hT
 have H : ((words_Runs.f k l0).bind fun t209 => (words_Last.l0 k l0 a1 t209 (t209.length : Int) 0)) = some (r1, r2) := h
 clear h
 replace H := Option.bind_eq_some_iff.mp H
 obtain ⟨t209, A30, H⟩ := H
 replace H : (words_Last.l0 k l0 a1 t209 (t209.length : Int) 0) = some (r1, r2) := H
 have A3 := Aside0.mk A30
 clear A30
 have H' := Aside0.mk H
 clear H
 go_enter Tryd.func39, Tryd.ntmps39
 go_wp2_with (first | ((with_reducible refine gate_callee (f := 60) rfl ?_); refine goesL_ (some 11) rfl rfl Tryd.func60 (by kernel_rfl) rfl #[.slice A0 l0.length c0] rfl (by (try simp only [List.map_toArray, List.map_cons, List.map_nil]); first | done | rfl | (simp only [List.length_drop, List.length_take]; rfl)) ?_; (with_reducible refine (words_Runs.calls k _ _ l0 t209 _ ?side1 ?side2 A3.out).mono ?_); (case side1 => repeat (first | exact HR0.out | (with_reducible refine Kd.C_alloc ?_ _) | (with_reducible refine Kd.C_drewN ?_ _) | (with_reducible refine Kd.C_drew ?_))); (case side2 => exact HC0.out); rintro e w4 ⟨v210, rfl, ho0, hb⟩; refine ⟨_, rfl, ?_⟩; have n0_ := Aside0.mk (Kd.R_lower ho0 (below_size (by repeat (first | exact HB.out | apply bA | apply bN | apply bD)))); have n1_ := Aside0.mk (below_step (by repeat (first | exact HB.out | apply bA | apply bN | apply bD)) hb); clear HB; have HO211 := n0_; have HB := n1_; clear n0_ n1_; (try clear hb); (try clear hb2); (try clear hk); (try clear hi); (try clear ho0); obtain ⟨Ao5, co5, eo5⟩ := Kd.R_slice HO211.out; subst eo5))
 go_loopg [13] k (fun kq v13 w' => ∃ (x13_1 : Int), v13 = .int .i64 x13_1 ∧ Aside0 (words_Last.l0 kq l0 a1 t209 (t209.length : Int) x13_1 = some (r1, r2)) ∧ Aside0 (kq ≤ k) ∧ Aside0 (Kd.R k39 39 w' w.heap.size (fun _ => True) (.slice Ao5 t209.length co5) t209) ∧ Aside0 (Below w.heap.size w w'))
 case atStart => exact ⟨(0), (by first | rfl | (simp; done) | (simp [*]; done)), H', ⟨Nat.le_refl _⟩, ⟨by (with_reducible repeat (first | apply Kd.R_alloc | apply Kd.R_drewN | apply Kd.R_drew)); exact HO211.out⟩, ⟨by repeat (first | exact HB.out | apply bA | apply bN | apply bD)⟩⟩
 case round =>
  clear H'
  try clear p2
  try clear c3
  obtain ⟨x13_1, rfl, HA, HK1, HO_11, HB⟩ := hrel
  cases gk with
  | zero => exact absurd HA.out (by simp [words_Last.l0])
  | succ k1 =>
   have H := HA.out
   clear HA
   simp only [words_Last.l0] at H
   by_cases c6 : x13_1 < (t209.length : Int)
   ·rw [if_pos c6] at H
    have c6b0 : decide (x13_1 < (t209.length : Int)) = true := decide_eq_true c6
    clear c6
    by_cases c7 : 0 ≤ x13_1
    ·rw [if_pos c7] at H
     have c7b0 : decide (0 ≤ x13_1) = true := decide_eq_true c7
     clear c7
     by_cases c8 : x13_1 < (t209.length : Int)
     ·rw [if_pos c8] at H
      have c8b0 : decide (x13_1 < (t209.length : Int)) = true := decide_eq_true c8
      clear c8
      replace H := Option.bind_eq_some_iff.mp H
      obtain ⟨t214, A90, H⟩ := H
      replace H : (if (wrap64 ((wrap64 (((rd_T39 t209 x13_1).f0) + ((rd_T39 t209 x13_1).f1))) - t214)) > a1 then (if 0 ≤ ((rd_T39 t209 x13_1).f0) then (if ((rd_T39 t209 x13_1).f0) < (l0.length : Int) then ((words_Class.f (rd l0 ((rd_T39 t209 x13_1).f0))).bind fun t216 => ((words_empty.f t216).bind fun t217 => (if t217 = true then (words_Last.l0 k1 l0 a1 t209 (t209.length : Int) (wrap64 (x13_1 + 1))) else (some (wrap64 ((wrap64 (((rd_T39 t209 x13_1).f0) + ((rd_T39 t209 x13_1).f1))) - t214), true))))) else (none)) else (none)) else (words_Last.l0 k1 l0 a1 t209 (t209.length : Int) (wrap64 (x13_1 + 1)))) = some (r1, r2) := H
      have A9 := Aside0.mk A90
      clear A90
      by_cases c10 : (wrap64 ((wrap64 (((rd_T39 t209 x13_1).f0) + ((rd_T39 t209 x13_1).f1))) - t214)) > a1
      ·rw [if_pos c10] at H
       have c10b0 : decide (a1 < (wrap64 ((wrap64 (((rd_T39 t209 x13_1).f0) + ((rd_T39 t209 x13_1).f1))) - t214))) = true := decide_eq_true c10
       clear c10
       by_cases c11 : 0 ≤ ((rd_T39 t209 x13_1).f0)
       ·rw [if_pos c11] at H
        have c11b0 : decide (0 ≤ ((rd_T39 t209 x13_1).f0)) = true := decide_eq_true c11
        clear c11
        by_cases c12 : ((rd_T39 t209 x13_1).f0) < (l0.length : Int)
        ·rw [if_pos c12] at H
         have c12b0 : decide (((rd_T39 t209 x13_1).f0) < (l0.length : Int)) = true := decide_eq_true c12
         clear c12
         replace H := Option.bind_eq_some_iff.mp H
         obtain ⟨t216, A130, H⟩ := H
         replace H : ((words_empty.f t216).bind fun t217 => (if t217 = true then (words_Last.l0 k1 l0 a1 t209 (t209.length : Int) (wrap64 (x13_1 + 1))) else (some (wrap64 ((wrap64 (((rd_T39 t209 x13_1).f0) + ((rd_T39 t209 x13_1).f1))) - t214), true)))) = some (r1, r2) := H
         have A13 := Aside0.mk A130
         clear A130
         replace H := Option.bind_eq_some_iff.mp H
         obtain ⟨t217, A140, H⟩ := H
         replace H : (if t217 = true then (words_Last.l0 k1 l0 a1 t209 (t209.length : Int) (wrap64 (x13_1 + 1))) else (some (wrap64 ((wrap64 (((rd_T39 t209 x13_1).f0) + ((rd_T39 t209 x13_1).f1))) - t214), true))) = some (r1, r2) := H
         have A14 := Aside0.mk A140
         clear A140
         by_cases c15 : t217 = true
         ·subst c15
          have H1 : (words_Last.l0 k1 l0 a1 t209 (t209.length : Int) (wrap64 (x13_1 + 1))) = some (r1, r2) := by rw [if_pos rfl] at H; exact H
          clear H
          have H := H1
          clear H1
          have H' := Aside0.mk H
          clear H
          have p212 : 0 ≤ (x13_1 : Int) := of_decide_eq_true (by first | (with_reducible assumption) | assumption)
          have q212 : x13_1 < (t209.length : Int) := of_decide_eq_true (by first | (with_reducible assumption) | assumption)
          obtain ⟨ad212, e212, hx212_0, hx212_1⟩ := at_T39 (Kd.R_reads' HO_11.out).2.2 x13_1 p212 q212
          cases e212
          replace p212 := eq_true p212
          replace q212 := eq_true q212
          go_wp2_with (first | ((with_reducible refine gate_dst (N := 7) rfl ?_); refine box_event ?hg (N := 7) ?hd (cs := #[.int .i64 0, .int .i64 0]) (t := 39) ?hr ?_; (case hd => rfl); (case hg => rfl); (case hr => first | (go_simp; done) | (go_simp; rfl)); intro gb213 hg w16 hbox hb; have n0_ := Aside0.mk (Kd.R_below (Kd.R_elderB (by (with_reducible repeat (first | apply Kd.R_alloc | apply Kd.R_drewN | apply Kd.R_drew)); exact HO_11.out) gb213 (Nat.le_of_eq hg.symm)) hb); have n1_ := Aside0.mk (below_step (by repeat (first | exact HB.out | apply bA | apply bN | apply bD)) hb); have n2_ := Aside0.mk (hbox); have n3_ := Aside0.mk ((by rw [hg]; exact (below_size (by repeat (first | exact HB.out | apply bA | apply bN | apply bD))) : w.heap.size ≤ gb213)); have n4_ := Aside0.mk ((by rw [hg]; exact (below_size (by repeat (first | exact HB.out | apply bA | apply bN | apply bD))) : w.heap.size ≤ gb213)); clear HO_11; clear HB; have HO_11 := n0_; have HB := n1_; have BK213 := n2_; have GW213 := n3_; have GE213 := n4_; clear n0_ n1_ n2_ n3_ n4_; clear hb hbox hg; have hcz17_0 : w16.cell? ⟨gb213, 0, none⟩ = some (.int .i64 0) := (blk_cell BK213.out 0).trans rfl; have hcz17_1 : w16.cell? ⟨gb213, 1, none⟩ = some (.int .i64 0) := (blk_cell BK213.out 1).trans rfl; have hfz17_0 := blk_frozen BK213.out 0; have hfz17_1 := blk_frozen BK213.out 1) | ((with_reducible refine gate_callee (f := 56) rfl ?_); refine goesL_ (some 25) rfl rfl Tryd.func56 (by kernel_rfl) rfl #[.slice A0 l0.length c0, .int .i64 (wrap64 (((rd_T39 t209 x13_1).f0) + ((rd_T39 t209 x13_1).f1)))] rfl (by (try simp only [List.map_toArray, List.map_cons, List.map_nil]); first | done | rfl | (simp only [List.length_drop, List.length_take]; rfl)) ?_; (with_reducible refine (glyph_Prev.calls k1 _ _ l0 (wrap64 (((rd_T39 t209 x13_1).f0) + ((rd_T39 t209 x13_1).f1))) t214 _ ?side3 ?side1 ?side2 A9.out).mono ?_); (case side1 => exact Kd.C_below HR0.out (by repeat (first | exact HB.out | apply bA | apply bN | apply bD | refine bS ?_ GE213.out))); (case side2 => exact HC0.out); (case side3 => exact Tabs.below HT.out (by repeat (first | exact HB.out | apply bA | apply bN | apply bD | refine bS ?_ GE213.out))); rintro e w18 ⟨rfl, hb⟩; refine ⟨_, rfl, ?_⟩; have n0_ := Aside0.mk (Kd.R_below (by (with_reducible repeat (first | apply Kd.R_alloc | apply Kd.R_drewN | apply Kd.R_drew)); exact (Kd.R_mono (Kd.R_far (p := ⟨gb213, 1, none⟩) (Kd.R_far (p := ⟨gb213, 0, none⟩) (Kd.R_mono HO_11.out (fun k_ hk => (⟨hk, hk.2⟩ : _ ∧ k_ ≠ gb213))) (fun _ hk => hk.2) (.int .i64 ((rd_T39 t209 x13_1).f0))) (fun _ hk => hk.2) (.int .i64 ((rd_T39 t209 x13_1).f1))) (fun _ h_ => h_.1))) hb); have n1_ := Aside0.mk (blk_below (g := gb213) (o := .cells #[.int .i64 ((rd_T39 t209 x13_1).f0), .int .i64 ((rd_T39 t209 x13_1).f1)] 39 (0, 0)) (by (with_reducible repeat (first | refine kN ?_ _ | refine kD ?_ | refine kA ?_ _)); refine blk_put (cs := #[.int .i64 ((rd_T39 t209 x13_1).f0), .int .i64 0]) ?_ 1 _ rfl; (with_reducible repeat (first | refine kN ?_ _ | refine kD ?_ | refine kA ?_ _)); refine blk_put (cs := #[.int .i64 0, .int .i64 0]) ?_ 0 _ rfl; (with_reducible repeat (first | refine kN ?_ _ | refine kD ?_ | refine kA ?_ _)); exact BK213.out) hb); have n2_ := Aside0.mk (below_step (by repeat (first | exact HB.out | apply bA | apply bN | apply bD | refine bS ?_ GE213.out)) hb); clear HO_11; clear BK213; clear HB; have HO_11 := n0_; have BK213 := n1_; have HB := n2_; clear n0_ n1_ n2_; (try clear hb); (try clear hb2); (try clear hk); (try clear hi); have hcz19_0 : w18.cell? ⟨gb213, 0, none⟩ = some (.int .i64 ((rd_T39 t209 x13_1).f0)) := (blk_cell BK213.out 0).trans rfl; have hcz19_1 : w18.cell? ⟨gb213, 1, none⟩ = some (.int .i64 ((rd_T39 t209 x13_1).f1)) := (blk_cell BK213.out 1).trans rfl; have hfz19_0 := blk_frozen BK213.out 0; have hfz19_1 := blk_frozen BK213.out 1; have p215 : 0 ≤ (((rd_T39 t209 x13_1).f0) : Int) := of_decide_eq_true (by first | (with_reducible assumption) | assumption); have q215 : ((rd_T39 t209 x13_1).f0) < (l0.length : Int) := of_decide_eq_true (by first | (with_reducible assumption) | assumption); obtain ⟨ad215, e215, hx215_0⟩ := Kd.at_int HR0.out ((rd_T39 t209 x13_1).f0) p215 q215; cases e215; replace hx215_0 := (HB.out.cell (World.block_lt_of_cell? w _ hx215_0)).trans hx215_0; replace p215 := eq_true p215; replace q215 := eq_true q215) | (go_at_call 62; (with_reducible refine (words_Class.calls (rd l0 ((rd_T39 t209 x13_1).f0)) t216 _ A13.out).mono ?_); rintro e w' ⟨rfl, ⟨nd, rfl⟩⟩) | (go_at_call 61; (with_reducible refine (words_empty.calls t216 true _ A14.out).mono ?_); rintro e w' ⟨rfl, ⟨nd, rfl⟩⟩))
          go_roundg k1
          case measure => have := HK1.out; omega
          case rel => exact ⟨(wrap64 (x13_1 + 1)), (by first | rfl | (simp; done) | (simp [*]; done)), H', ⟨by have := HK1.out; omega⟩, ⟨by (with_reducible repeat (first | apply Kd.R_alloc | apply Kd.R_drewN | apply Kd.R_drew)); exact Kd.R_mono HO_11.out (fun _ hk => trivial)⟩, ⟨by repeat (first | exact HB.out | apply bA | apply bN | apply bD | refine bS ?_ GE213.out)⟩⟩
         ·replace c15 := Bool.eq_false_iff.mpr c15
          subst c15
          have H1 : (some (wrap64 ((wrap64 (((rd_T39 t209 x13_1).f0) + ((rd_T39 t209 x13_1).f1))) - t214), true)) = some (r1, r2) := by rw [if_neg (show ¬ (false = true) by decide)] at H; exact H
          clear H
          have H := H1
          clear H1
          simp only [Option.some.injEq, Prod.mk.injEq] at H
          obtain ⟨rfl, rfl⟩ := H
          have p212 : 0 ≤ (x13_1 : Int) := of_decide_eq_true (by first | (with_reducible assumption) | assumption)
          have q212 : x13_1 < (t209.length : Int) := of_decide_eq_true (by first | (with_reducible assumption) | assumption)
          obtain ⟨ad212, e212, hx212_0, hx212_1⟩ := at_T39 (Kd.R_reads' HO_11.out).2.2 x13_1 p212 q212
          cases e212
          replace p212 := eq_true p212
          replace q212 := eq_true q212
          go_wp2_with (first | ((with_reducible refine gate_dst (N := 7) rfl ?_); refine box_event ?hg (N := 7) ?hd (cs := #[.int .i64 0, .int .i64 0]) (t := 39) ?hr ?_; (case hd => rfl); (case hg => rfl); (case hr => first | (go_simp; done) | (go_simp; rfl)); intro gb213 hg w20 hbox hb; have n0_ := Aside0.mk (Kd.R_below (Kd.R_elderB (by (with_reducible repeat (first | apply Kd.R_alloc | apply Kd.R_drewN | apply Kd.R_drew)); exact HO_11.out) gb213 (Nat.le_of_eq hg.symm)) hb); have n1_ := Aside0.mk (below_step (by repeat (first | exact HB.out | apply bA | apply bN | apply bD)) hb); have n2_ := Aside0.mk (hbox); have n3_ := Aside0.mk ((by rw [hg]; exact (below_size (by repeat (first | exact HB.out | apply bA | apply bN | apply bD))) : w.heap.size ≤ gb213)); have n4_ := Aside0.mk ((by rw [hg]; exact (below_size (by repeat (first | exact HB.out | apply bA | apply bN | apply bD))) : w.heap.size ≤ gb213)); clear HO_11; clear HB; have HO_11 := n0_; have HB := n1_; have BK213 := n2_; have GW213 := n3_; have GE213 := n4_; clear n0_ n1_ n2_ n3_ n4_; clear hb hbox hg; have hcz21_0 : w20.cell? ⟨gb213, 0, none⟩ = some (.int .i64 0) := (blk_cell BK213.out 0).trans rfl; have hcz21_1 : w20.cell? ⟨gb213, 1, none⟩ = some (.int .i64 0) := (blk_cell BK213.out 1).trans rfl; have hfz21_0 := blk_frozen BK213.out 0; have hfz21_1 := blk_frozen BK213.out 1) | ((with_reducible refine gate_callee (f := 56) rfl ?_); refine goesL_ (some 25) rfl rfl Tryd.func56 (by kernel_rfl) rfl #[.slice A0 l0.length c0, .int .i64 (wrap64 (((rd_T39 t209 x13_1).f0) + ((rd_T39 t209 x13_1).f1)))] rfl (by (try simp only [List.map_toArray, List.map_cons, List.map_nil]); first | done | rfl | (simp only [List.length_drop, List.length_take]; rfl)) ?_; (with_reducible refine (glyph_Prev.calls k1 _ _ l0 (wrap64 (((rd_T39 t209 x13_1).f0) + ((rd_T39 t209 x13_1).f1))) t214 _ ?side3 ?side1 ?side2 A9.out).mono ?_); (case side1 => exact Kd.C_below HR0.out (by repeat (first | exact HB.out | apply bA | apply bN | apply bD | refine bS ?_ GE213.out))); (case side2 => exact HC0.out); (case side3 => exact Tabs.below HT.out (by repeat (first | exact HB.out | apply bA | apply bN | apply bD | refine bS ?_ GE213.out))); rintro e w22 ⟨rfl, hb⟩; refine ⟨_, rfl, ?_⟩; have n0_ := Aside0.mk (Kd.R_below (by (with_reducible repeat (first | apply Kd.R_alloc | apply Kd.R_drewN | apply Kd.R_drew)); exact (Kd.R_mono (Kd.R_far (p := ⟨gb213, 1, none⟩) (Kd.R_far (p := ⟨gb213, 0, none⟩) (Kd.R_mono HO_11.out (fun k_ hk => (⟨hk, hk.2⟩ : _ ∧ k_ ≠ gb213))) (fun _ hk => hk.2) (.int .i64 ((rd_T39 t209 x13_1).f0))) (fun _ hk => hk.2) (.int .i64 ((rd_T39 t209 x13_1).f1))) (fun _ h_ => h_.1))) hb); have n1_ := Aside0.mk (blk_below (g := gb213) (o := .cells #[.int .i64 ((rd_T39 t209 x13_1).f0), .int .i64 ((rd_T39 t209 x13_1).f1)] 39 (0, 0)) (by (with_reducible repeat (first | refine kN ?_ _ | refine kD ?_ | refine kA ?_ _)); refine blk_put (cs := #[.int .i64 ((rd_T39 t209 x13_1).f0), .int .i64 0]) ?_ 1 _ rfl; (with_reducible repeat (first | refine kN ?_ _ | refine kD ?_ | refine kA ?_ _)); refine blk_put (cs := #[.int .i64 0, .int .i64 0]) ?_ 0 _ rfl; (with_reducible repeat (first | refine kN ?_ _ | refine kD ?_ | refine kA ?_ _)); exact BK213.out) hb); have n2_ := Aside0.mk (below_step (by repeat (first | exact HB.out | apply bA | apply bN | apply bD | refine bS ?_ GE213.out)) hb); clear HO_11; clear BK213; clear HB; have HO_11 := n0_; have BK213 := n1_; have HB := n2_; clear n0_ n1_ n2_; (try clear hb); (try clear hb2); (try clear hk); (try clear hi); have hcz23_0 : w22.cell? ⟨gb213, 0, none⟩ = some (.int .i64 ((rd_T39 t209 x13_1).f0)) := (blk_cell BK213.out 0).trans rfl; have hcz23_1 : w22.cell? ⟨gb213, 1, none⟩ = some (.int .i64 ((rd_T39 t209 x13_1).f1)) := (blk_cell BK213.out 1).trans rfl; have hfz23_0 := blk_frozen BK213.out 0; have hfz23_1 := blk_frozen BK213.out 1; have p215 : 0 ≤ (((rd_T39 t209 x13_1).f0) : Int) := of_decide_eq_true (by first | (with_reducible assumption) | assumption); have q215 : ((rd_T39 t209 x13_1).f0) < (l0.length : Int) := of_decide_eq_true (by first | (with_reducible assumption) | assumption); obtain ⟨ad215, e215, hx215_0⟩ := Kd.at_int HR0.out ((rd_T39 t209 x13_1).f0) p215 q215; cases e215; replace hx215_0 := (HB.out.cell (World.block_lt_of_cell? w _ hx215_0)).trans hx215_0; replace p215 := eq_true p215; replace q215 := eq_true q215) | (go_at_call 62; (with_reducible refine (words_Class.calls (rd l0 ((rd_T39 t209 x13_1).f0)) t216 _ A13.out).mono ?_); rintro e w' ⟨rfl, ⟨nd, rfl⟩⟩) | (go_at_call 61; (with_reducible refine (words_empty.calls t216 false _ A14.out).mono ?_); rintro e w' ⟨rfl, ⟨nd, rfl⟩⟩))
          go_ret2
          exact ⟨by first | rfl | (simp [errW_none, errW_some] <;> rfl) | (simp [*, errW_none, errW_some] <;> rfl), by repeat (first | exact HB.out | apply bA | apply bN | apply bD | refine bS ?_ GE213.out)⟩
        ·rw [if_neg c12] at H
         exact absurd H (by simp)
       ·rw [if_neg c11] at H
        exact absurd H (by simp)
      ·rw [if_neg c10] at H
       have c10b0 : decide (a1 < (wrap64 ((wrap64 (((rd_T39 t209 x13_1).f0) + ((rd_T39 t209 x13_1).f1))) - t214))) = false := decide_eq_false c10
       clear c10
       have H' := Aside0.mk H
       clear H
       have p212 : 0 ≤ (x13_1 : Int) := of_decide_eq_true (by first | (with_reducible assumption) | assumption)
       have q212 : x13_1 < (t209.length : Int) := of_decide_eq_true (by first | (with_reducible assumption) | assumption)
       obtain ⟨ad212, e212, hx212_0, hx212_1⟩ := at_T39 (Kd.R_reads' HO_11.out).2.2 x13_1 p212 q212
       cases e212
       replace p212 := eq_true p212
       replace q212 := eq_true q212
       go_wp2_with (first | ((with_reducible refine gate_dst (N := 7) rfl ?_); refine box_event ?hg (N := 7) ?hd (cs := #[.int .i64 0, .int .i64 0]) (t := 39) ?hr ?_; (case hd => rfl); (case hg => rfl); (case hr => first | (go_simp; done) | (go_simp; rfl)); intro gb213 hg w24 hbox hb; have n0_ := Aside0.mk (Kd.R_below (Kd.R_elderB (by (with_reducible repeat (first | apply Kd.R_alloc | apply Kd.R_drewN | apply Kd.R_drew)); exact HO_11.out) gb213 (Nat.le_of_eq hg.symm)) hb); have n1_ := Aside0.mk (below_step (by repeat (first | exact HB.out | apply bA | apply bN | apply bD)) hb); have n2_ := Aside0.mk (hbox); have n3_ := Aside0.mk ((by rw [hg]; exact (below_size (by repeat (first | exact HB.out | apply bA | apply bN | apply bD))) : w.heap.size ≤ gb213)); have n4_ := Aside0.mk ((by rw [hg]; exact (below_size (by repeat (first | exact HB.out | apply bA | apply bN | apply bD))) : w.heap.size ≤ gb213)); clear HO_11; clear HB; have HO_11 := n0_; have HB := n1_; have BK213 := n2_; have GW213 := n3_; have GE213 := n4_; clear n0_ n1_ n2_ n3_ n4_; clear hb hbox hg; have hcz25_0 : w24.cell? ⟨gb213, 0, none⟩ = some (.int .i64 0) := (blk_cell BK213.out 0).trans rfl; have hcz25_1 : w24.cell? ⟨gb213, 1, none⟩ = some (.int .i64 0) := (blk_cell BK213.out 1).trans rfl; have hfz25_0 := blk_frozen BK213.out 0; have hfz25_1 := blk_frozen BK213.out 1) | ((with_reducible refine gate_callee (f := 56) rfl ?_); refine goesL_ (some 25) rfl rfl Tryd.func56 (by kernel_rfl) rfl #[.slice A0 l0.length c0, .int .i64 (wrap64 (((rd_T39 t209 x13_1).f0) + ((rd_T39 t209 x13_1).f1)))] rfl (by (try simp only [List.map_toArray, List.map_cons, List.map_nil]); first | done | rfl | (simp only [List.length_drop, List.length_take]; rfl)) ?_; (with_reducible refine (glyph_Prev.calls k1 _ _ l0 (wrap64 (((rd_T39 t209 x13_1).f0) + ((rd_T39 t209 x13_1).f1))) t214 _ ?side3 ?side1 ?side2 A9.out).mono ?_); (case side1 => exact Kd.C_below HR0.out (by repeat (first | exact HB.out | apply bA | apply bN | apply bD | refine bS ?_ GE213.out))); (case side2 => exact HC0.out); (case side3 => exact Tabs.below HT.out (by repeat (first | exact HB.out | apply bA | apply bN | apply bD | refine bS ?_ GE213.out))); rintro e w26 ⟨rfl, hb⟩; refine ⟨_, rfl, ?_⟩; have n0_ := Aside0.mk (Kd.R_below (by (with_reducible repeat (first | apply Kd.R_alloc | apply Kd.R_drewN | apply Kd.R_drew)); exact (Kd.R_mono (Kd.R_far (p := ⟨gb213, 1, none⟩) (Kd.R_far (p := ⟨gb213, 0, none⟩) (Kd.R_mono HO_11.out (fun k_ hk => (⟨hk, hk.2⟩ : _ ∧ k_ ≠ gb213))) (fun _ hk => hk.2) (.int .i64 ((rd_T39 t209 x13_1).f0))) (fun _ hk => hk.2) (.int .i64 ((rd_T39 t209 x13_1).f1))) (fun _ h_ => h_.1))) hb); have n1_ := Aside0.mk (blk_below (g := gb213) (o := .cells #[.int .i64 ((rd_T39 t209 x13_1).f0), .int .i64 ((rd_T39 t209 x13_1).f1)] 39 (0, 0)) (by (with_reducible repeat (first | refine kN ?_ _ | refine kD ?_ | refine kA ?_ _)); refine blk_put (cs := #[.int .i64 ((rd_T39 t209 x13_1).f0), .int .i64 0]) ?_ 1 _ rfl; (with_reducible repeat (first | refine kN ?_ _ | refine kD ?_ | refine kA ?_ _)); refine blk_put (cs := #[.int .i64 0, .int .i64 0]) ?_ 0 _ rfl; (with_reducible repeat (first | refine kN ?_ _ | refine kD ?_ | refine kA ?_ _)); exact BK213.out) hb); have n2_ := Aside0.mk (below_step (by repeat (first | exact HB.out | apply bA | apply bN | apply bD | refine bS ?_ GE213.out)) hb); clear HO_11; clear BK213; clear HB; have HO_11 := n0_; have BK213 := n1_; have HB := n2_; clear n0_ n1_ n2_; (try clear hb); (try clear hb2); (try clear hk); (try clear hi)))
       go_roundg k1
       case measure => have := HK1.out; omega
       case rel => exact ⟨(wrap64 (x13_1 + 1)), (by first | rfl | (simp; done) | (simp [*]; done)), H', ⟨by have := HK1.out; omega⟩, ⟨by (with_reducible repeat (first | apply Kd.R_alloc | apply Kd.R_drewN | apply Kd.R_drew)); exact Kd.R_mono HO_11.out (fun _ hk => trivial)⟩, ⟨by repeat (first | exact HB.out | apply bA | apply bN | apply bD | refine bS ?_ GE213.out)⟩⟩
     ·rw [if_neg c8] at H
      exact absurd H (by simp)
    ·rw [if_neg c7] at H
     exact absurd H (by simp)
   ·rw [if_neg c6] at H
    have c6b0 : decide (x13_1 < (t209.length : Int)) = false := decide_eq_false c6
    clear c6
    simp only [Option.some.injEq, Prod.mk.injEq] at H
    obtain ⟨rfl, rfl⟩ := H
    go_wp2
    go_ret2
    exact ⟨by first | rfl | (simp [errW_none, errW_some] <;> rfl) | (simp [*, errW_none, errW_some] <;> rfl), by repeat (first | exact HB.out | apply bA | apply bN | apply bD)⟩

/-! ### lines_Bare: function 63 -/
def lines_Bare.f (k : Nat) (a0 : ByteArray) : Option (Bool) := (lines_Indent.f k a0).bind fun t218 => (some (t218 == (a0.size : Int)))
theorem lines_Bare.mono : ∀ a0 k, LeO (lines_Bare.f k a0) (lines_Bare.f (k + 1) a0) := by
  intro a0 k
  unfold lines_Bare.f
  repeat' first
      | (with_reducible exact lines_Indent.mono _ _)
      | (with_reducible exact LeO.refl _)
      | (with_reducible exact LeO.none _)
      | (with_reducible refine LeO.ite ?_ ?_)
      | (with_reducible refine LeO.bind ?_ (fun _ => ?_))
      | exact lines_Indent.mono _ _
      | exact LeO.none _
      | refine LeO.ite ?_ ?_
      | refine LeO.bind ?_ (fun _ => ?_)
set_option maxHeartbeats 8000000 in
set_option maxRecDepth 100000 in
theorem lines_Bare.calls (k : Nat) (a0 : ByteArray) (r : Bool) (w : World) (h : lines_Bare.f k a0 = some r) :
    Calls Tryd.prog 63 #[.string a0] w fun e w' => e = .returned (.bool r) ∧ Drawn0 w w' := by
  have H : ((lines_Indent.f k a0).bind fun t218 => (some (t218 == (a0.size : Int)))) = some r := h
  clear h
  replace H := Option.bind_eq_some_iff.mp H
  obtain ⟨t218, A20, H⟩ := H
  replace H : (some (t218 == (a0.size : Int))) = some r := H
  have A2 := Aside0.mk A20
  clear A20
  obtain rfl := Option.some.inj H
  go_enter Tryd.func63, Tryd.ntmps63
  go_wp2_with (first | ((with_reducible refine gate_callee (f := 34) rfl ?_); refine goesL_ (some 4) rfl rfl Tryd.func34 (by kernel_rfl) rfl #[.string a0] rfl (by (try simp only [List.map_toArray, List.map_cons, List.map_nil]); first | done | rfl | (simp only [List.length_drop, List.length_take]; rfl)) ?_; (with_reducible refine (lines_Indent.calls k a0 t218 _ A2.out).mono ?_); rintro e w' ⟨rfl, ⟨nd, rfl⟩⟩; refine ⟨_, rfl, ?_⟩))
  go_ret
  exact ⟨by first | rfl | (simp; done) | (simp [*]; done), by repeat (first | exact Drawn0.refl _ | apply Drawn0.step)⟩

/-! ### motion_paragraph: function 40 -/
mutual
def motion_paragraph.j0 : Nat → List Int → Int → Int → Int → Option (Int × Bool)
  | 0, _, _, _, _ => none
  | k + 1, x0, x1, x8, x9 => (lines_Of.f x0 x1).bind fun t220 => (motion_paragraph.l0 k x0 x1 x8 x9 (wrap64 (t220 + x8)))
def motion_paragraph.l0 : Nat → List Int → Int → Int → Int → Int → Option (Int × Bool)
  | 0, _, _, _, _, _ => none
  | k + 1, x0, x1, x8, x9, x10 => (lines_Span.f k x0 x10).bind fun bt221 => (if bt221.2.2 = true then (if 0 ≤ bt221.1 then (if bt221.1 ≤ (wrap64 (bt221.1 + bt221.2.1)) then (if (wrap64 (bt221.1 + bt221.2.1)) ≤ (x0.length : Int) then ((lines_Bare.f k (strOfNums ((x0.take ((wrap64 (bt221.1 + bt221.2.1)) : Int).toNat).drop (bt221.1 : Int).toNat))).bind fun t226 => (if t226 = true then (some (bt221.1, true)) else (motion_paragraph.l0 k x0 x1 x8 x9 (wrap64 (x10 + x8))))) else (none)) else (none)) else (none)) else (some (x9, (x1 != x9))))
end
def motion_paragraph.f (k : Nat) (l0 : List Int) (a1 : Int) (a2_0 : Int) (a2_1 : Int) (a2_2 : Int) : Option (Int × Bool) := if a2_0 = 123 then (motion_paragraph.j0 k l0 a1 (-1) 0) else (motion_paragraph.j0 k l0 a1 1 (l0.length : Int))
theorem motion_paragraph.mono_l : ∀ k, (∀ y0 y1 y2 y3, LeO (motion_paragraph.j0 k y0 y1 y2 y3) (motion_paragraph.j0 (k + 1) y0 y1 y2 y3)) ∧ (∀ y0 y1 y2 y3 y4, LeO (motion_paragraph.l0 k y0 y1 y2 y3 y4) (motion_paragraph.l0 (k + 1) y0 y1 y2 y3 y4))
  | 0 => ⟨fun _ _ _ _ r h => by simp [motion_paragraph.j0] at h, fun _ _ _ _ _ r h => by simp [motion_paragraph.l0] at h⟩
  | k + 1 => by
    obtain ⟨ih0, ih1⟩ := motion_paragraph.mono_l k
    refine ⟨?_, ?_⟩
    · intro y0 y1 y2 y3
      unfold motion_paragraph.j0
      repeat' first
      | (with_reducible exact ih0 _ _ _ _)
      | (with_reducible exact ih1 _ _ _ _ _)
      | (with_reducible exact lines_Bare.mono _ _)
      | (with_reducible exact lines_Span.mono _ _ _)
      | (with_reducible exact LeO.refl _)
      | (with_reducible exact LeO.none _)
      | (with_reducible refine LeO.ite ?_ ?_)
      | (with_reducible refine LeO.bind ?_ (fun _ => ?_))
      | exact ih0 _ _ _ _
      | exact ih1 _ _ _ _ _
      | exact lines_Bare.mono _ _
      | exact lines_Span.mono _ _ _
      | exact LeO.none _
      | refine LeO.ite ?_ ?_
      | refine LeO.bind ?_ (fun _ => ?_)
    · intro y0 y1 y2 y3 y4
      unfold motion_paragraph.l0
      repeat' first
      | (with_reducible exact ih0 _ _ _ _)
      | (with_reducible exact ih1 _ _ _ _ _)
      | (with_reducible exact lines_Bare.mono _ _)
      | (with_reducible exact lines_Span.mono _ _ _)
      | (with_reducible exact LeO.refl _)
      | (with_reducible exact LeO.none _)
      | (with_reducible refine LeO.ite ?_ ?_)
      | (with_reducible refine LeO.bind ?_ (fun _ => ?_))
      | exact ih0 _ _ _ _
      | exact ih1 _ _ _ _ _
      | exact lines_Bare.mono _ _
      | exact lines_Span.mono _ _ _
      | exact LeO.none _
      | refine LeO.ite ?_ ?_
      | refine LeO.bind ?_ (fun _ => ?_)
theorem motion_paragraph.mono : ∀ a0 a1 a2 a3 a4 k, LeO (motion_paragraph.f k a0 a1 a2 a3 a4) (motion_paragraph.f (k + 1) a0 a1 a2 a3 a4) := by
  intro a0 a1 a2 a3 a4 k
  obtain ⟨ih0, ih1⟩ := motion_paragraph.mono_l k
  unfold motion_paragraph.f
  repeat' first
      | (with_reducible exact ih0 _ _ _ _)
      | (with_reducible exact ih1 _ _ _ _ _)
      | (with_reducible exact lines_Bare.mono _ _)
      | (with_reducible exact lines_Span.mono _ _ _)
      | (with_reducible exact LeO.refl _)
      | (with_reducible exact LeO.none _)
      | (with_reducible refine LeO.ite ?_ ?_)
      | (with_reducible refine LeO.bind ?_ (fun _ => ?_))
      | exact ih0 _ _ _ _
      | exact ih1 _ _ _ _ _
      | exact lines_Bare.mono _ _
      | exact lines_Span.mono _ _ _
      | exact LeO.none _
      | refine LeO.ite ?_ ?_
      | refine LeO.bind ?_ (fun _ => ?_)
set_option maxHeartbeats 8000000 in
set_option maxRecDepth 100000 in
theorem motion_paragraph.calls (k : Nat) (A0 : Option Addr) (c0 : Nat) (l0 : List Int) (a1 : Int) (a2_0 : Int) (a2_1 : Int) (a2_2 : Int) (r1 : Int) (r2 : Bool) (w : World) (hr0 : Kd.C (Kd.int .u8) w A0 l0.length l0) (hc0 : l0.length ≤ c0) (h : motion_paragraph.f k l0 a1 a2_0 a2_1 a2_2 = some (r1, r2)) :
  Calls Tryd.prog 40 #[.slice A0 l0.length c0, .int .i64 a1, .agg #[.int .u8 a2_0, .int .u8 a2_1, .int .i64 a2_2]] w fun e w' => e = .returned (.tuple #[.int .i64 r1, .bool r2]) ∧ Below w.heap.size w w' := by
 have hu30 := Tryd.underlying30
 have hu39 := Tryd.underlying39
 have HR0 := Aside0.mk hr0
 have HC0 := Aside0.mk hc0
 clear hr0 hc0
 have HB := Aside0.mk (Below.refl w.heap.size w)
 have H : (if a2_0 = 123 then (motion_paragraph.j0 k l0 a1 (-1) 0) else (motion_paragraph.j0 k l0 a1 1 (l0.length : Int))) = some (r1, r2) := h
 clear h
 have HC4 := Aside0.mk H
 clear H
 go_enter Tryd.func40, Tryd.ntmps40
 go_upto_if 17 with (first | ((with_reducible refine gate_dst (N := 5) rfl ?_); refine box_event ?hg (N := 5) ?hd (cs := #[.int .u8 a2_0, .int .u8 a2_1, .int .i64 a2_2]) (t := 30) ?hr ?_; (case hd => rfl); (case hg => rfl); (case hr => first | (go_simp; done) | (go_simp; rfl)); intro gb219 hg w5 hbox hb; have n0_ := Aside0.mk (below_step (by repeat (first | exact HB.out | apply bA | apply bN | apply bD)) hb); have n1_ := Aside0.mk (hbox); have n2_ := Aside0.mk ((by rw [hg]; exact (below_size (by repeat (first | exact HB.out | apply bA | apply bN | apply bD))) : w.heap.size ≤ gb219)); have n3_ := Aside0.mk ((by rw [hg]; exact (below_size (by repeat (first | exact HB.out | apply bA | apply bN | apply bD))) : w.heap.size ≤ gb219)); clear HB; have HB := n0_; have BK219 := n1_; have GW219 := n2_; have GE219 := n3_; clear n0_ n1_ n2_ n3_; clear hb hbox hg; have hcz6_0 : w5.cell? ⟨gb219, 0, none⟩ = some (.int .u8 a2_0) := (blk_cell BK219.out 0).trans rfl; have hcz6_1 : w5.cell? ⟨gb219, 1, none⟩ = some (.int .u8 a2_1) := (blk_cell BK219.out 1).trans rfl; have hcz6_2 : w5.cell? ⟨gb219, 2, none⟩ = some (.int .i64 a2_2) := (blk_cell BK219.out 2).trans rfl; have hfz6_0 := blk_frozen BK219.out 0; have hfz6_1 := blk_frozen BK219.out 1; have hfz6_2 := blk_frozen BK219.out 2))
 (try simp only [Act.put, zT, z0, zS])
 go_cut [8, 9] (fun v8 v9 wc => ∃ (kq : Nat) (x8_3 : Int) (x9_3 : Int), v8 = .int .i64 x8_3 ∧ v9 = .int .i64 x9_3 ∧ Aside0 (motion_paragraph.j0 kq l0 a1 x8_3 x9_3 = some (r1, r2)) ∧ Aside0 (kq ≤ k) ∧ Aside0 (wc.heap[gb219]? = some (.cells #[.int .u8 a2_0, .int .u8 a2_1, .int .i64 a2_2] 30 (0, 0))) ∧ Aside0 (Below w.heap.size w wc))
 case first =>
  have H := HC4.out
  clear HC4
  by_cases c7 : a2_0 = 123
  ·rw [if_pos c7] at H
   have c7b0 : (a2_0 == 123) = true := beq_iff_eq.mpr c7
   have c7b1 : (a2_0 != 123) = false := bne_eq_false_iff_eq.mpr c7
   clear c7
   (first | rw [c7b0] | (simp only [i64_w, i32_w]; rw [c7b0]) | skip)
   have H' := Aside0.mk H
   clear H
   go_wp2
   go_meet
   case rel => exact ⟨_, ((-1)), (0), (by first | rfl | (simp; done) | (simp [*]; done)), (by first | rfl | (simp; done) | (simp [*]; done)), H', ⟨by first | omega | exact Nat.le_refl _⟩, ⟨by (with_reducible repeat (first | refine kN ?_ _ | refine kD ?_ | refine kA ?_ _)); exact BK219.out⟩, ⟨by repeat (first | exact HB.out | apply bA | apply bN | apply bD | refine bS ?_ GE219.out)⟩⟩
  ·rw [if_neg c7] at H
   have c7b0 : (a2_0 == 123) = false := beq_eq_false_iff_ne.mpr c7
   have c7b1 : (a2_0 != 123) = true := bne_iff_ne.mpr c7
   (first | rw [c7b0] | (simp only [i64_w, i32_w]; rw [c7b0]) | skip)
   have H' := Aside0.mk H
   clear H
   go_wp2
   go_meet
   case rel => exact ⟨_, (1), ((l0.length : Int)), (by first | rfl | (simp; done) | (simp [*]; done)), (by first | rfl | (simp; done) | (simp [*]; done)), H', ⟨by first | omega | exact Nat.le_refl _⟩, ⟨by (with_reducible repeat (first | refine kN ?_ _ | refine kD ?_ | refine kA ?_ _)); exact BK219.out⟩, ⟨by repeat (first | exact HB.out | apply bA | apply bN | apply bD | refine bS ?_ GE219.out)⟩⟩
 case rest =>
  clear HC4
  try clear p2
  try clear c4
  try clear c7
  try clear c7b0
  try clear c7b1
  try clear hcz6_0
  try clear hcz6_1
  try clear hcz6_2
  try clear hfz6_0
  try clear hfz6_1
  try clear hfz6_2
  obtain ⟨kq, x8_3, x9_3, rfl, rfl, HA, HJ3, BK219, HB⟩ := hcut
  cases kq with
  | zero => exact absurd HA.out (by simp [motion_paragraph.j0])
  | succ kj3 =>
   have H := HA.out
   clear HA
   simp only [motion_paragraph.j0] at H
   replace H := Option.bind_eq_some_iff.mp H
   obtain ⟨t220, A80, H⟩ := H
   replace H : (motion_paragraph.l0 kj3 l0 a1 x8_3 x9_3 (wrap64 (t220 + x8_3))) = some (r1, r2) := H
   have A8 := Aside0.mk A80
   clear A80
   have H' := Aside0.mk H
   clear H
   go_wp2_with (first | ((with_reducible refine gate_callee (f := 57) rfl ?_); refine goesL_ (some 20) rfl rfl Tryd.func57 (by kernel_rfl) rfl #[.slice A0 l0.length c0, .int .i64 a1] rfl (by (try simp only [List.map_toArray, List.map_cons, List.map_nil]); first | done | rfl | (simp only [List.length_drop, List.length_take]; rfl)) ?_; (with_reducible refine (lines_Of.calls _ _ l0 a1 t220 _ ?side1 ?side2 A8.out).mono ?_); (case side1 => repeat (first | exact (Kd.C_below HR0.out HB.out) | (with_reducible refine Kd.C_alloc ?_ _) | (with_reducible refine Kd.C_drewN ?_ _) | (with_reducible refine Kd.C_drew ?_))); (case side2 => exact HC0.out); rintro e w9 ⟨rfl, hb⟩; refine ⟨_, rfl, ?_⟩; have n0_ := Aside0.mk (blk_below (g := gb219) (o := .cells #[.int .u8 a2_0, .int .u8 a2_1, .int .i64 a2_2] 30 (0, 0)) (by (with_reducible repeat (first | refine kN ?_ _ | refine kD ?_ | refine kA ?_ _)); exact BK219.out) hb); have n1_ := Aside0.mk (below_step (by repeat (first | exact HB.out | apply bA | apply bN | apply bD | refine bS ?_ GE219.out)) hb); clear BK219; clear HB; have BK219 := n0_; have HB := n1_; clear n0_ n1_; (try clear hb); (try clear hb2); (try clear hk); (try clear hi)))
   go_loopg [10] kj3 (fun kq v10 w' => ∃ (x10_2 : Int), v10 = .int .i64 x10_2 ∧ Aside0 (motion_paragraph.l0 kq l0 a1 x8_3 x9_3 x10_2 = some (r1, r2)) ∧ Aside0 (kq ≤ kj3) ∧ Aside0 (w'.heap[gb219]? = some (.cells #[.int .u8 a2_0, .int .u8 a2_1, .int .i64 a2_2] 30 (0, 0))) ∧ Aside0 (Below w.heap.size w w'))
   case atStart => exact ⟨(wrap64 (t220 + x8_3)), (by first | rfl | (simp; done) | (simp [*]; done)), H', ⟨Nat.le_refl _⟩, ⟨by (with_reducible repeat (first | refine kN ?_ _ | refine kD ?_ | refine kA ?_ _)); exact BK219.out⟩, ⟨by repeat (first | exact HB.out | apply bA | apply bN | apply bD | refine bS ?_ GE219.out)⟩⟩
   case round =>
    clear H'
    try clear p2
    try clear c4
    try clear c5
    try clear p6
    try clear c7
    try clear c7b0
    try clear c7b1
    try clear hcz6_0
    try clear hcz6_1
    try clear hcz6_2
    try clear hfz6_0
    try clear hfz6_1
    try clear hfz6_2
    try clear p2
    obtain ⟨x10_2, rfl, HA, HK2, BK219, HB⟩ := hrel
    cases gk with
    | zero => exact absurd HA.out (by simp [motion_paragraph.l0])
    | succ k2 =>
     have H := HA.out
     clear HA
     simp only [motion_paragraph.l0] at H
     replace H := Option.bind_eq_some_iff.mp H
     obtain ⟨⟨t221, t222, t223⟩, A100, H⟩ := H
     replace H : (if t223 = true then (if 0 ≤ t221 then (if t221 ≤ (wrap64 (t221 + t222)) then (if (wrap64 (t221 + t222)) ≤ (l0.length : Int) then ((lines_Bare.f k2 (strOfNums ((l0.take ((wrap64 (t221 + t222)) : Int).toNat).drop (t221 : Int).toNat))).bind fun t226 => (if t226 = true then (some (t221, true)) else (motion_paragraph.l0 k2 l0 a1 x8_3 x9_3 (wrap64 (x10_2 + x8_3))))) else (none)) else (none)) else (none)) else (some (x9_3, (a1 != x9_3)))) = some (r1, r2) := H
     have A10 := Aside0.mk A100
     clear A100
     by_cases c11 : t223 = true
     ·subst c11
      have H1 : (if 0 ≤ t221 then (if t221 ≤ (wrap64 (t221 + t222)) then (if (wrap64 (t221 + t222)) ≤ (l0.length : Int) then ((lines_Bare.f k2 (strOfNums ((l0.take ((wrap64 (t221 + t222)) : Int).toNat).drop (t221 : Int).toNat))).bind fun t226 => (if t226 = true then (some (t221, true)) else (motion_paragraph.l0 k2 l0 a1 x8_3 x9_3 (wrap64 (x10_2 + x8_3))))) else (none)) else (none)) else (none)) = some (r1, r2) := by rw [if_pos rfl] at H; exact H
      clear H
      have H := H1
      clear H1
      by_cases c12 : 0 ≤ t221
      ·rw [if_pos c12] at H
       have c12b0 := eq_true c12
       have c12b1 : decide (0 ≤ t221) = true := decide_eq_true c12
       clear c12
       by_cases c13 : t221 ≤ (wrap64 (t221 + t222))
       ·rw [if_pos c13] at H
        have c13b0 := eq_true c13
        have c13b1 : decide (t221 ≤ (wrap64 (t221 + t222))) = true := decide_eq_true c13
        by_cases c14 : (wrap64 (t221 + t222)) ≤ (l0.length : Int)
        ·rw [if_pos c14] at H
         have c14b0 := eq_true c14
         have c14b1 : decide ((wrap64 (t221 + t222)) ≤ (l0.length : Int)) = true := decide_eq_true c14
         replace H := Option.bind_eq_some_iff.mp H
         obtain ⟨t226, A150, H⟩ := H
         replace H : (if t226 = true then (some (t221, true)) else (motion_paragraph.l0 k2 l0 a1 x8_3 x9_3 (wrap64 (x10_2 + x8_3)))) = some (r1, r2) := H
         have A15 := Aside0.mk A150
         clear A150
         by_cases c16 : t226 = true
         ·subst c16
          have H1 : (some (t221, true)) = some (r1, r2) := by rw [if_pos rfl] at H; exact H
          clear H
          have H := H1
          clear H1
          simp only [Option.some.injEq, Prod.mk.injEq] at H
          obtain ⟨rfl, rfl⟩ := H
          go_wp2_with (first | ((with_reducible refine gate_callee (f := 33) rfl ?_); refine goesL_ (some 29) rfl rfl Tryd.func33 (by kernel_rfl) rfl #[.slice A0 l0.length c0, .int .i64 x10_2] rfl (by (try simp only [List.map_toArray, List.map_cons, List.map_nil]); first | done | rfl | (simp only [List.length_drop, List.length_take]; rfl)) ?_; (with_reducible refine (lines_Span.calls k2 _ _ l0 x10_2 t221 t222 true _ ?side1 ?side2 A10.out).mono ?_); (case side1 => repeat (first | exact (Kd.C_below HR0.out HB.out) | (with_reducible refine Kd.C_alloc ?_ _) | (with_reducible refine Kd.C_drewN ?_ _) | (with_reducible refine Kd.C_drew ?_))); (case side2 => exact HC0.out); rintro e w17 ⟨rfl, hb⟩; refine ⟨_, rfl, ?_⟩; have n0_ := Aside0.mk (blk_below (g := gb219) (o := .cells #[.int .u8 a2_0, .int .u8 a2_1, .int .i64 a2_2] 30 (0, 0)) (by (with_reducible repeat (first | refine kN ?_ _ | refine kD ?_ | refine kA ?_ _)); exact BK219.out) hb); have n1_ := Aside0.mk (below_step (by repeat (first | exact HB.out | apply bA | apply bN | apply bD | refine bS ?_ GE219.out)) hb); clear BK219; clear HB; have BK219 := n0_; have HB := n1_; clear n0_ n1_; (try clear hb); (try clear hb2); (try clear hk); (try clear hi)) | ((with_reducible refine gate_dst (N := 11) rfl ?_); refine box_event ?hg (N := 11) ?hd (cs := #[.int .i64 0, .int .i64 0]) (t := 39) ?hr ?_; (case hd => rfl); (case hg => rfl); (case hr => first | (go_simp; done) | (go_simp; rfl)); intro gb224 hg w18 hbox hb; have n0_ := Aside0.mk (blk_below (g := gb219) (o := .cells #[.int .u8 a2_0, .int .u8 a2_1, .int .i64 a2_2] 30 (0, 0)) (by (with_reducible repeat (first | refine kN ?_ _ | refine kD ?_ | refine kA ?_ _)); exact BK219.out) hb); have n1_ := Aside0.mk (below_step (by repeat (first | exact HB.out | apply bA | apply bN | apply bD | refine bS ?_ GE219.out)) hb); have n2_ := Aside0.mk (hbox); have n3_ := Aside0.mk ((by rw [hg]; exact (below_size (by repeat (first | exact HB.out | apply bA | apply bN | apply bD | refine bS ?_ GE219.out))) : w.heap.size ≤ gb224)); have n4_ := Aside0.mk ((by rw [hg]; exact (below_size (by repeat (first | exact HB.out | apply bA | apply bN | apply bD | refine bS ?_ GE219.out))) : w.heap.size ≤ gb224)); have n5_ := Aside0.mk ((by rw [hg]; exact Nat.ne_of_lt (blk_lt (g := gb219) (o := .cells #[.int .u8 a2_0, .int .u8 a2_1, .int .i64 a2_2] 30 (0, 0)) (by (with_reducible repeat (first | refine kN ?_ _ | refine kD ?_ | refine kA ?_ _)); exact BK219.out)) : gb219 ≠ gb224)); have n6_ := Aside0.mk ((by rw [hg]; exact Nat.ne_of_gt (blk_lt (g := gb219) (o := .cells #[.int .u8 a2_0, .int .u8 a2_1, .int .i64 a2_2] 30 (0, 0)) (by (with_reducible repeat (first | refine kN ?_ _ | refine kD ?_ | refine kA ?_ _)); exact BK219.out)) : gb224 ≠ gb219)); clear BK219; clear HB; have BK219 := n0_; have HB := n1_; have BK224 := n2_; have GW224 := n3_; have GE224 := n4_; have NB219_224 := n5_; have NB224_219 := n6_; clear n0_ n1_ n2_ n3_ n4_ n5_ n6_; clear hb hbox hg; have hnb19 := NB224_219.out; have hnc19 := NB219_224.out; have hcz20_0 : w18.cell? ⟨gb224, 0, none⟩ = some (.int .i64 0) := (blk_cell BK224.out 0).trans rfl; have hcz20_1 : w18.cell? ⟨gb224, 1, none⟩ = some (.int .i64 0) := (blk_cell BK224.out 1).trans rfl; have hfz20_0 := blk_frozen BK224.out 0; have hfz20_1 := blk_frozen BK224.out 1; obtain ⟨i021, hi021, _, hsz21, _⟩ := info_parts info5; obtain ⟨A21, hcut21, hA21, hC21⟩ := print_mid_of (P := Tryd.prog) (Value.int .u8) 0 22 5 .i64 .i64 Tryd.underlying22 hi021 hsz21 A0 c0 l0 t221 (wrap64 (t221 + t222)) (of_decide_eq_true (by first | (with_reducible assumption) | assumption)) (by first | omega | exact of_decide_eq_true (by first | (with_reducible assumption) | assumption)) (of_decide_eq_true (by first | (with_reducible assumption) | assumption)) HC0.out; have HR225 := Aside0.mk (Kd.C_of_reads (h1 := fun _ => rfl) (hA21 _ (Kd.reads_of_C HR0.out))); have HC225 := Aside0.mk hC21; clear hA21 hC21 hi021 hsz21; have hcv22 := Kd.C_string (P := Tryd.prog) (A := A21) (c := (c0 - t221.toNat)) Tryd.underlying22 Tryd.underlying5 Tryd.underlying9 (Kd.C_below HR225.out (show Below w.heap.size w ((w18.setCell ⟨gb224, 0, none⟩ (.int .i64 t221)).setCell ⟨gb224, 1, none⟩ (.int .i64 t222)) from by repeat (first | (with_reducible first | exact HB.out | apply below_alloc | apply pw_below_drewN | apply below_drew1 | refine below_set ?_ GE219.out | refine below_set ?_ GE224.out) | exact HB.out))); (try (have hcv22b := hcv22; rw [show ((l0.take ((wrap64 (t221 + t222)) : Int).toNat).drop (t221 : Int).toNat).length = ((wrap64 (t221 + t222)) : Int).toNat - (t221 : Int).toNat from by first | (simp only [List.length_drop, List.length_take]; omega) | (have hcu_ : (wrap64 (t221 + t222)) ≤ (l0.length : Int) := of_decide_eq_true (by first | (with_reducible assumption) | assumption); simp only [List.length_drop, List.length_take]; omega)] at hcv22b))) | ((with_reducible refine gate_callee (f := 63) rfl ?_); refine goesL_ (some 48) rfl rfl Tryd.func63 (by kernel_rfl) rfl #[.string (strOfNums ((l0.take ((wrap64 (t221 + t222)) : Int).toNat).drop (t221 : Int).toNat))] rfl (by (try simp only [List.map_toArray, List.map_cons, List.map_nil]); first | done | rfl | (simp only [List.length_drop, List.length_take]; rfl)) ?_; (with_reducible refine (lines_Bare.calls k2 (strOfNums ((l0.take ((wrap64 (t221 + t222)) : Int).toNat).drop (t221 : Int).toNat)) true _ A15.out).mono ?_); rintro e w' ⟨rfl, ⟨nd, rfl⟩⟩; refine ⟨_, rfl, ?_⟩))
          go_ret2
          exact ⟨by first | rfl | (simp [errW_none, errW_some] <;> rfl) | (simp [*, errW_none, errW_some] <;> rfl), by repeat (first | (with_reducible first | exact HB.out | apply below_alloc | apply pw_below_drewN | apply below_drew1 | refine below_set ?_ GE219.out | refine below_set ?_ GE224.out) | exact HB.out)⟩
         ·replace c16 := Bool.eq_false_iff.mpr c16
          subst c16
          have H1 : (motion_paragraph.l0 k2 l0 a1 x8_3 x9_3 (wrap64 (x10_2 + x8_3))) = some (r1, r2) := by rw [if_neg (show ¬ (false = true) by decide)] at H; exact H
          clear H
          have H := H1
          clear H1
          have H' := Aside0.mk H
          clear H
          go_wp2_with (first | ((with_reducible refine gate_callee (f := 33) rfl ?_); refine goesL_ (some 29) rfl rfl Tryd.func33 (by kernel_rfl) rfl #[.slice A0 l0.length c0, .int .i64 x10_2] rfl (by (try simp only [List.map_toArray, List.map_cons, List.map_nil]); first | done | rfl | (simp only [List.length_drop, List.length_take]; rfl)) ?_; (with_reducible refine (lines_Span.calls k2 _ _ l0 x10_2 t221 t222 true _ ?side1 ?side2 A10.out).mono ?_); (case side1 => repeat (first | exact (Kd.C_below HR0.out HB.out) | (with_reducible refine Kd.C_alloc ?_ _) | (with_reducible refine Kd.C_drewN ?_ _) | (with_reducible refine Kd.C_drew ?_))); (case side2 => exact HC0.out); rintro e w23 ⟨rfl, hb⟩; refine ⟨_, rfl, ?_⟩; have n0_ := Aside0.mk (blk_below (g := gb219) (o := .cells #[.int .u8 a2_0, .int .u8 a2_1, .int .i64 a2_2] 30 (0, 0)) (by (with_reducible repeat (first | refine kN ?_ _ | refine kD ?_ | refine kA ?_ _)); exact BK219.out) hb); have n1_ := Aside0.mk (below_step (by repeat (first | exact HB.out | apply bA | apply bN | apply bD | refine bS ?_ GE219.out)) hb); clear BK219; clear HB; have BK219 := n0_; have HB := n1_; clear n0_ n1_; (try clear hb); (try clear hb2); (try clear hk); (try clear hi)) | ((with_reducible refine gate_dst (N := 11) rfl ?_); refine box_event ?hg (N := 11) ?hd (cs := #[.int .i64 0, .int .i64 0]) (t := 39) ?hr ?_; (case hd => rfl); (case hg => rfl); (case hr => first | (go_simp; done) | (go_simp; rfl)); intro gb224 hg w24 hbox hb; have n0_ := Aside0.mk (blk_below (g := gb219) (o := .cells #[.int .u8 a2_0, .int .u8 a2_1, .int .i64 a2_2] 30 (0, 0)) (by (with_reducible repeat (first | refine kN ?_ _ | refine kD ?_ | refine kA ?_ _)); exact BK219.out) hb); have n1_ := Aside0.mk (below_step (by repeat (first | exact HB.out | apply bA | apply bN | apply bD | refine bS ?_ GE219.out)) hb); have n2_ := Aside0.mk (hbox); have n3_ := Aside0.mk ((by rw [hg]; exact (below_size (by repeat (first | exact HB.out | apply bA | apply bN | apply bD | refine bS ?_ GE219.out))) : w.heap.size ≤ gb224)); have n4_ := Aside0.mk ((by rw [hg]; exact (below_size (by repeat (first | exact HB.out | apply bA | apply bN | apply bD | refine bS ?_ GE219.out))) : w.heap.size ≤ gb224)); have n5_ := Aside0.mk ((by rw [hg]; exact Nat.ne_of_lt (blk_lt (g := gb219) (o := .cells #[.int .u8 a2_0, .int .u8 a2_1, .int .i64 a2_2] 30 (0, 0)) (by (with_reducible repeat (first | refine kN ?_ _ | refine kD ?_ | refine kA ?_ _)); exact BK219.out)) : gb219 ≠ gb224)); have n6_ := Aside0.mk ((by rw [hg]; exact Nat.ne_of_gt (blk_lt (g := gb219) (o := .cells #[.int .u8 a2_0, .int .u8 a2_1, .int .i64 a2_2] 30 (0, 0)) (by (with_reducible repeat (first | refine kN ?_ _ | refine kD ?_ | refine kA ?_ _)); exact BK219.out)) : gb224 ≠ gb219)); clear BK219; clear HB; have BK219 := n0_; have HB := n1_; have BK224 := n2_; have GW224 := n3_; have GE224 := n4_; have NB219_224 := n5_; have NB224_219 := n6_; clear n0_ n1_ n2_ n3_ n4_ n5_ n6_; clear hb hbox hg; have hnb25 := NB224_219.out; have hnc25 := NB219_224.out; have hcz26_0 : w24.cell? ⟨gb224, 0, none⟩ = some (.int .i64 0) := (blk_cell BK224.out 0).trans rfl; have hcz26_1 : w24.cell? ⟨gb224, 1, none⟩ = some (.int .i64 0) := (blk_cell BK224.out 1).trans rfl; have hfz26_0 := blk_frozen BK224.out 0; have hfz26_1 := blk_frozen BK224.out 1; obtain ⟨i027, hi027, _, hsz27, _⟩ := info_parts info5; obtain ⟨A27, hcut27, hA27, hC27⟩ := print_mid_of (P := Tryd.prog) (Value.int .u8) 0 22 5 .i64 .i64 Tryd.underlying22 hi027 hsz27 A0 c0 l0 t221 (wrap64 (t221 + t222)) (of_decide_eq_true (by first | (with_reducible assumption) | assumption)) (by first | omega | exact of_decide_eq_true (by first | (with_reducible assumption) | assumption)) (of_decide_eq_true (by first | (with_reducible assumption) | assumption)) HC0.out; have HR225 := Aside0.mk (Kd.C_of_reads (h1 := fun _ => rfl) (hA27 _ (Kd.reads_of_C HR0.out))); have HC225 := Aside0.mk hC27; clear hA27 hC27 hi027 hsz27; have hcv28 := Kd.C_string (P := Tryd.prog) (A := A27) (c := (c0 - t221.toNat)) Tryd.underlying22 Tryd.underlying5 Tryd.underlying9 (Kd.C_below HR225.out (show Below w.heap.size w ((w24.setCell ⟨gb224, 0, none⟩ (.int .i64 t221)).setCell ⟨gb224, 1, none⟩ (.int .i64 t222)) from by repeat (first | (with_reducible first | exact HB.out | apply below_alloc | apply pw_below_drewN | apply below_drew1 | refine below_set ?_ GE219.out | refine below_set ?_ GE224.out) | exact HB.out))); (try (have hcv28b := hcv28; rw [show ((l0.take ((wrap64 (t221 + t222)) : Int).toNat).drop (t221 : Int).toNat).length = ((wrap64 (t221 + t222)) : Int).toNat - (t221 : Int).toNat from by first | (simp only [List.length_drop, List.length_take]; omega) | (have hcu_ : (wrap64 (t221 + t222)) ≤ (l0.length : Int) := of_decide_eq_true (by first | (with_reducible assumption) | assumption); simp only [List.length_drop, List.length_take]; omega)] at hcv28b))) | ((with_reducible refine gate_callee (f := 63) rfl ?_); refine goesL_ (some 48) rfl rfl Tryd.func63 (by kernel_rfl) rfl #[.string (strOfNums ((l0.take ((wrap64 (t221 + t222)) : Int).toNat).drop (t221 : Int).toNat))] rfl (by (try simp only [List.map_toArray, List.map_cons, List.map_nil]); first | done | rfl | (simp only [List.length_drop, List.length_take]; rfl)) ?_; (with_reducible refine (lines_Bare.calls k2 (strOfNums ((l0.take ((wrap64 (t221 + t222)) : Int).toNat).drop (t221 : Int).toNat)) false _ A15.out).mono ?_); rintro e w' ⟨rfl, ⟨nd, rfl⟩⟩; refine ⟨_, rfl, ?_⟩))
          go_roundg k2
          case measure => have := HJ3.out; have := HK2.out; omega
          case rel => exact ⟨(wrap64 (x10_2 + x8_3)), (by first | rfl | (simp; done) | (simp [*]; done)), H', ⟨by have := HJ3.out; have := HK2.out; omega⟩, ⟨by (with_reducible repeat (first | refine kN ?_ _ | refine kD ?_ | refine kA ?_ _)); refine blk_far ?_ NB219_224.out _; (with_reducible repeat (first | refine kN ?_ _ | refine kD ?_ | refine kA ?_ _)); refine blk_far ?_ NB219_224.out _; (with_reducible repeat (first | refine kN ?_ _ | refine kD ?_ | refine kA ?_ _)); exact BK219.out⟩, ⟨by repeat (first | (with_reducible first | exact HB.out | apply below_alloc | apply pw_below_drewN | apply below_drew1 | refine below_set ?_ GE219.out | refine below_set ?_ GE224.out) | exact HB.out)⟩⟩
        ·rw [if_neg c14] at H
         exact absurd H (by simp)
       ·rw [if_neg c13] at H
        exact absurd H (by simp)
      ·rw [if_neg c12] at H
       exact absurd H (by simp)
     ·replace c11 := Bool.eq_false_iff.mpr c11
      subst c11
      have H1 : (some (x9_3, (a1 != x9_3))) = some (r1, r2) := by rw [if_neg (show ¬ (false = true) by decide)] at H; exact H
      clear H
      have H := H1
      clear H1
      simp only [Option.some.injEq, Prod.mk.injEq] at H
      obtain ⟨rfl, rfl⟩ := H
      go_wp2_with (first | ((with_reducible refine gate_callee (f := 33) rfl ?_); refine goesL_ (some 29) rfl rfl Tryd.func33 (by kernel_rfl) rfl #[.slice A0 l0.length c0, .int .i64 x10_2] rfl (by (try simp only [List.map_toArray, List.map_cons, List.map_nil]); first | done | rfl | (simp only [List.length_drop, List.length_take]; rfl)) ?_; (with_reducible refine (lines_Span.calls k2 _ _ l0 x10_2 t221 t222 false _ ?side1 ?side2 A10.out).mono ?_); (case side1 => repeat (first | exact (Kd.C_below HR0.out HB.out) | (with_reducible refine Kd.C_alloc ?_ _) | (with_reducible refine Kd.C_drewN ?_ _) | (with_reducible refine Kd.C_drew ?_))); (case side2 => exact HC0.out); rintro e w29 ⟨rfl, hb⟩; refine ⟨_, rfl, ?_⟩; have n0_ := Aside0.mk (blk_below (g := gb219) (o := .cells #[.int .u8 a2_0, .int .u8 a2_1, .int .i64 a2_2] 30 (0, 0)) (by (with_reducible repeat (first | refine kN ?_ _ | refine kD ?_ | refine kA ?_ _)); exact BK219.out) hb); have n1_ := Aside0.mk (below_step (by repeat (first | exact HB.out | apply bA | apply bN | apply bD | refine bS ?_ GE219.out)) hb); clear BK219; clear HB; have BK219 := n0_; have HB := n1_; clear n0_ n1_; (try clear hb); (try clear hb2); (try clear hk); (try clear hi)) | ((with_reducible refine gate_dst (N := 11) rfl ?_); refine box_event ?hg (N := 11) ?hd (cs := #[.int .i64 0, .int .i64 0]) (t := 39) ?hr ?_; (case hd => rfl); (case hg => rfl); (case hr => first | (go_simp; done) | (go_simp; rfl)); intro gb224 hg w30 hbox hb; have n0_ := Aside0.mk (blk_below (g := gb219) (o := .cells #[.int .u8 a2_0, .int .u8 a2_1, .int .i64 a2_2] 30 (0, 0)) (by (with_reducible repeat (first | refine kN ?_ _ | refine kD ?_ | refine kA ?_ _)); exact BK219.out) hb); have n1_ := Aside0.mk (below_step (by repeat (first | exact HB.out | apply bA | apply bN | apply bD | refine bS ?_ GE219.out)) hb); have n2_ := Aside0.mk (hbox); have n3_ := Aside0.mk ((by rw [hg]; exact (below_size (by repeat (first | exact HB.out | apply bA | apply bN | apply bD | refine bS ?_ GE219.out))) : w.heap.size ≤ gb224)); have n4_ := Aside0.mk ((by rw [hg]; exact (below_size (by repeat (first | exact HB.out | apply bA | apply bN | apply bD | refine bS ?_ GE219.out))) : w.heap.size ≤ gb224)); have n5_ := Aside0.mk ((by rw [hg]; exact Nat.ne_of_lt (blk_lt (g := gb219) (o := .cells #[.int .u8 a2_0, .int .u8 a2_1, .int .i64 a2_2] 30 (0, 0)) (by (with_reducible repeat (first | refine kN ?_ _ | refine kD ?_ | refine kA ?_ _)); exact BK219.out)) : gb219 ≠ gb224)); have n6_ := Aside0.mk ((by rw [hg]; exact Nat.ne_of_gt (blk_lt (g := gb219) (o := .cells #[.int .u8 a2_0, .int .u8 a2_1, .int .i64 a2_2] 30 (0, 0)) (by (with_reducible repeat (first | refine kN ?_ _ | refine kD ?_ | refine kA ?_ _)); exact BK219.out)) : gb224 ≠ gb219)); clear BK219; clear HB; have BK219 := n0_; have HB := n1_; have BK224 := n2_; have GW224 := n3_; have GE224 := n4_; have NB219_224 := n5_; have NB224_219 := n6_; clear n0_ n1_ n2_ n3_ n4_ n5_ n6_; clear hb hbox hg; have hnb31 := NB224_219.out; have hnc31 := NB219_224.out; have hcz32_0 : w30.cell? ⟨gb224, 0, none⟩ = some (.int .i64 0) := (blk_cell BK224.out 0).trans rfl; have hcz32_1 : w30.cell? ⟨gb224, 1, none⟩ = some (.int .i64 0) := (blk_cell BK224.out 1).trans rfl; have hfz32_0 := blk_frozen BK224.out 0; have hfz32_1 := blk_frozen BK224.out 1))
      go_ret2
      exact ⟨by first | rfl | (simp [errW_none, errW_some] <;> rfl) | (simp [*, errW_none, errW_some] <;> rfl), by repeat (first | (with_reducible first | exact HB.out | apply below_alloc | apply pw_below_drewN | apply below_drew1 | refine below_set ?_ GE219.out | refine below_set ?_ GE224.out) | exact HB.out)⟩

end Go.Proofs.YtloafpnniooliaaDoor.Pa
