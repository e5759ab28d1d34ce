-- Written by a program of this session for this claim (functions and their contracts, out of Lean's own print of the program).
import Derived.Test.YthhblhhbobnaiaaPlKinds
namespace Go.Proofs.Ythhblhhbobnaiaa.Pl
open Go.RowKit Go.Proofs.YthhblhhbobnaiaaW.PrintWords Go.Proofs.YthhblhhbobnaiaaW.PrintLast Go.Proofs.YthhblhhbobnaiaaW.PrintMore
attribute [local go_sem] max2_int min2_int max_two min_two max_three min_three max_four min_four   -- for this text's walks alone
set_option linter.unusedVariables false
set_option linter.unusedSimpArgs false

/-! ### gaugerlaw17_great: function 6 -/
mutual
def gaugerlaw17_great.j0 : Nat → List (S54) → Bool → List (S50) → List (S52) → Option (Bool)
  | 0, _, _, _, _ => none
  | k + 1, x1, x22, x138000, x138001 => if x22 = true then (some true) else (gaugerlaw17_great.l0 k x1 0 x138000 x138001)
def gaugerlaw17_great.l0 : Nat → List (S54) → Int → List (S50) → List (S52) → Option (Bool)
  | 0, _, _, _, _ => none
  | k + 1, x1, x5, x138000, x138001 => if x5 < (x138000.length : Int) then (if 0 ≤ x5 then (if (((rd_T50 x138000 x5).f0).length : Int) > 10 then (some true) else (gaugerlaw17_great.l0 k x1 (wrap64 (x5 + 1)) x138000 x138001)) else (none)) else (gaugerlaw17_great.l1 k x1 0 x138000 x138001)
def gaugerlaw17_great.l1 : Nat → List (S54) → Int → List (S50) → List (S52) → Option (Bool)
  | 0, _, _, _, _ => none
  | k + 1, x1, x6, x138000, x138001 => if x6 < (x138001.length : Int) then (if 0 ≤ x6 then (if (((rd_T52 x138001 x6).f2).length : Int) > 10 then (some true) else (gaugerlaw17_great.l1 k x1 (wrap64 (x6 + 1)) x138000 x138001)) else (none)) else (gaugerlaw17_great.l2 k x1 0)
def gaugerlaw17_great.l2 : Nat → List (S54) → Int → Option (Bool)
  | 0, _, _ => none
  | k + 1, x1, x7 => if x7 < (x1.length : Int) then (if 0 ≤ x7 then (if (((rd_T54 x1 x7).f2).size : Int) > 60 then (some true) else (gaugerlaw17_great.l2 k x1 (wrap64 (x7 + 1)))) else (none)) else (some false)
end
def gaugerlaw17_great.f (k : Nat) (l0_0 : List (S50)) (l0_1 : List (S52)) (l1 : List (S54)) : Option (Bool) := if (l0_0.length : Int) > 6 then (gaugerlaw17_great.j0 k l1 true l0_0 l0_1) else (if (l0_1.length : Int) > 8 then (gaugerlaw17_great.j0 k l1 true l0_0 l0_1) else (gaugerlaw17_great.j0 k l1 (decide ((l1.length : Int) > 10)) l0_0 l0_1))
theorem gaugerlaw17_great.mono_l : ∀ k, (∀ y0 y1 y2 y3, LeO (gaugerlaw17_great.j0 k y0 y1 y2 y3) (gaugerlaw17_great.j0 (k + 1) y0 y1 y2 y3)) ∧ (∀ y0 y1 y2 y3, LeO (gaugerlaw17_great.l0 k y0 y1 y2 y3) (gaugerlaw17_great.l0 (k + 1) y0 y1 y2 y3)) ∧ (∀ y0 y1 y2 y3, LeO (gaugerlaw17_great.l1 k y0 y1 y2 y3) (gaugerlaw17_great.l1 (k + 1) y0 y1 y2 y3)) ∧ (∀ y0 y1, LeO (gaugerlaw17_great.l2 k y0 y1) (gaugerlaw17_great.l2 (k + 1) y0 y1))
  | 0 => ⟨fun _ _ _ _ r h => by simp [gaugerlaw17_great.j0] at h, fun _ _ _ _ r h => by simp [gaugerlaw17_great.l0] at h, fun _ _ _ _ r h => by simp [gaugerlaw17_great.l1] at h, fun _ _ r h => by simp [gaugerlaw17_great.l2] at h⟩
  | k + 1 => by
    obtain ⟨ih0, ih1, ih2, ih3⟩ := gaugerlaw17_great.mono_l k
    refine ⟨?_, ?_, ?_, ?_⟩
    · intro y0 y1 y2 y3
      unfold gaugerlaw17_great.j0
      repeat' first
      | (with_reducible exact ih0 _ _ _ _)
      | (with_reducible exact ih1 _ _ _ _)
      | (with_reducible exact ih2 _ _ _ _)
      | (with_reducible exact ih3 _ _)
      | (with_reducible exact LeO.refl _)
      | (with_reducible exact LeO.none _)
      | (with_reducible refine LeO.ite ?_ ?_)
      | (with_reducible refine LeO.bind ?_ (fun _ => ?_))
      | exact ih0 _ _ _ _
      | exact ih1 _ _ _ _
      | exact ih2 _ _ _ _
      | exact ih3 _ _
      | exact LeO.none _
      | refine LeO.ite ?_ ?_
      | refine LeO.bind ?_ (fun _ => ?_)
    · intro y0 y1 y2 y3
      unfold gaugerlaw17_great.l0
      repeat' first
      | (with_reducible exact ih0 _ _ _ _)
      | (with_reducible exact ih1 _ _ _ _)
      | (with_reducible exact ih2 _ _ _ _)
      | (with_reducible exact ih3 _ _)
      | (with_reducible exact LeO.refl _)
      | (with_reducible exact LeO.none _)
      | (with_reducible refine LeO.ite ?_ ?_)
      | (with_reducible refine LeO.bind ?_ (fun _ => ?_))
      | exact ih0 _ _ _ _
      | exact ih1 _ _ _ _
      | exact ih2 _ _ _ _
      | exact ih3 _ _
      | exact LeO.none _
      | refine LeO.ite ?_ ?_
      | refine LeO.bind ?_ (fun _ => ?_)
    · intro y0 y1 y2 y3
      unfold gaugerlaw17_great.l1
      repeat' first
      | (with_reducible exact ih0 _ _ _ _)
      | (with_reducible exact ih1 _ _ _ _)
      | (with_reducible exact ih2 _ _ _ _)
      | (with_reducible exact ih3 _ _)
      | (with_reducible exact LeO.refl _)
      | (with_reducible exact LeO.none _)
      | (with_reducible refine LeO.ite ?_ ?_)
      | (with_reducible refine LeO.bind ?_ (fun _ => ?_))
      | exact ih0 _ _ _ _
      | exact ih1 _ _ _ _
      | exact ih2 _ _ _ _
      | exact ih3 _ _
      | exact LeO.none _
      | refine LeO.ite ?_ ?_
      | refine LeO.bind ?_ (fun _ => ?_)
    · intro y0 y1
      unfold gaugerlaw17_great.l2
      repeat' first
      | (with_reducible exact ih0 _ _ _ _)
      | (with_reducible exact ih1 _ _ _ _)
      | (with_reducible exact ih2 _ _ _ _)
      | (with_reducible exact ih3 _ _)
      | (with_reducible exact LeO.refl _)
      | (with_reducible exact LeO.none _)
      | (with_reducible refine LeO.ite ?_ ?_)
      | (with_reducible refine LeO.bind ?_ (fun _ => ?_))
      | exact ih0 _ _ _ _
      | exact ih1 _ _ _ _
      | exact ih2 _ _ _ _
      | exact ih3 _ _
      | exact LeO.none _
      | refine LeO.ite ?_ ?_
      | refine LeO.bind ?_ (fun _ => ?_)
theorem gaugerlaw17_great.mono : ∀ a0 a1 a2 k, LeO (gaugerlaw17_great.f k a0 a1 a2) (gaugerlaw17_great.f (k + 1) a0 a1 a2) := by
  intro a0 a1 a2 k
  obtain ⟨ih0, ih1, ih2, ih3⟩ := gaugerlaw17_great.mono_l k
  unfold gaugerlaw17_great.f
  repeat' first
      | (with_reducible exact ih0 _ _ _ _)
      | (with_reducible exact ih1 _ _ _ _)
      | (with_reducible exact ih2 _ _ _ _)
      | (with_reducible exact ih3 _ _)
      | (with_reducible exact LeO.refl _)
      | (with_reducible exact LeO.none _)
      | (with_reducible refine LeO.ite ?_ ?_)
      | (with_reducible refine LeO.bind ?_ (fun _ => ?_))
      | exact ih0 _ _ _ _
      | exact ih1 _ _ _ _
      | exact ih2 _ _ _ _
      | exact ih3 _ _
      | exact LeO.none _
      | refine LeO.ite ?_ ?_
      | refine LeO.bind ?_ (fun _ => ?_)
set_option maxHeartbeats 8000000 in
set_option maxRecDepth 100000 in
theorem gaugerlaw17_great.calls (k : Nat) (A0_0 : Option Addr) (c0_0 : Nat) (l0_0 : List (S50)) (A0_1 : Option Addr) (c0_1 : Nat) (l0_1 : List (S52)) (A1 : Option Addr) (c1 : Nat) (l1 : List (S54)) (r : Bool) (w : World) (hr0_0 : Kd.C k50 w A0_0 l0_0.length l0_0) (hc0_0 : l0_0.length ≤ c0_0) (hr0_1 : Kd.C k52 w A0_1 l0_1.length l0_1) (hc0_1 : l0_1.length ≤ c0_1) (hr1 : Kd.C k54 w A1 l1.length l1) (hc1 : l1.length ≤ c1) (h : gaugerlaw17_great.f k l0_0 l0_1 l1 = some r) :
    Calls Try.prog 6 #[.agg #[.slice A0_0 l0_0.length c0_0, .slice A0_1 l0_1.length c0_1], .slice A1 l1.length c1] w fun e w' => e = .returned (.bool r) ∧ Below w.heap.size w w' := by
  have hu25 := Try.underlying25
  have HR0_0 := Aside0.mk hr0_0
  have HC0_0 := Aside0.mk hc0_0
  clear hr0_0 hc0_0
  have HR0_1 := Aside0.mk hr0_1
  have HC0_1 := Aside0.mk hc0_1
  clear hr0_1 hc0_1
  have HR1 := Aside0.mk hr1
  have HC1 := Aside0.mk hc1
  clear hr1 hc1
  have HB := Aside0.mk (Below.refl w.heap.size w)
  have H : (if (l0_0.length : Int) > 6 then (gaugerlaw17_great.j0 k l1 true l0_0 l0_1) else (if (l0_1.length : Int) > 8 then (gaugerlaw17_great.j0 k l1 true l0_0 l0_1) else (gaugerlaw17_great.j0 k l1 (decide ((l1.length : Int) > 10)) l0_0 l0_1))) = some r := h
  clear h
  have HC3 := Aside0.mk H
  clear H
  go_enter Try.func6, Try.ntmps6
  go_upto_region 1 with (first | ((with_reducible refine gate_dst (N := 2) rfl ?_); (try (refine gate_guard (by rfl) ?_; dsimp only)); refine box_event ?hg (N := 2) ?hd (cs := #[.slice A0_0 l0_0.length c0_0, .slice A0_1 l0_1.length c0_1]) (t := 25) ?hr ?_; (case hd => rfl); (case hg => rfl); (case hr => first | (go_simp; done) | (go_simp; rfl)); intro gb137 hg w4 hbox hb; have n0_ := Aside0.mk (below_step (by repeat (first | (with_reducible first | exact HB.out | apply below_alloc | apply pw_below_drewN | apply below_drew1) | exact HB.out)) hb); have n1_ := Aside0.mk (hbox); have n2_ := Aside0.mk ((by rw [hg]; exact (below_size (by repeat (first | (with_reducible first | exact HB.out | apply below_alloc | apply pw_below_drewN | apply below_drew1) | exact HB.out))) : w.heap.size ≤ gb137)); have n3_ := Aside0.mk ((by rw [hg]; exact (below_size (by repeat (first | (with_reducible first | exact HB.out | apply below_alloc | apply pw_below_drewN | apply below_drew1) | exact HB.out))) : w.heap.size ≤ gb137)); clear HB; have HB := n0_; have BK137 := n1_; have GW137 := n2_; have GE137 := n3_; clear n0_ n1_ n2_ n3_; clear hb hbox hg))
  (try simp only [Act.put, List.setIfInBounds_toArray, List.set_cons_zero, List.set_cons_succ])
  go_cut [22] (fun v22 wc => ∃ (kq : Nat) (x22_2 : Bool), v22 = .bool x22_2 ∧ Aside0 (gaugerlaw17_great.j0 kq l1 x22_2 l0_0 l0_1 = some r) ∧ Aside0 (kq ≤ k) ∧ Aside0 (wc.heap[gb137]? = some (.cells #[(.slice A0_0 l0_0.length c0_0), (.slice A0_1 l0_1.length c0_1)] 25 (0, 0))) ∧ Aside0 (Below w.heap.size w wc))
  case first =>
    have H := HC3.out
    clear HC3
    by_cases c5 : (l0_0.length : Int) > 6
    · rw [if_pos c5] at H
      have c5b0 : decide (6 < (l0_0.length : Int)) = true := decide_eq_true c5
      have c5b1 : decide (6 < l0_0.length) = true := decide_eq_true (by omega)
      clear c5
      (first | rw [c5b0] | (simp only [i64_w, i32_w]; rw [c5b0]) | skip)
      have H' := Aside0.mk H
      clear H
      have hcz6_0 : w4.cell? ⟨gb137, 0, none⟩ = some (.slice A0_0 l0_0.length c0_0) := (blk_cell BK137.out 0).trans rfl
      have hcz6_1 : w4.cell? ⟨gb137, 1, none⟩ = some (.slice A0_1 l0_1.length c0_1) := (blk_cell BK137.out 1).trans rfl
      have hfz6_0 := blk_frozen BK137.out 0
      have hfz6_1 := blk_frozen BK137.out 1
      go_wp2
      go_meet
      case rel => exact ⟨_, (true), (by first | rfl | (simp; done) | (simp [*]; done)), H', ⟨by first | omega | exact Nat.le_refl _⟩, ⟨by (with_reducible repeat (first | refine blk_drewN ?_ _ | refine blk_drew ?_ | refine blk_alloc ?_ _)); exact BK137.out⟩, ⟨by repeat (first | (with_reducible first | exact HB.out | apply below_alloc | apply pw_below_drewN | apply below_drew1 | refine below_set ?_ GE137.out) | exact HB.out)⟩⟩
    · rw [if_neg c5] at H
      have c5b0 : decide (6 < (l0_0.length : Int)) = false := decide_eq_false c5
      have c5b1 : decide (6 < l0_0.length) = false := decide_eq_false (by omega)
      clear c5
      (first | rw [c5b0] | (simp only [i64_w, i32_w]; rw [c5b0]) | skip)
      by_cases c7 : (l0_1.length : Int) > 8
      · rw [if_pos c7] at H
        have c7b0 : decide (8 < (l0_1.length : Int)) = true := decide_eq_true c7
        have c7b1 : decide (8 < l0_1.length) = true := decide_eq_true (by omega)
        clear c7
        have H' := Aside0.mk H
        clear H
        have hcz8_0 : w4.cell? ⟨gb137, 0, none⟩ = some (.slice A0_0 l0_0.length c0_0) := (blk_cell BK137.out 0).trans rfl
        have hcz8_1 : w4.cell? ⟨gb137, 1, none⟩ = some (.slice A0_1 l0_1.length c0_1) := (blk_cell BK137.out 1).trans rfl
        have hfz8_0 := blk_frozen BK137.out 0
        have hfz8_1 := blk_frozen BK137.out 1
        go_wp2
        go_meet
        case rel => exact ⟨_, (true), (by first | rfl | (simp; done) | (simp [*]; done)), H', ⟨by first | omega | exact Nat.le_refl _⟩, ⟨by (with_reducible repeat (first | refine blk_drewN ?_ _ | refine blk_drew ?_ | refine blk_alloc ?_ _)); exact BK137.out⟩, ⟨by repeat (first | (with_reducible first | exact HB.out | apply below_alloc | apply pw_below_drewN | apply below_drew1 | refine below_set ?_ GE137.out) | exact HB.out)⟩⟩
      · rw [if_neg c7] at H
        have c7b0 : decide (8 < (l0_1.length : Int)) = false := decide_eq_false c7
        have c7b1 : decide (8 < l0_1.length) = false := decide_eq_false (by omega)
        clear c7
        have H' := Aside0.mk H
        clear H
        have hcz9_0 : w4.cell? ⟨gb137, 0, none⟩ = some (.slice A0_0 l0_0.length c0_0) := (blk_cell BK137.out 0).trans rfl
        have hcz9_1 : w4.cell? ⟨gb137, 1, none⟩ = some (.slice A0_1 l0_1.length c0_1) := (blk_cell BK137.out 1).trans rfl
        have hfz9_0 := blk_frozen BK137.out 0
        have hfz9_1 := blk_frozen BK137.out 1
        go_wp2
        go_meet
        case rel => exact ⟨_, (decide ((l1.length : Int) > 10)), (by first | rfl | (simp; done) | (simp [*]; done)), H', ⟨by first | omega | exact Nat.le_refl _⟩, ⟨by (with_reducible repeat (first | refine blk_drewN ?_ _ | refine blk_drew ?_ | refine blk_alloc ?_ _)); exact BK137.out⟩, ⟨by repeat (first | (with_reducible first | exact HB.out | apply below_alloc | apply pw_below_drewN | apply below_drew1 | refine below_set ?_ GE137.out) | exact HB.out)⟩⟩
  case rest =>
    clear HC3
    try clear c1
    try clear p2
    try clear c5
    try clear c5b0
    try clear c5b1
    try clear c6
    try clear c7
    try clear c7b0
    try clear c7b1
    try clear hcz6_0
    try clear hcz6_1
    try clear hcz8_0
    try clear hcz8_1
    try clear hcz9_0
    try clear hcz9_1
    try clear hfz6_0
    try clear hfz6_1
    try clear hfz8_0
    try clear hfz8_1
    try clear hfz9_0
    try clear hfz9_1
    obtain ⟨kq, x22_2, rfl, HA, HJ2, BK137, HB⟩ := hcut
    cases kq with
    | zero => exact absurd HA.out (by simp [gaugerlaw17_great.j0])
    | succ kj2 =>
      have H := HA.out
      clear HA
      simp only [gaugerlaw17_great.j0] at H
      by_cases c10 : x22_2 = true
      · subst c10
        have H1 : (some true) = some r := by rw [if_pos rfl] at H; exact H
        clear H
        have H := H1
        clear H1
        obtain rfl := Option.some.inj H
        go_wp2
        go_ret
        exact ⟨by first | rfl | (simp [errW_none, errW_some] <;> rfl) | (simp [*, errW_none, errW_some] <;> rfl), by repeat (first | (with_reducible first | exact HB.out | apply below_alloc | apply pw_below_drewN | apply below_drew1 | refine below_set ?_ GE137.out) | exact HB.out)⟩
      · replace c10 := Bool.eq_false_iff.mpr c10
        subst c10
        have H1 : (gaugerlaw17_great.l0 kj2 l1 0 l0_0 l0_1) = some r := by rw [if_neg (show ¬ (false = true) by decide)] at H; exact H
        clear H
        have H := H1
        clear H1
        have H' := Aside0.mk H
        clear H
        go_wp2
        go_loopg [5] kj2 (fun kq v5 w' => ∃ (x5_2 : Int), v5 = .int .i64 x5_2 ∧ Aside0 (gaugerlaw17_great.l0 kq l1 x5_2 l0_0 l0_1 = some r) ∧ Aside0 (kq ≤ kj2) ∧ Aside0 (w'.heap[gb137]? = some (.cells #[(.slice A0_0 l0_0.length c0_0), (.slice A0_1 l0_1.length c0_1)] 25 (0, 0))) ∧ Aside0 (Below w.heap.size w w'))
        case atStart => exact ⟨(0), (by first | rfl | (simp; done) | (simp [*]; done)), H', ⟨Nat.le_refl _⟩, ⟨by (with_reducible repeat (first | refine blk_drewN ?_ _ | refine blk_drew ?_ | refine blk_alloc ?_ _)); exact BK137.out⟩, ⟨by repeat (first | (with_reducible first | exact HB.out | apply below_alloc | apply pw_below_drewN | apply below_drew1 | refine below_set ?_ GE137.out) | exact HB.out)⟩⟩
        case round =>
          clear H'
          try clear c1
          try clear p2
          try clear c5
          try clear c5b0
          try clear c5b1
          try clear c6
          try clear c7
          try clear c7b0
          try clear c7b1
          try clear c10
          try clear hcz6_0
          try clear hcz6_1
          try clear hcz8_0
          try clear hcz8_1
          try clear hcz9_0
          try clear hcz9_1
          try clear hfz6_0
          try clear hfz6_1
          try clear hfz8_0
          try clear hfz8_1
          try clear hfz9_0
          try clear hfz9_1
          try clear p2
          obtain ⟨x5_2, rfl, HA, HK2, BK137, HB⟩ := hrel
          cases gk with
          | zero => exact absurd HA.out (by simp [gaugerlaw17_great.l0])
          | succ k2 =>
            have H := HA.out
            clear HA
            simp only [gaugerlaw17_great.l0] at H
            by_cases c11 : x5_2 < (l0_0.length : Int)
            · rw [if_pos c11] at H
              have c11b0 : decide (x5_2 < (l0_0.length : Int)) = true := decide_eq_true c11
              clear c11
              by_cases c12 : 0 ≤ x5_2
              · rw [if_pos c12] at H
                have c12b0 : decide (0 ≤ x5_2) = true := decide_eq_true c12
                clear c12
                by_cases c13 : (((rd_T50 l0_0 x5_2).f0).length : Int) > 10
                · rw [if_pos c13] at H
                  have c13b0 : decide (10 < (((rd_T50 l0_0 x5_2).f0).length : Int)) = true := decide_eq_true c13
                  have c13b1 : decide (10 < ((rd_T50 l0_0 x5_2).f0).length) = true := decide_eq_true (by omega)
                  clear c13
                  obtain rfl := Option.some.inj H
                  have hcz14_0 : wr.cell? ⟨gb137, 0, none⟩ = some (.slice A0_0 l0_0.length c0_0) := (blk_cell BK137.out 0).trans rfl
                  have hcz14_1 : wr.cell? ⟨gb137, 1, none⟩ = some (.slice A0_1 l0_1.length c0_1) := (blk_cell BK137.out 1).trans rfl
                  have hfz14_0 := blk_frozen BK137.out 0
                  have hfz14_1 := blk_frozen BK137.out 1
                  have p138 : 0 ≤ (x5_2 : Int) := of_decide_eq_true (by first | (with_reducible assumption) | assumption)
                  have q138 : x5_2 < (l0_0.length : Int) := of_decide_eq_true (by first | (with_reducible assumption) | assumption)
                  obtain ⟨ad138, A138_0, c138_0, e138, hx138_0, hl138_0, hi138_0⟩ := at_T50 HR0_0.out x5_2 p138 q138
                  cases e138
                  replace hx138_0 := (HB.out.cell (World.block_lt_of_cell? w _ hx138_0)).trans hx138_0
                  have HR138_0 := Aside0.mk hi138_0
                  have HC138_0 := Aside0.mk hl138_0
                  clear hi138_0 hl138_0
                  replace p138 := eq_true p138
                  replace q138 := eq_true q138
                  go_wp2
                  go_ret
                  exact ⟨by first | rfl | (simp [errW_none, errW_some] <;> rfl) | (simp [*, errW_none, errW_some] <;> rfl), by repeat (first | (with_reducible first | exact HB.out | apply below_alloc | apply pw_below_drewN | apply below_drew1 | refine below_set ?_ GE137.out) | exact HB.out)⟩
                · rw [if_neg c13] at H
                  have c13b0 : decide (10 < (((rd_T50 l0_0 x5_2).f0).length : Int)) = false := decide_eq_false c13
                  have c13b1 : decide (10 < ((rd_T50 l0_0 x5_2).f0).length) = false := decide_eq_false (by omega)
                  clear c13
                  have H' := Aside0.mk H
                  clear H
                  have hcz15_0 : wr.cell? ⟨gb137, 0, none⟩ = some (.slice A0_0 l0_0.length c0_0) := (blk_cell BK137.out 0).trans rfl
                  have hcz15_1 : wr.cell? ⟨gb137, 1, none⟩ = some (.slice A0_1 l0_1.length c0_1) := (blk_cell BK137.out 1).trans rfl
                  have hfz15_0 := blk_frozen BK137.out 0
                  have hfz15_1 := blk_frozen BK137.out 1
                  have p138 : 0 ≤ (x5_2 : Int) := of_decide_eq_true (by first | (with_reducible assumption) | assumption)
                  have q138 : x5_2 < (l0_0.length : Int) := of_decide_eq_true (by first | (with_reducible assumption) | assumption)
                  obtain ⟨ad138, A138_0, c138_0, e138, hx138_0, hl138_0, hi138_0⟩ := at_T50 HR0_0.out x5_2 p138 q138
                  cases e138
                  replace hx138_0 := (HB.out.cell (World.block_lt_of_cell? w _ hx138_0)).trans hx138_0
                  have HR138_0 := Aside0.mk hi138_0
                  have HC138_0 := Aside0.mk hl138_0
                  clear hi138_0 hl138_0
                  replace p138 := eq_true p138
                  replace q138 := eq_true q138
                  go_wp2
                  go_roundg k2
                  case measure => have := HJ2.out; have := HK2.out; omega
                  case rel => exact ⟨(wrap64 (x5_2 + 1)), (by first | rfl | (simp; done) | (simp [*]; done)), H', ⟨by have := HJ2.out; have := HK2.out; omega⟩, ⟨by (with_reducible repeat (first | refine blk_drewN ?_ _ | refine blk_drew ?_ | refine blk_alloc ?_ _)); exact BK137.out⟩, ⟨by repeat (first | (with_reducible first | exact HB.out | apply below_alloc | apply pw_below_drewN | apply below_drew1 | refine below_set ?_ GE137.out) | exact HB.out)⟩⟩
              · rw [if_neg c12] at H
                exact absurd H (by simp)
            · rw [if_neg c11] at H
              have c11b0 : decide (x5_2 < (l0_0.length : Int)) = false := decide_eq_false c11
              clear c11
              have H' := Aside0.mk H
              clear H
              have hcz16_0 : wr.cell? ⟨gb137, 0, none⟩ = some (.slice A0_0 l0_0.length c0_0) := (blk_cell BK137.out 0).trans rfl
              have hcz16_1 : wr.cell? ⟨gb137, 1, none⟩ = some (.slice A0_1 l0_1.length c0_1) := (blk_cell BK137.out 1).trans rfl
              have hfz16_0 := blk_frozen BK137.out 0
              have hfz16_1 := blk_frozen BK137.out 1
              go_wp2
              go_loopg [6] k2 (fun kq v6 w' => ∃ (x6_3 : Int), v6 = .int .i64 x6_3 ∧ Aside0 (gaugerlaw17_great.l1 kq l1 x6_3 l0_0 l0_1 = some r) ∧ Aside0 (kq ≤ k2) ∧ Aside0 (w'.heap[gb137]? = some (.cells #[(.slice A0_0 l0_0.length c0_0), (.slice A0_1 l0_1.length c0_1)] 25 (0, 0))) ∧ Aside0 (Below w.heap.size w w'))
              case atStart => exact ⟨(0), (by first | rfl | (simp; done) | (simp [*]; done)), H', ⟨Nat.le_refl _⟩, ⟨by (with_reducible repeat (first | refine blk_drewN ?_ _ | refine blk_drew ?_ | refine blk_alloc ?_ _)); exact BK137.out⟩, ⟨by repeat (first | (with_reducible first | exact HB.out | apply below_alloc | apply pw_below_drewN | apply below_drew1 | refine below_set ?_ GE137.out) | exact HB.out)⟩⟩
              case round =>
                clear H'
                try clear c1
                try clear p1
                try clear q1
                try clear hx1
                try clear p2
                try clear c5
                try clear c5b0
                try clear c5b1
                try clear c6
                try clear p6
                try clear c7
                try clear c7b0
                try clear c7b1
                try clear c10
                try clear c11
                try clear c11b0
                try clear c12
                try clear c12b0
                try clear c13
                try clear c13b0
                try clear c13b1
                try clear p13
                try clear q13
                try clear hx13
                try clear hcz14_0
                try clear hcz14_1
                try clear hcz15_0
                try clear hcz15_1
                try clear hcz16_0
                try clear hcz16_1
                try clear hcz6_0
                try clear hcz6_1
                try clear hcz8_0
                try clear hcz8_1
                try clear hcz9_0
                try clear hcz9_1
                try clear hfz14_0
                try clear hfz14_1
                try clear hfz15_0
                try clear hfz15_1
                try clear hfz16_0
                try clear hfz16_1
                try clear hfz6_0
                try clear hfz6_1
                try clear hfz8_0
                try clear hfz8_1
                try clear hfz9_0
                try clear hfz9_1
                try clear hx138_0
                try clear p138
                try clear p2
                try clear q138
                obtain ⟨x6_3, rfl, HA, HK3, BK137, HB⟩ := hrel
                cases gk with
                | zero => exact absurd HA.out (by simp [gaugerlaw17_great.l1])
                | succ k3 =>
                  have H := HA.out
                  clear HA
                  simp only [gaugerlaw17_great.l1] at H
                  by_cases c17 : x6_3 < (l0_1.length : Int)
                  · rw [if_pos c17] at H
                    have c17b0 : decide (x6_3 < (l0_1.length : Int)) = true := decide_eq_true c17
                    clear c17
                    by_cases c18 : 0 ≤ x6_3
                    · rw [if_pos c18] at H
                      have c18b0 : decide (0 ≤ x6_3) = true := decide_eq_true c18
                      clear c18
                      by_cases c19 : (((rd_T52 l0_1 x6_3).f2).length : Int) > 10
                      · rw [if_pos c19] at H
                        have c19b0 : decide (10 < (((rd_T52 l0_1 x6_3).f2).length : Int)) = true := decide_eq_true c19
                        have c19b1 : decide (10 < ((rd_T52 l0_1 x6_3).f2).length) = true := decide_eq_true (by omega)
                        clear c19
                        obtain rfl := Option.some.inj H
                        have hcz20_0 : wr.cell? ⟨gb137, 0, none⟩ = some (.slice A0_0 l0_0.length c0_0) := (blk_cell BK137.out 0).trans rfl
                        have hcz20_1 : wr.cell? ⟨gb137, 1, none⟩ = some (.slice A0_1 l0_1.length c0_1) := (blk_cell BK137.out 1).trans rfl
                        have hfz20_0 := blk_frozen BK137.out 0
                        have hfz20_1 := blk_frozen BK137.out 1
                        have p139 : 0 ≤ (x6_3 : Int) := of_decide_eq_true (by first | (with_reducible assumption) | assumption)
                        have q139 : x6_3 < (l0_1.length : Int) := of_decide_eq_true (by first | (with_reducible assumption) | assumption)
                        obtain ⟨ad139, A139_2, c139_2, e139, hx139_0, hx139_1, hx139_2, hl139_2, hi139_2⟩ := at_T52 HR0_1.out x6_3 p139 q139
                        cases e139
                        replace hx139_0 := (HB.out.cell (World.block_lt_of_cell? w _ hx139_0)).trans hx139_0
                        replace hx139_1 := (HB.out.cell (World.block_lt_of_cell? w _ hx139_1)).trans hx139_1
                        replace hx139_2 := (HB.out.cell (World.block_lt_of_cell? w _ hx139_2)).trans hx139_2
                        have HR139_2 := Aside0.mk hi139_2
                        have HC139_2 := Aside0.mk hl139_2
                        clear hi139_2 hl139_2
                        replace p139 := eq_true p139
                        replace q139 := eq_true q139
                        go_wp2
                        go_ret
                        exact ⟨by first | rfl | (simp [errW_none, errW_some] <;> rfl) | (simp [*, errW_none, errW_some] <;> rfl), by repeat (first | (with_reducible first | exact HB.out | apply below_alloc | apply pw_below_drewN | apply below_drew1 | refine below_set ?_ GE137.out) | exact HB.out)⟩
                      · rw [if_neg c19] at H
                        have c19b0 : decide (10 < (((rd_T52 l0_1 x6_3).f2).length : Int)) = false := decide_eq_false c19
                        have c19b1 : decide (10 < ((rd_T52 l0_1 x6_3).f2).length) = false := decide_eq_false (by omega)
                        clear c19
                        have H' := Aside0.mk H
                        clear H
                        have hcz21_0 : wr.cell? ⟨gb137, 0, none⟩ = some (.slice A0_0 l0_0.length c0_0) := (blk_cell BK137.out 0).trans rfl
                        have hcz21_1 : wr.cell? ⟨gb137, 1, none⟩ = some (.slice A0_1 l0_1.length c0_1) := (blk_cell BK137.out 1).trans rfl
                        have hfz21_0 := blk_frozen BK137.out 0
                        have hfz21_1 := blk_frozen BK137.out 1
                        have p139 : 0 ≤ (x6_3 : Int) := of_decide_eq_true (by first | (with_reducible assumption) | assumption)
                        have q139 : x6_3 < (l0_1.length : Int) := of_decide_eq_true (by first | (with_reducible assumption) | assumption)
                        obtain ⟨ad139, A139_2, c139_2, e139, hx139_0, hx139_1, hx139_2, hl139_2, hi139_2⟩ := at_T52 HR0_1.out x6_3 p139 q139
                        cases e139
                        replace hx139_0 := (HB.out.cell (World.block_lt_of_cell? w _ hx139_0)).trans hx139_0
                        replace hx139_1 := (HB.out.cell (World.block_lt_of_cell? w _ hx139_1)).trans hx139_1
                        replace hx139_2 := (HB.out.cell (World.block_lt_of_cell? w _ hx139_2)).trans hx139_2
                        have HR139_2 := Aside0.mk hi139_2
                        have HC139_2 := Aside0.mk hl139_2
                        clear hi139_2 hl139_2
                        replace p139 := eq_true p139
                        replace q139 := eq_true q139
                        go_wp2
                        go_roundg k3
                        case measure => have := HJ2.out; have := HK2.out; have := HK3.out; omega
                        case rel => exact ⟨(wrap64 (x6_3 + 1)), (by first | rfl | (simp; done) | (simp [*]; done)), H', ⟨by have := HJ2.out; have := HK2.out; have := HK3.out; omega⟩, ⟨by (with_reducible repeat (first | refine blk_drewN ?_ _ | refine blk_drew ?_ | refine blk_alloc ?_ _)); exact BK137.out⟩, ⟨by repeat (first | (with_reducible first | exact HB.out | apply below_alloc | apply pw_below_drewN | apply below_drew1 | refine below_set ?_ GE137.out) | exact HB.out)⟩⟩
                    · rw [if_neg c18] at H
                      exact absurd H (by simp)
                  · rw [if_neg c17] at H
                    have c17b0 : decide (x6_3 < (l0_1.length : Int)) = false := decide_eq_false c17
                    clear c17
                    have H' := Aside0.mk H
                    clear H
                    have hcz22_0 : wr.cell? ⟨gb137, 0, none⟩ = some (.slice A0_0 l0_0.length c0_0) := (blk_cell BK137.out 0).trans rfl
                    have hcz22_1 : wr.cell? ⟨gb137, 1, none⟩ = some (.slice A0_1 l0_1.length c0_1) := (blk_cell BK137.out 1).trans rfl
                    have hfz22_0 := blk_frozen BK137.out 0
                    have hfz22_1 := blk_frozen BK137.out 1
                    go_wp2
                    go_loopg [7] k3 (fun kq v7 w' => ∃ (x7_4 : Int), v7 = .int .i64 x7_4 ∧ Aside0 (gaugerlaw17_great.l2 kq l1 x7_4 = some r) ∧ Aside0 (kq ≤ k3) ∧ Aside0 (w'.heap[gb137]? = some (.cells #[(.slice A0_0 l0_0.length c0_0), (.slice A0_1 l0_1.length c0_1)] 25 (0, 0))) ∧ Aside0 (Below w.heap.size w w'))
                    case atStart => exact ⟨(0), (by first | rfl | (simp; done) | (simp [*]; done)), H', ⟨Nat.le_refl _⟩, ⟨by (with_reducible repeat (first | refine blk_drewN ?_ _ | refine blk_drew ?_ | refine blk_alloc ?_ _)); exact BK137.out⟩, ⟨by repeat (first | (with_reducible first | exact HB.out | apply below_alloc | apply pw_below_drewN | apply below_drew1 | refine below_set ?_ GE137.out) | exact HB.out)⟩⟩
                    case round =>
                      clear H'
                      try clear c1
                      try clear p1
                      try clear q1
                      try clear hx1
                      try clear p2
                      try clear c5
                      try clear c5b0
                      try clear c5b1
                      try clear c6
                      try clear p6
                      try clear c7
                      try clear c7b0
                      try clear c7b1
                      try clear c10
                      try clear c11
                      try clear c11b0
                      try clear c12
                      try clear c12b0
                      try clear c13
                      try clear c13b0
                      try clear c13b1
                      try clear p13
                      try clear q13
                      try clear hx13
                      try clear c17
                      try clear c17b0
                      try clear c18
                      try clear c18b0
                      try clear c19
                      try clear c19b0
                      try clear c19b1
                      try clear hcz14_0
                      try clear hcz14_1
                      try clear hcz15_0
                      try clear hcz15_1
                      try clear hcz16_0
                      try clear hcz16_1
                      try clear hcz20_0
                      try clear hcz20_1
                      try clear hcz21_0
                      try clear hcz21_1
                      try clear hcz22_0
                      try clear hcz22_1
                      try clear hcz6_0
                      try clear hcz6_1
                      try clear hcz8_0
                      try clear hcz8_1
                      try clear hcz9_0
                      try clear hcz9_1
                      try clear hfz14_0
                      try clear hfz14_1
                      try clear hfz15_0
                      try clear hfz15_1
                      try clear hfz16_0
                      try clear hfz16_1
                      try clear hfz20_0
                      try clear hfz20_1
                      try clear hfz21_0
                      try clear hfz21_1
                      try clear hfz22_0
                      try clear hfz22_1
                      try clear hfz6_0
                      try clear hfz6_1
                      try clear hfz8_0
                      try clear hfz8_1
                      try clear hfz9_0
                      try clear hfz9_1
                      try clear hx138_0
                      try clear hx139_0
                      try clear hx139_1
                      try clear hx139_2
                      try clear p1
                      try clear p13
                      try clear p138
                      try clear p139
                      try clear p2
                      try clear p6
                      try clear q1
                      try clear q13
                      try clear q138
                      try clear q139
                      obtain ⟨x7_4, rfl, HA, HK4, BK137, HB⟩ := hrel
                      cases gk with
                      | zero => exact absurd HA.out (by simp [gaugerlaw17_great.l2])
                      | succ k4 =>
                        have H := HA.out
                        clear HA
                        simp only [gaugerlaw17_great.l2] at H
                        by_cases c23 : x7_4 < (l1.length : Int)
                        · rw [if_pos c23] at H
                          have c23b0 : decide (x7_4 < (l1.length : Int)) = true := decide_eq_true c23
                          clear c23
                          by_cases c24 : 0 ≤ x7_4
                          · rw [if_pos c24] at H
                            have c24b0 : decide (0 ≤ x7_4) = true := decide_eq_true c24
                            clear c24
                            by_cases c25 : (((rd_T54 l1 x7_4).f2).size : Int) > 60
                            · rw [if_pos c25] at H
                              have c25b0 : decide (60 < (((rd_T54 l1 x7_4).f2).size : Int)) = true := decide_eq_true c25
                              have c25b1 : decide (60 < ((rd_T54 l1 x7_4).f2).size) = true := decide_eq_true (by omega)
                              clear c25
                              obtain rfl := Option.some.inj H
                              have p140 : 0 ≤ (x7_4 : Int) := of_decide_eq_true (by first | (with_reducible assumption) | assumption)
                              have q140 : x7_4 < (l1.length : Int) := of_decide_eq_true (by first | (with_reducible assumption) | assumption)
                              obtain ⟨ad140, e140, hx140_0, hx140_1, hx140_2⟩ := at_T54 HR1.out x7_4 p140 q140
                              cases e140
                              replace hx140_0 := (HB.out.cell (World.block_lt_of_cell? w _ hx140_0)).trans hx140_0
                              replace hx140_1 := (HB.out.cell (World.block_lt_of_cell? w _ hx140_1)).trans hx140_1
                              replace hx140_2 := (HB.out.cell (World.block_lt_of_cell? w _ hx140_2)).trans hx140_2
                              replace p140 := eq_true p140
                              replace q140 := eq_true q140
                              go_wp2
                              go_ret
                              exact ⟨by first | rfl | (simp [errW_none, errW_some] <;> rfl) | (simp [*, errW_none, errW_some] <;> rfl), by repeat (first | (with_reducible first | exact HB.out | apply below_alloc | apply pw_below_drewN | apply below_drew1 | refine below_set ?_ GE137.out) | exact HB.out)⟩
                            · rw [if_neg c25] at H
                              have c25b0 : decide (60 < (((rd_T54 l1 x7_4).f2).size : Int)) = false := decide_eq_false c25
                              have c25b1 : decide (60 < ((rd_T54 l1 x7_4).f2).size) = false := decide_eq_false (by omega)
                              clear c25
                              have H' := Aside0.mk H
                              clear H
                              have p140 : 0 ≤ (x7_4 : Int) := of_decide_eq_true (by first | (with_reducible assumption) | assumption)
                              have q140 : x7_4 < (l1.length : Int) := of_decide_eq_true (by first | (with_reducible assumption) | assumption)
                              obtain ⟨ad140, e140, hx140_0, hx140_1, hx140_2⟩ := at_T54 HR1.out x7_4 p140 q140
                              cases e140
                              replace hx140_0 := (HB.out.cell (World.block_lt_of_cell? w _ hx140_0)).trans hx140_0
                              replace hx140_1 := (HB.out.cell (World.block_lt_of_cell? w _ hx140_1)).trans hx140_1
                              replace hx140_2 := (HB.out.cell (World.block_lt_of_cell? w _ hx140_2)).trans hx140_2
                              replace p140 := eq_true p140
                              replace q140 := eq_true q140
                              go_wp2
                              go_roundg k4
                              case measure => have := HJ2.out; have := HK2.out; have := HK3.out; have := HK4.out; omega
                              case rel => exact ⟨(wrap64 (x7_4 + 1)), (by first | rfl | (simp; done) | (simp [*]; done)), H', ⟨by have := HJ2.out; have := HK2.out; have := HK3.out; have := HK4.out; omega⟩, ⟨by (with_reducible repeat (first | refine blk_drewN ?_ _ | refine blk_drew ?_ | refine blk_alloc ?_ _)); exact BK137.out⟩, ⟨by repeat (first | (with_reducible first | exact HB.out | apply below_alloc | apply pw_below_drewN | apply below_drew1 | refine below_set ?_ GE137.out) | exact HB.out)⟩⟩
                          · rw [if_neg c24] at H
                            exact absurd H (by simp)
                        · rw [if_neg c23] at H
                          have c23b0 : decide (x7_4 < (l1.length : Int)) = false := decide_eq_false c23
                          clear c23
                          obtain rfl := Option.some.inj H
                          go_wp2
                          go_ret
                          exact ⟨by first | rfl | (simp [errW_none, errW_some] <;> rfl) | (simp [*, errW_none, errW_some] <;> rfl), by repeat (first | (with_reducible first | exact HB.out | apply below_alloc | apply pw_below_drewN | apply below_drew1 | refine below_set ?_ GE137.out) | exact HB.out)⟩

end Go.Proofs.Ythhblhhbobnaiaa.Pl
