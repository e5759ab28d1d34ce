-- Written by a program of this session for this claim (functions and their contracts, out of Lean's own print of the program).
import Derived.Test.YthhblhhbobnaiaaPlKinds
import Derived.Test.YthhblhhbobnaiaaPlF40
namespace Go.Proofs.Ythhblhhbobnaiaa.Pl
open Go.RowKit Go.Proofs.YthhblhhbobnaiaaW.PrintWords Go.Proofs.YthhblhhbobnaiaaW.PrintLast Go.Proofs.YthhblhhbobnaiaaW.PrintMore
attribute [local go_sem] max2_int min2_int max_two min_two max_three min_three max_four min_four   -- for this text's walks alone
set_option linter.unusedVariables false
set_option linter.unusedSimpArgs false

/-! ### plan_Total: function 19 -/
def plan_Total.l0 : Nat → ByteArray → List (S57) → Int → Int → Option (ByteArray)
  | 0, _, _, _, _ => none
  | k + 1, x3, x10, x11, x12 => if x12 < x11 then (if 0 ≤ x12 then (if x12 < (x10.length : Int) then ((wide_Code.f ((rd_T57 x10 x12).f0) ((rd_T57 x10 x12).f1)).bind fun t128 => (if x3.size + t128.size ≤ 9223372036854775807 then (plan_Total.l0 k (x3 ++ t128) x10 x11 (wrap64 (x12 + 1))) else (none))) else (none)) else (none)) else (some x3)
def plan_Total.f (k : Nat) (a0_0 : Int) (a0_1 : Int) (l0_2 : List (S57)) : Option (ByteArray) := (wide_Code.f a0_0 a0_1).bind fun t125 => (plan_Total.l0 k t125 l0_2 (l0_2.length : Int) 0)
theorem plan_Total.mono_l : ∀ k, (∀ y0 y1 y2 y3, LeO (plan_Total.l0 k y0 y1 y2 y3) (plan_Total.l0 (k + 1) y0 y1 y2 y3))
  | 0 => fun _ _ _ _ r h => by simp [plan_Total.l0] at h
  | k + 1 => by
    have ih0 := plan_Total.mono_l k
    · intro y0 y1 y2 y3
      unfold plan_Total.l0
      repeat' first
      | (with_reducible exact ih0 _ _ _ _)
      | (with_reducible exact LeO.refl _)
      | (with_reducible exact LeO.none _)
      | (with_reducible refine LeO.ite ?_ ?_)
      | (with_reducible refine LeO.bind ?_ (fun _ => ?_))
      | exact ih0 _ _ _ _
      | exact LeO.none _
      | refine LeO.ite ?_ ?_
      | refine LeO.bind ?_ (fun _ => ?_)
theorem plan_Total.mono : ∀ a0 a1 a2 k, LeO (plan_Total.f k a0 a1 a2) (plan_Total.f (k + 1) a0 a1 a2) := by
  intro a0 a1 a2 k
  have ih0 := plan_Total.mono_l k
  unfold plan_Total.f
  repeat' first
      | (with_reducible exact ih0 _ _ _ _)
      | (with_reducible exact LeO.refl _)
      | (with_reducible exact LeO.none _)
      | (with_reducible refine LeO.ite ?_ ?_)
      | (with_reducible refine LeO.bind ?_ (fun _ => ?_))
      | exact ih0 _ _ _ _
      | exact LeO.none _
      | refine LeO.ite ?_ ?_
      | refine LeO.bind ?_ (fun _ => ?_)
set_option maxHeartbeats 8000000 in
set_option maxRecDepth 100000 in
theorem plan_Total.calls (k : Nat) (a0_0 : Int) (a0_1 : Int) (A0_2 : Option Addr) (c0_2 : Nat) (l0_2 : List (S57)) (r : ByteArray) (w : World) (hr0_2 : Kd.C k57 w A0_2 l0_2.length l0_2) (hc0_2 : l0_2.length ≤ c0_2) (h : plan_Total.f k a0_0 a0_1 l0_2 = some r) :
    Calls Try.prog 19 #[.agg #[.int .i64 a0_0, .int .u64 a0_1, .slice A0_2 l0_2.length c0_2]] w fun e w' => e = .returned (.string r) ∧ Below w.heap.size w w' := by
  have hu60 := Try.underlying60
  have hu57 := Try.underlying57
  have HR0_2 := Aside0.mk hr0_2
  have HC0_2 := Aside0.mk hc0_2
  clear hr0_2 hc0_2
  have HB := Aside0.mk (Below.refl w.heap.size w)
  have H : ((wide_Code.f a0_0 a0_1).bind fun t125 => (plan_Total.l0 k t125 l0_2 (l0_2.length : Int) 0)) = some r := h
  clear h
  replace H := Option.bind_eq_some_iff.mp H
  obtain ⟨t125, A20, H⟩ := H
  replace H : (plan_Total.l0 k t125 l0_2 (l0_2.length : Int) 0) = some r := H
  have A2 := Aside0.mk A20
  clear A20
  have H' := Aside0.mk H
  clear H
  go_enter Try.func19, Try.ntmps19
  go_wp2_with (first | ((with_reducible refine gate_dst (N := 1) rfl ?_); refine box_event ?hg (N := 1) ?hd (cs := #[.int .i64 a0_0, .int .u64 a0_1, .slice A0_2 l0_2.length c0_2]) (t := 60) ?hr ?_; (case hd => rfl); (case hg => rfl); (case hr => first | (go_simp; done) | (go_simp; rfl)); intro gb124 hg w3 hbox hb; have n0_ := Aside0.mk (below_step (by repeat (first | (with_reducible first | exact HB.out | apply below_alloc | apply pw_below_drewN | apply below_drew1) | exact HB.out)) hb); have n1_ := Aside0.mk (hbox); have n2_ := Aside0.mk ((by rw [hg]; exact (below_size (by repeat (first | (with_reducible first | exact HB.out | apply below_alloc | apply pw_below_drewN | apply below_drew1) | exact HB.out))) : w.heap.size ≤ gb124)); have n3_ := Aside0.mk ((by rw [hg]; exact (below_size (by repeat (first | (with_reducible first | exact HB.out | apply below_alloc | apply pw_below_drewN | apply below_drew1) | exact HB.out))) : w.heap.size ≤ gb124)); clear HB; have HB := n0_; have BK124 := n1_; have GW124 := n2_; have GE124 := n3_; clear n0_ n1_ n2_ n3_; clear hb hbox hg; have hcz4_0 : w3.cell? ⟨gb124, 0, none⟩ = some (.int .i64 a0_0) := (blk_cell BK124.out 0).trans rfl; have hcz4_1 : w3.cell? ⟨gb124, 1, none⟩ = some (.int .u64 a0_1) := (blk_cell BK124.out 1).trans rfl; have hcz4_2 : w3.cell? ⟨gb124, 2, none⟩ = some (.slice A0_2 l0_2.length c0_2) := (blk_cell BK124.out 2).trans rfl; have hfz4_0 := blk_frozen BK124.out 0; have hfz4_1 := blk_frozen BK124.out 1; have hfz4_2 := blk_frozen BK124.out 2) | ((with_reducible refine gate_callee (f := 40) rfl ?_); refine goesL_ (some 8) rfl rfl Try.func40 (by kernel_rfl) rfl #[.agg #[.int .i64 a0_0, .int .u64 a0_1]] rfl (by (try simp only [List.map_toArray, List.map_cons, List.map_nil]); first | done | rfl | (simp only [List.length_drop, List.length_take]; rfl)) ?_; (with_reducible refine (wide_Code.calls a0_0 a0_1 t125 _ A2.out).mono ?_); rintro e w5 ⟨rfl, hb⟩; refine ⟨_, rfl, ?_⟩; have n0_ := Aside0.mk (blk_below (g := gb124) (o := .cells #[.int .i64 a0_0, .int .u64 a0_1, .slice A0_2 l0_2.length c0_2] 60 (0, 0)) (by (with_reducible repeat (first | refine blk_drewN ?_ _ | refine blk_drew ?_ | refine blk_alloc ?_ _)); exact BK124.out) hb); have n1_ := Aside0.mk (below_step (by repeat (first | (with_reducible first | exact HB.out | apply below_alloc | apply pw_below_drewN | apply below_drew1 | refine below_set ?_ GE124.out) | exact HB.out)) hb); clear BK124; clear HB; have BK124 := n0_; have HB := n1_; clear n0_ n1_; (try clear hb); (try clear hb2); (try clear hk); (try clear hi); have hcz6_0 : w5.cell? ⟨gb124, 0, none⟩ = some (.int .i64 a0_0) := (blk_cell BK124.out 0).trans rfl; have hcz6_1 : w5.cell? ⟨gb124, 1, none⟩ = some (.int .u64 a0_1) := (blk_cell BK124.out 1).trans rfl; have hcz6_2 : w5.cell? ⟨gb124, 2, none⟩ = some (.slice A0_2 l0_2.length c0_2) := (blk_cell BK124.out 2).trans rfl; have hfz6_0 := blk_frozen BK124.out 0; have hfz6_1 := blk_frozen BK124.out 1; have hfz6_2 := blk_frozen BK124.out 2))
  go_loopg [3, 12] k (fun kq v3 v12 w' => ∃ (x3_1 : ByteArray) (x12_1 : Int), v3 = .string x3_1 ∧ v12 = .int .i64 x12_1 ∧ Aside0 (plan_Total.l0 kq x3_1 l0_2 (l0_2.length : Int) x12_1 = some r) ∧ Aside0 (kq ≤ k) ∧ Aside0 (w'.heap[gb124]? = some (.cells #[.int .i64 a0_0, .int .u64 a0_1, (.slice A0_2 l0_2.length c0_2)] 60 (0, 0))) ∧ Aside0 (Below w.heap.size w w'))
  case atStart => exact ⟨(t125), (0), (by first | rfl | (simp; done) | (simp [*]; done)), (by first | rfl | (simp; done) | (simp [*]; done)), H', ⟨Nat.le_refl _⟩, ⟨by (with_reducible repeat (first | refine blk_drewN ?_ _ | refine blk_drew ?_ | refine blk_alloc ?_ _)); exact BK124.out⟩, ⟨by repeat (first | (with_reducible first | exact HB.out | apply below_alloc | apply pw_below_drewN | apply below_drew1 | refine below_set ?_ GE124.out) | exact HB.out)⟩⟩
  case round =>
    clear H'
    try clear c1
    try clear p2
    try clear c4
    try clear hcz4_0
    try clear hcz4_1
    try clear hcz4_2
    try clear hcz6_0
    try clear hcz6_1
    try clear hcz6_2
    try clear hfz4_0
    try clear hfz4_1
    try clear hfz4_2
    try clear hfz6_0
    try clear hfz6_1
    try clear hfz6_2
    obtain ⟨x3_1, x12_1, rfl, rfl, HA, HK1, BK124, HB⟩ := hrel
    cases gk with
    | zero => exact absurd HA.out (by simp [plan_Total.l0])
    | succ k1 =>
      have H := HA.out
      clear HA
      simp only [plan_Total.l0] at H
      by_cases c7 : x12_1 < (l0_2.length : Int)
      · rw [if_pos c7] at H
        have c7b0 : decide (x12_1 < (l0_2.length : Int)) = true := decide_eq_true c7
        clear c7
        by_cases c8 : 0 ≤ x12_1
        · rw [if_pos c8] at H
          have c8b0 : decide (0 ≤ x12_1) = true := decide_eq_true c8
          clear c8
          by_cases c9 : x12_1 < (l0_2.length : Int)
          · rw [if_pos c9] at H
            have c9b0 : decide (x12_1 < (l0_2.length : Int)) = true := decide_eq_true c9
            clear c9
            replace H := Option.bind_eq_some_iff.mp H
            obtain ⟨t128, A100, H⟩ := H
            replace H : (if x3_1.size + t128.size ≤ 9223372036854775807 then (plan_Total.l0 k1 (x3_1 ++ t128) l0_2 (l0_2.length : Int) (wrap64 (x12_1 + 1))) else (none)) = some r := H
            have A10 := Aside0.mk A100
            clear A100
            by_cases c11 : x3_1.size + t128.size ≤ 9223372036854775807
            · rw [if_pos c11] at H
              have c11b0 := eq_true c11
              have c11b1 : decide (x3_1.size + t128.size ≤ 9223372036854775807) = true := decide_eq_true c11
              try have c11b2 : (9223372036854775807 < x3_1.size + t128.size) = False := eq_false (Nat.not_lt.2 c11)
              have H' := Aside0.mk H
              clear H
              have p126 : 0 ≤ (x12_1 : Int) := of_decide_eq_true (by first | (with_reducible assumption) | assumption)
              have q126 : x12_1 < (l0_2.length : Int) := of_decide_eq_true (by first | (with_reducible assumption) | assumption)
              obtain ⟨ad126, e126, hx126_0, hx126_1⟩ := at_T57 HR0_2.out x12_1 p126 q126
              cases e126
              replace hx126_0 := (HB.out.cell (World.block_lt_of_cell? w _ hx126_0)).trans hx126_0
              replace hx126_1 := (HB.out.cell (World.block_lt_of_cell? w _ hx126_1)).trans hx126_1
              replace p126 := eq_true p126
              replace q126 := eq_true q126
              go_wp2_with (first | ((with_reducible refine gate_dst (N := 5) rfl ?_); refine box_event ?hg (N := 5) ?hd (cs := #[.int .i64 0, .int .u64 0]) (t := 57) ?hr ?_; (case hd => rfl); (case hg => rfl); (case hr => first | (go_simp; done) | (go_simp; rfl)); intro gb127 hg w12 hbox hb; have n0_ := Aside0.mk (blk_below (g := gb124) (o := .cells #[.int .i64 a0_0, .int .u64 a0_1, .slice (some ad126) l0_2.length c0_2] 60 (0, 0)) (by (with_reducible repeat (first | refine blk_drewN ?_ _ | refine blk_drew ?_ | refine blk_alloc ?_ _)); exact BK124.out) hb); have n1_ := Aside0.mk (below_step (by repeat (first | (with_reducible first | exact HB.out | apply below_alloc | apply pw_below_drewN | apply below_drew1 | refine below_set ?_ GE124.out) | exact HB.out)) hb); have n2_ := Aside0.mk (hbox); have n3_ := Aside0.mk ((by rw [hg]; exact (below_size (by repeat (first | (with_reducible first | exact HB.out | apply below_alloc | apply pw_below_drewN | apply below_drew1 | refine below_set ?_ GE124.out) | exact HB.out))) : w.heap.size ≤ gb127)); have n4_ := Aside0.mk ((by rw [hg]; exact (below_size (by repeat (first | (with_reducible first | exact HB.out | apply below_alloc | apply pw_below_drewN | apply below_drew1 | refine below_set ?_ GE124.out) | exact HB.out))) : w.heap.size ≤ gb127)); have n5_ := Aside0.mk ((by rw [hg]; exact Nat.ne_of_lt (blk_lt (g := gb124) (o := .cells #[.int .i64 a0_0, .int .u64 a0_1, .slice (some ad126) l0_2.length c0_2] 60 (0, 0)) (by (with_reducible repeat (first | refine blk_drewN ?_ _ | refine blk_drew ?_ | refine blk_alloc ?_ _)); exact BK124.out)) : gb124 ≠ gb127)); have n6_ := Aside0.mk ((by rw [hg]; exact Nat.ne_of_gt (blk_lt (g := gb124) (o := .cells #[.int .i64 a0_0, .int .u64 a0_1, .slice (some ad126) l0_2.length c0_2] 60 (0, 0)) (by (with_reducible repeat (first | refine blk_drewN ?_ _ | refine blk_drew ?_ | refine blk_alloc ?_ _)); exact BK124.out)) : gb127 ≠ gb124)); clear BK124; clear HB; have BK124 := n0_; have HB := n1_; have BK127 := n2_; have GW127 := n3_; have GE127 := n4_; have NB124_127 := n5_; have NB127_124 := n6_; clear n0_ n1_ n2_ n3_ n4_ n5_ n6_; clear hb hbox hg; have hnb13 := NB127_124.out; have hnc13 := NB124_127.out; have hcz14_0 : w12.cell? ⟨gb127, 0, none⟩ = some (.int .i64 0) := (blk_cell BK127.out 0).trans rfl; have hcz14_1 : w12.cell? ⟨gb127, 1, none⟩ = some (.int .u64 0) := (blk_cell BK127.out 1).trans rfl; have hfz14_0 := blk_frozen BK127.out 0; have hfz14_1 := blk_frozen BK127.out 1) | ((with_reducible refine gate_callee (f := 40) rfl ?_); refine goesL_ (some 18) rfl rfl Try.func40 (by kernel_rfl) rfl #[.agg #[.int .i64 ((rd_T57 l0_2 x12_1).f0), .int .u64 ((rd_T57 l0_2 x12_1).f1)]] rfl (by (try simp only [List.map_toArray, List.map_cons, List.map_nil]); first | done | rfl | (simp only [List.length_drop, List.length_take]; rfl)) ?_; (with_reducible refine (wide_Code.calls ((rd_T57 l0_2 x12_1).f0) ((rd_T57 l0_2 x12_1).f1) t128 _ A10.out).mono ?_); rintro e w15 ⟨rfl, hb⟩; refine ⟨_, rfl, ?_⟩; have n0_ := Aside0.mk (blk_below (g := gb124) (o := .cells #[.int .i64 a0_0, .int .u64 a0_1, .slice (some ad126) l0_2.length c0_2] 60 (0, 0)) (by (with_reducible repeat (first | refine blk_drewN ?_ _ | refine blk_drew ?_ | refine blk_alloc ?_ _)); refine blk_far ?_ NB124_127.out _; (with_reducible repeat (first | refine blk_drewN ?_ _ | refine blk_drew ?_ | refine blk_alloc ?_ _)); refine blk_far ?_ NB124_127.out _; (with_reducible repeat (first | refine blk_drewN ?_ _ | refine blk_drew ?_ | refine blk_alloc ?_ _)); exact BK124.out) hb); have n1_ := Aside0.mk (blk_below (g := gb127) (o := .cells #[.int .i64 ((rd_T57 l0_2 x12_1).f0), .int .u64 ((rd_T57 l0_2 x12_1).f1)] 57 (0, 0)) (by (with_reducible repeat (first | refine blk_drewN ?_ _ | refine blk_drew ?_ | refine blk_alloc ?_ _)); refine blk_put (cs := #[.int .i64 ((rd_T57 l0_2 x12_1).f0), .int .u64 0]) ?_ 1 _ rfl; (with_reducible repeat (first | refine blk_drewN ?_ _ | refine blk_drew ?_ | refine blk_alloc ?_ _)); refine blk_put (cs := #[.int .i64 0, .int .u64 0]) ?_ 0 _ rfl; (with_reducible repeat (first | refine blk_drewN ?_ _ | refine blk_drew ?_ | refine blk_alloc ?_ _)); exact BK127.out) hb); have n2_ := Aside0.mk (below_step (by repeat (first | (with_reducible first | exact HB.out | apply below_alloc | apply pw_below_drewN | apply below_drew1 | refine below_set ?_ GE124.out | refine below_set ?_ GE127.out) | exact HB.out)) hb); clear BK124; clear BK127; clear HB; have BK124 := n0_; have BK127 := n1_; have HB := n2_; clear n0_ n1_ n2_; (try clear hb); (try clear hb2); (try clear hk); (try clear hi)))
              go_roundg k1
              case measure => have := HK1.out; omega
              case rel => exact ⟨(x3_1 ++ t128), (wrap64 (x12_1 + 1)), (by first | rfl | (simp; done) | (simp [*]; done)), (by first | rfl | (simp; done) | (simp [*]; done)), H', ⟨by have := HK1.out; omega⟩, ⟨by (with_reducible repeat (first | refine blk_drewN ?_ _ | refine blk_drew ?_ | refine blk_alloc ?_ _)); exact BK124.out⟩, ⟨by repeat (first | (with_reducible first | exact HB.out | apply below_alloc | apply pw_below_drewN | apply below_drew1 | refine below_set ?_ GE124.out | refine below_set ?_ GE127.out) | exact HB.out)⟩⟩
            · rw [if_neg c11] at H
              exact absurd H (by simp)
          · rw [if_neg c9] at H
            exact absurd H (by simp)
        · rw [if_neg c8] at H
          exact absurd H (by simp)
      · rw [if_neg c7] at H
        have c7b0 : decide (x12_1 < (l0_2.length : Int)) = false := decide_eq_false c7
        clear c7
        obtain rfl := Option.some.inj H
        go_wp2
        go_ret
        exact ⟨by first | rfl | (simp [errW_none, errW_some] <;> rfl) | (simp [*, errW_none, errW_some] <;> rfl), by repeat (first | (with_reducible first | exact HB.out | apply below_alloc | apply pw_below_drewN | apply below_drew1 | refine below_set ?_ GE124.out) | exact HB.out)⟩

end Go.Proofs.Ythhblhhbobnaiaa.Pl
