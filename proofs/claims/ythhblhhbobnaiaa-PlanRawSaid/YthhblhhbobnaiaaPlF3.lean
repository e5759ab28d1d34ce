-- Written by a program of this session for this claim (functions and their contracts, out of Lean's own print of the program).
import Derived.Test.YthhblhhbobnaiaaPlKinds
import Derived.Test.YthhblhhbobnaiaaPlF10
import Derived.Test.YthhblhhbobnaiaaPlF7
import Derived.Test.YthhblhhbobnaiaaPlF13
import Derived.Test.YthhblhhbobnaiaaPlF6
import Derived.Test.YthhblhhbobnaiaaPlF8
import Derived.Test.YthhblhhbobnaiaaPlF9
import Derived.Test.YthhblhhbobnaiaaPlF11
import Derived.Test.YthhblhhbobnaiaaHGood
import Derived.Test.YthhblhhbobnaiaaHw
namespace Go.Proofs.Ythhblhhbobnaiaa.Pl
open Go.RowKit Go.Proofs.YthhblhhbobnaiaaW.PrintWords Go.Proofs.YthhblhhbobnaiaaW.PrintLast Go.Proofs.YthhblhhbobnaiaaW.PrintMore
attribute [local go_sem] max2_int min2_int max_two min_two max_three min_three max_four min_four   -- for this text's walks alone
set_option linter.unusedVariables false
set_option linter.unusedSimpArgs false

/-! ### gaugerlaw17_PlanRaw: function 3 -/
mutual
def gaugerlaw17_PlanRaw.j0 : Nat → Int → List (S54) → Bool → List (S50) → List (S52) → ByteArray → ByteArray → Bool → Option (Bool)
  | 0, _, _, _, _, _, _, _, _ => none
  | k + 1, x1, x2, x29, x170000, x170001, x171000, x171001, x171002 => if x29 = true then (some true) else ((plan_Entry.f k x170000 x170001 x1 x2).bind fun bt173 => ((plan_Row.f k x170000 x170001 x1 x171000 x171001 x171002).bind fun bt178 => ((plan_Group.f k x170000 x170001 x1 x2).bind fun t182 => ((plan_Fits.f k x170000 x170001 x1 x2).bind fun t183 => ((plan_Views.f k x170000 x170001 x1).bind fun t184 => (if x1 < 0 then (if bt173.2.2.2 = 1 then (if bt178.2 = 3 then (if t183 = 1 then (gaugerlaw17_PlanRaw.j1 k x1 t182 false x170000 x170001) else ((plan_Good.f x170000 x170001).bind fun t187 => (gaugerlaw17_PlanRaw.j1 k x1 t182 t187 x170000 x170001))) else ((plan_Good.f x170000 x170001).bind fun t188 => (gaugerlaw17_PlanRaw.j1 k x1 t182 t188 x170000 x170001))) else ((plan_Good.f x170000 x170001).bind fun t189 => (gaugerlaw17_PlanRaw.j1 k x1 t182 t189 x170000 x170001))) else (if x1 ≥ (x170000.length : Int) then (if bt173.2.2.2 = 1 then (if bt178.2 = 3 then (if t183 = 1 then (gaugerlaw17_PlanRaw.j1 k x1 t182 false x170000 x170001) else ((plan_Good.f x170000 x170001).bind fun t190 => (gaugerlaw17_PlanRaw.j1 k x1 t182 t190 x170000 x170001))) else ((plan_Good.f x170000 x170001).bind fun t191 => (gaugerlaw17_PlanRaw.j1 k x1 t182 t191 x170000 x170001))) else ((plan_Good.f x170000 x170001).bind fun t192 => (gaugerlaw17_PlanRaw.j1 k x1 t182 t192 x170000 x170001))) else (gaugerlaw17_PlanRaw.j1 k x1 t182 false x170000 x170001))))))))
def gaugerlaw17_PlanRaw.j1 : Nat → Int → ByteArray → Bool → List (S50) → List (S52) → Option (Bool)
  | 0, _, _, _, _, _ => none
  | k + 1, x1, x13, x79, x170000, x170001 => if x79 = true then (some false) else (if x1 < 0 then (if x13.toList = ([] : List UInt8) then ((plan_Trees.f x170000 x170001).bind fun t193 => (some (t193 == (wrap64 ((x170000.length : Int) + (x170001.length : Int)))))) else ((plan_Good.f x170000 x170001).bind fun t194 => (if t194 = true then (some false) else ((plan_Trees.f x170000 x170001).bind fun t195 => (some (t195 == (wrap64 ((x170000.length : Int) + (x170001.length : Int))))))))) else (if x1 ≥ (x170001.length : Int) then (if x13.toList = ([] : List UInt8) then ((plan_Trees.f x170000 x170001).bind fun t196 => (some (t196 == (wrap64 ((x170000.length : Int) + (x170001.length : Int)))))) else ((plan_Good.f x170000 x170001).bind fun t197 => (if t197 = true then (some false) else ((plan_Trees.f x170000 x170001).bind fun t198 => (some (t198 == (wrap64 ((x170000.length : Int) + (x170001.length : Int))))))))) else ((plan_Trees.f x170000 x170001).bind fun t199 => (some (t199 == (wrap64 ((x170000.length : Int) + (x170001.length : Int))))))))
end
def gaugerlaw17_PlanRaw.f (k : Nat) (l0_0 : List (S50)) (l0_1 : List (S52)) (a1 : Int) (l2 : List (S54)) (a3_0 : ByteArray) (a3_1 : ByteArray) (a3_2 : Bool) : Option (Bool) := (gaugerlaw17_awake.f).bind fun t171 => (if t171 = true then ((gaugerlaw17_great.f k l0_0 l0_1 l2).bind fun t172 => (if t172 = true then (gaugerlaw17_PlanRaw.j0 k a1 l2 true l0_0 l0_1 a3_0 a3_1 a3_2) else (gaugerlaw17_PlanRaw.j0 k a1 l2 (decide ((wrap64 ((a3_0.size : Int) + (a3_1.size : Int))) > 1000)) l0_0 l0_1 a3_0 a3_1 a3_2))) else (some false))
theorem gaugerlaw17_PlanRaw.mono_l : ∀ k, (∀ y0 y1 y2 y3 y4 y5 y6 y7, LeO (gaugerlaw17_PlanRaw.j0 k y0 y1 y2 y3 y4 y5 y6 y7) (gaugerlaw17_PlanRaw.j0 (k + 1) y0 y1 y2 y3 y4 y5 y6 y7)) ∧ (∀ y0 y1 y2 y3 y4, LeO (gaugerlaw17_PlanRaw.j1 k y0 y1 y2 y3 y4) (gaugerlaw17_PlanRaw.j1 (k + 1) y0 y1 y2 y3 y4))
  | 0 => ⟨fun _ _ _ _ _ _ _ _ r h => by simp [gaugerlaw17_PlanRaw.j0] at h, fun _ _ _ _ _ r h => by simp [gaugerlaw17_PlanRaw.j1] at h⟩
  | k + 1 => by
    obtain ⟨ih0, ih1⟩ := gaugerlaw17_PlanRaw.mono_l k
    refine ⟨?_, ?_⟩
    · intro y0 y1 y2 y3 y4 y5 y6 y7
      unfold gaugerlaw17_PlanRaw.j0
      repeat' first
      | (with_reducible exact ih0 _ _ _ _ _ _ _ _)
      | (with_reducible exact ih1 _ _ _ _ _)
      | (with_reducible exact gaugerlaw17_great.mono _ _ _ _)
      | (with_reducible exact plan_Entry.mono _ _ _ _ _)
      | (with_reducible exact plan_Fits.mono _ _ _ _ _)
      | (with_reducible exact plan_Group.mono _ _ _ _ _)
      | (with_reducible exact plan_Row.mono _ _ _ _ _ _ _)
      | (with_reducible exact plan_Views.mono _ _ _ _)
      | (with_reducible exact LeO.refl _)
      | (with_reducible exact LeO.none _)
      | (with_reducible refine LeO.ite ?_ ?_)
      | (with_reducible refine LeO.bind ?_ (fun _ => ?_))
      | exact ih0 _ _ _ _ _ _ _ _
      | exact ih1 _ _ _ _ _
      | exact gaugerlaw17_great.mono _ _ _ _
      | exact plan_Entry.mono _ _ _ _ _
      | exact plan_Fits.mono _ _ _ _ _
      | exact plan_Group.mono _ _ _ _ _
      | exact plan_Row.mono _ _ _ _ _ _ _
      | exact plan_Views.mono _ _ _ _
      | exact LeO.none _
      | refine LeO.ite ?_ ?_
      | refine LeO.bind ?_ (fun _ => ?_)
    · intro y0 y1 y2 y3 y4
      unfold gaugerlaw17_PlanRaw.j1
      repeat' first
      | (with_reducible exact ih0 _ _ _ _ _ _ _ _)
      | (with_reducible exact ih1 _ _ _ _ _)
      | (with_reducible exact gaugerlaw17_great.mono _ _ _ _)
      | (with_reducible exact plan_Entry.mono _ _ _ _ _)
      | (with_reducible exact plan_Fits.mono _ _ _ _ _)
      | (with_reducible exact plan_Group.mono _ _ _ _ _)
      | (with_reducible exact plan_Row.mono _ _ _ _ _ _ _)
      | (with_reducible exact plan_Views.mono _ _ _ _)
      | (with_reducible exact LeO.refl _)
      | (with_reducible exact LeO.none _)
      | (with_reducible refine LeO.ite ?_ ?_)
      | (with_reducible refine LeO.bind ?_ (fun _ => ?_))
      | exact ih0 _ _ _ _ _ _ _ _
      | exact ih1 _ _ _ _ _
      | exact gaugerlaw17_great.mono _ _ _ _
      | exact plan_Entry.mono _ _ _ _ _
      | exact plan_Fits.mono _ _ _ _ _
      | exact plan_Group.mono _ _ _ _ _
      | exact plan_Row.mono _ _ _ _ _ _ _
      | exact plan_Views.mono _ _ _ _
      | exact LeO.none _
      | refine LeO.ite ?_ ?_
      | refine LeO.bind ?_ (fun _ => ?_)
theorem gaugerlaw17_PlanRaw.mono : ∀ a0 a1 a2 a3 a4 a5 a6 k, LeO (gaugerlaw17_PlanRaw.f k a0 a1 a2 a3 a4 a5 a6) (gaugerlaw17_PlanRaw.f (k + 1) a0 a1 a2 a3 a4 a5 a6) := by
  intro a0 a1 a2 a3 a4 a5 a6 k
  obtain ⟨ih0, ih1⟩ := gaugerlaw17_PlanRaw.mono_l k
  unfold gaugerlaw17_PlanRaw.f
  repeat' first
      | (with_reducible exact ih0 _ _ _ _ _ _ _ _)
      | (with_reducible exact ih1 _ _ _ _ _)
      | (with_reducible exact gaugerlaw17_great.mono _ _ _ _)
      | (with_reducible exact plan_Entry.mono _ _ _ _ _)
      | (with_reducible exact plan_Fits.mono _ _ _ _ _)
      | (with_reducible exact plan_Group.mono _ _ _ _ _)
      | (with_reducible exact plan_Row.mono _ _ _ _ _ _ _)
      | (with_reducible exact plan_Views.mono _ _ _ _)
      | (with_reducible exact LeO.refl _)
      | (with_reducible exact LeO.none _)
      | (with_reducible refine LeO.ite ?_ ?_)
      | (with_reducible refine LeO.bind ?_ (fun _ => ?_))
      | exact ih0 _ _ _ _ _ _ _ _
      | exact ih1 _ _ _ _ _
      | exact gaugerlaw17_great.mono _ _ _ _
      | exact plan_Entry.mono _ _ _ _ _
      | exact plan_Fits.mono _ _ _ _ _
      | exact plan_Group.mono _ _ _ _ _
      | exact plan_Row.mono _ _ _ _ _ _ _
      | exact plan_Views.mono _ _ _ _
      | exact LeO.none _
      | refine LeO.ite ?_ ?_
      | refine LeO.bind ?_ (fun _ => ?_)
def gaugerlaw17_PlanRaw.T14 : Bool × List (List Nat × List Nat) := (true, [([], []), ([0], [0]), ([], []), ([2], [2]), ([3], [3]), ([], []), ([5], [5]), ([6], [6]), ([4, 7], [4, 7]), ([1, 8], [1, 8]), ([9, 1, 0, 1, 2, 3, 4, 5, 6, 7, 8, 9], [9])])
def gaugerlaw17_PlanRaw.B14 : List Nat := [0, 1, 0, 4, 12, 0, 32, 96, 252, 511, 1023]
theorem gaugerlaw17_PlanRaw.tab14 : rtab .any (opsOf Try.f3 14) = gaugerlaw17_PlanRaw.T14 := by kernel_rfl
theorem gaugerlaw17_PlanRaw.bits14 : waitsOk gaugerlaw17_PlanRaw.T14.2 gaugerlaw17_PlanRaw.B14 = true := by kernel_rfl
set_option maxHeartbeats 8000000 in
set_option maxRecDepth 100000 in
theorem gaugerlaw17_PlanRaw.calls (k : Nat) (A0_0 : Option Addr) (c0_0 : Nat) (l0_0 : List (S50)) (A0_1 : Option Addr) (c0_1 : Nat) (l0_1 : List (S52)) (a1 : Int) (A2 : Option Addr) (c2 : Nat) (l2 : List (S54)) (a3_0 : ByteArray) (a3_1 : ByteArray) (a3_2 : Bool) (r : Bool) (w : World) (hr0_0 : Kd.C k50 w A0_0 l0_0.length l0_0) (hc0_0 : l0_0.length ≤ c0_0) (hr0_1 : Kd.C k52 w A0_1 l0_1.length l0_1) (hc0_1 : l0_1.length ≤ c0_1) (hr2 : Kd.C k54 w A2 l2.length l2) (hc2 : l2.length ≤ c2) (h : gaugerlaw17_PlanRaw.f k l0_0 l0_1 a1 l2 a3_0 a3_1 a3_2 = some r) :
    Calls Try.prog 3 #[.agg #[.slice A0_0 l0_0.length c0_0, .slice A0_1 l0_1.length c0_1], .int .i64 a1, .slice A2 l2.length c2, .agg #[.string a3_0, .string a3_1, .bool a3_2]] w fun e w' => e = .returned (.bool r) ∧ Below w.heap.size w w' := by
  have hu25 := Try.underlying25
  have hu28 := Try.underlying28
  have HR0_0 := Aside0.mk hr0_0
  have HC0_0 := Aside0.mk hc0_0
  clear hr0_0 hc0_0
  have HR0_1 := Aside0.mk hr0_1
  have HC0_1 := Aside0.mk hc0_1
  clear hr0_1 hc0_1
  have HR2 := Aside0.mk hr2
  have HC2 := Aside0.mk hc2
  clear hr2 hc2
  have HB := Aside0.mk (Below.refl w.heap.size w)
  have H : ((gaugerlaw17_awake.f).bind fun t171 => (if t171 = true then ((gaugerlaw17_great.f k l0_0 l0_1 l2).bind fun t172 => (if t172 = true then (gaugerlaw17_PlanRaw.j0 k a1 l2 true l0_0 l0_1 a3_0 a3_1 a3_2) else (gaugerlaw17_PlanRaw.j0 k a1 l2 (decide ((wrap64 ((a3_0.size : Int) + (a3_1.size : Int))) > 1000)) l0_0 l0_1 a3_0 a3_1 a3_2))) else (some false))) = some r := h
  clear h
  replace H := Option.bind_eq_some_iff.mp H
  obtain ⟨t171, A50, H⟩ := H
  replace H : (if t171 = true then ((gaugerlaw17_great.f k l0_0 l0_1 l2).bind fun t172 => (if t172 = true then (gaugerlaw17_PlanRaw.j0 k a1 l2 true l0_0 l0_1 a3_0 a3_1 a3_2) else (gaugerlaw17_PlanRaw.j0 k a1 l2 (decide ((wrap64 ((a3_0.size : Int) + (a3_1.size : Int))) > 1000)) l0_0 l0_1 a3_0 a3_1 a3_2))) else (some false)) = some r := H
  have A5 := Aside0.mk A50
  clear A50
  by_cases c6 : t171 = true
  · subst c6
    have H1 : ((gaugerlaw17_great.f k l0_0 l0_1 l2).bind fun t172 => (if t172 = true then (gaugerlaw17_PlanRaw.j0 k a1 l2 true l0_0 l0_1 a3_0 a3_1 a3_2) else (gaugerlaw17_PlanRaw.j0 k a1 l2 (decide ((wrap64 ((a3_0.size : Int) + (a3_1.size : Int))) > 1000)) l0_0 l0_1 a3_0 a3_1 a3_2))) = some r := by rw [if_pos rfl] at H; exact H
    clear H
    have H := H1
    clear H1
    have HC7 := Aside0.mk H
    clear H
    go_enter Try.func3, Try.ntmps3
    go_upto_region 3 with (first | ((with_reducible refine gate_dst (N := 4) rfl ?_); (try (refine gate_guard (by rfl) ?_; dsimp only)); refine box_event ?hg (N := 4) ?hd (cs := #[.slice A0_0 l0_0.length c0_0, .slice A0_1 l0_1.length c0_1]) (t := 25) ?hr ?_; (case hd => rfl); (case hg => rfl); (case hr => first | (go_simp; done) | (go_simp; rfl)); intro gb169 hg w8 hbox hb; have n0_ := Aside0.mk (below_step (by repeat (first | (with_reducible first | exact HB.out | apply below_alloc | apply pw_below_drewN | apply below_drew1) | exact HB.out)) hb); have n1_ := Aside0.mk (hbox); have n2_ := Aside0.mk ((by rw [hg]; exact (below_size (by repeat (first | (with_reducible first | exact HB.out | apply below_alloc | apply pw_below_drewN | apply below_drew1) | exact HB.out))) : w.heap.size ≤ gb169)); have n3_ := Aside0.mk ((by rw [hg]; exact (below_size (by repeat (first | (with_reducible first | exact HB.out | apply below_alloc | apply pw_below_drewN | apply below_drew1) | exact HB.out))) : w.heap.size ≤ gb169)); clear HB; have HB := n0_; have BK169 := n1_; have GW169 := n2_; have GE169 := n3_; clear n0_ n1_ n2_ n3_; clear hb hbox hg) | ((with_reducible refine gate_dst (N := 7) rfl ?_); (try (refine gate_guard (by rfl) ?_; dsimp only)); refine box_event ?hg (N := 7) ?hd (cs := #[.string a3_0, .string a3_1, .bool a3_2]) (t := 28) ?hr ?_; (case hd => rfl); (case hg => rfl); (case hr => first | (go_simp; done) | (go_simp; rfl)); intro gb170 hg w9 hbox hb; have n0_ := Aside0.mk (blk_below (g := gb169) (o := .cells #[.slice A0_0 l0_0.length c0_0, .slice A0_1 l0_1.length c0_1] 25 (0, 0)) (by (with_reducible repeat (first | refine blk_drewN ?_ _ | refine blk_drew ?_ | refine blk_alloc ?_ _)); exact BK169.out) hb); have n1_ := Aside0.mk (below_step (by repeat (first | (with_reducible first | exact HB.out | apply below_alloc | apply pw_below_drewN | apply below_drew1 | refine below_set ?_ GE169.out) | exact HB.out)) hb); have n2_ := Aside0.mk (hbox); have n3_ := Aside0.mk ((by rw [hg]; exact (below_size (by repeat (first | (with_reducible first | exact HB.out | apply below_alloc | apply pw_below_drewN | apply below_drew1 | refine below_set ?_ GE169.out) | exact HB.out))) : w.heap.size ≤ gb170)); have n4_ := Aside0.mk ((by rw [hg]; exact (below_size (by repeat (first | (with_reducible first | exact HB.out | apply below_alloc | apply pw_below_drewN | apply below_drew1 | refine below_set ?_ GE169.out) | exact HB.out))) : w.heap.size ≤ gb170)); have n5_ := Aside0.mk ((by rw [hg]; exact Nat.ne_of_lt (blk_lt (g := gb169) (o := .cells #[.slice A0_0 l0_0.length c0_0, .slice A0_1 l0_1.length c0_1] 25 (0, 0)) (by (with_reducible repeat (first | refine blk_drewN ?_ _ | refine blk_drew ?_ | refine blk_alloc ?_ _)); exact BK169.out)) : gb169 ≠ gb170)); have n6_ := Aside0.mk ((by rw [hg]; exact Nat.ne_of_gt (blk_lt (g := gb169) (o := .cells #[.slice A0_0 l0_0.length c0_0, .slice A0_1 l0_1.length c0_1] 25 (0, 0)) (by (with_reducible repeat (first | refine blk_drewN ?_ _ | refine blk_drew ?_ | refine blk_alloc ?_ _)); exact BK169.out)) : gb170 ≠ gb169)); clear BK169; clear HB; have BK169 := n0_; have HB := n1_; have BK170 := n2_; have GW170 := n3_; have GE170 := n4_; have NB169_170 := n5_; have NB170_169 := n6_; clear n0_ n1_ n2_ n3_ n4_ n5_ n6_; clear hb hbox hg) | ((with_reducible refine gate_callee (f := 5) rfl ?_); refine goesL_ (some 15) rfl rfl Try.func5 (by kernel_rfl) rfl #[] rfl (by (try simp only [List.map_toArray, List.map_cons, List.map_nil]); first | done | rfl | (simp only [List.length_drop, List.length_take]; rfl)) ?_; (with_reducible refine (gaugerlaw17_awake.calls  true _ A5.out).mono ?_); rintro e w10 ⟨rfl, hb⟩; refine ⟨_, rfl, ?_⟩; have n0_ := Aside0.mk (blk_below (g := gb169) (o := .cells #[.slice A0_0 l0_0.length c0_0, .slice A0_1 l0_1.length c0_1] 25 (0, 0)) (by (with_reducible repeat (first | refine blk_drewN ?_ _ | refine blk_drew ?_ | refine blk_alloc ?_ _)); exact BK169.out) hb); have n1_ := Aside0.mk (blk_below (g := gb170) (o := .cells #[.string a3_0, .string a3_1, .bool a3_2] 28 (0, 0)) (by (with_reducible repeat (first | refine blk_drewN ?_ _ | refine blk_drew ?_ | refine blk_alloc ?_ _)); exact BK170.out) hb); have n2_ := Aside0.mk (below_step (by repeat (first | (with_reducible first | exact HB.out | apply below_alloc | apply pw_below_drewN | apply below_drew1 | refine below_set ?_ GE169.out | refine below_set ?_ GE170.out) | exact HB.out)) hb); clear BK169; clear BK170; clear HB; have BK169 := n0_; have BK170 := n1_; have HB := n2_; clear n0_ n1_ n2_; (try clear hb); (try clear hb2); (try clear hk); (try clear hi)))
    (try simp only [Act.put, List.setIfInBounds_toArray, List.set_cons_zero, List.set_cons_succ])
    go_cut [29] (fun v29 wc => ∃ (kq : Nat) (x29_6 : Bool), v29 = .bool x29_6 ∧ Aside0 (gaugerlaw17_PlanRaw.j0 kq a1 l2 x29_6 l0_0 l0_1 a3_0 a3_1 a3_2 = some r) ∧ Aside0 (kq ≤ k) ∧ Aside0 (wc.heap[gb169]? = some (.cells #[(.slice A0_0 l0_0.length c0_0), (.slice A0_1 l0_1.length c0_1)] 25 (0, 0))) ∧ Aside0 (wc.heap[gb170]? = some (.cells #[.string a3_0, .string a3_1, .bool a3_2] 28 (0, 0))) ∧ Aside0 (Below w.heap.size w wc))
    case first =>
      have H := HC7.out
      clear HC7
      replace H := Option.bind_eq_some_iff.mp H
      obtain ⟨t172, A110, H⟩ := H
      replace H : (if t172 = true then (gaugerlaw17_PlanRaw.j0 k a1 l2 true l0_0 l0_1 a3_0 a3_1 a3_2) else (gaugerlaw17_PlanRaw.j0 k a1 l2 (decide ((wrap64 ((a3_0.size : Int) + (a3_1.size : Int))) > 1000)) l0_0 l0_1 a3_0 a3_1 a3_2)) = some r := H
      have A11 := Aside0.mk A110
      clear A110
      by_cases c12 : t172 = true
      · subst c12
        have H1 : (gaugerlaw17_PlanRaw.j0 k a1 l2 true l0_0 l0_1 a3_0 a3_1 a3_2) = some r := by rw [if_pos rfl] at H; exact H
        clear H
        have H := H1
        clear H1
        have H' := Aside0.mk H
        clear H
        have hnb13 := NB169_170.out
        have hnc13 := NB170_169.out
        have hcz14_0 : w10.cell? ⟨gb169, 0, none⟩ = some (.slice A0_0 l0_0.length c0_0) := (blk_cell BK169.out 0).trans rfl
        have hcz14_1 : w10.cell? ⟨gb169, 1, none⟩ = some (.slice A0_1 l0_1.length c0_1) := (blk_cell BK169.out 1).trans rfl
        have hfz14_0 := blk_frozen BK169.out 0
        have hfz14_1 := blk_frozen BK169.out 1
        go_wp2_with (first | ((with_reducible refine gate_callee (f := 6) rfl ?_); refine goesL_ (some 19) rfl rfl Try.func6 (by kernel_rfl) rfl #[.agg #[.slice A0_0 l0_0.length c0_0, .slice A0_1 l0_1.length c0_1], .slice A2 l2.length c2] rfl (by (try simp only [List.map_toArray, List.map_cons, List.map_nil]); first | done | rfl | (simp only [List.length_drop, List.length_take]; rfl)) ?_; (with_reducible refine (gaugerlaw17_great.calls k _ _ l0_0 _ _ l0_1 _ _ l2 true _ ?side1 ?side2 ?side3 ?side4 ?side5 ?side6 A11.out).mono ?_); (case side1 => repeat (first | exact (Kd.C_below HR0_0.out HB.out) | (with_reducible refine Kd.C_alloc ?_ _) | (with_reducible refine Kd.C_drewN ?_ _) | (with_reducible refine Kd.C_drew ?_))); (case side2 => exact HC0_0.out); (case side3 => repeat (first | exact (Kd.C_below HR0_1.out HB.out) | (with_reducible refine Kd.C_alloc ?_ _) | (with_reducible refine Kd.C_drewN ?_ _) | (with_reducible refine Kd.C_drew ?_))); (case side4 => exact HC0_1.out); (case side5 => repeat (first | exact (Kd.C_below HR2.out HB.out) | (with_reducible refine Kd.C_alloc ?_ _) | (with_reducible refine Kd.C_drewN ?_ _) | (with_reducible refine Kd.C_drew ?_))); (case side6 => exact HC2.out); rintro e w15 ⟨rfl, hb⟩; refine ⟨_, rfl, ?_⟩; have n0_ := Aside0.mk (blk_below (g := gb169) (o := .cells #[.slice A0_0 l0_0.length c0_0, .slice A0_1 l0_1.length c0_1] 25 (0, 0)) (by (with_reducible repeat (first | refine blk_drewN ?_ _ | refine blk_drew ?_ | refine blk_alloc ?_ _)); exact BK169.out) hb); have n1_ := Aside0.mk (blk_below (g := gb170) (o := .cells #[.string a3_0, .string a3_1, .bool a3_2] 28 (0, 0)) (by (with_reducible repeat (first | refine blk_drewN ?_ _ | refine blk_drew ?_ | refine blk_alloc ?_ _)); exact BK170.out) hb); have n2_ := Aside0.mk (below_step (by repeat (first | (with_reducible first | exact HB.out | apply below_alloc | apply pw_below_drewN | apply below_drew1 | refine below_set ?_ GE169.out | refine below_set ?_ GE170.out) | exact HB.out)) hb); clear BK169; clear BK170; clear HB; have BK169 := n0_; have BK170 := n1_; have HB := n2_; clear n0_ n1_ n2_; (try clear hb); (try clear hb2); (try clear hk); (try clear hi)))
        go_meet
        case rel => exact ⟨_, (true), (by first | rfl | (simp; done) | (simp [*]; done)), H', ⟨by first | omega | exact Nat.le_refl _⟩, ⟨by (with_reducible repeat (first | refine blk_drewN ?_ _ | refine blk_drew ?_ | refine blk_alloc ?_ _)); exact BK169.out⟩, ⟨by (with_reducible repeat (first | refine blk_drewN ?_ _ | refine blk_drew ?_ | refine blk_alloc ?_ _)); exact BK170.out⟩, ⟨by repeat (first | (with_reducible first | exact HB.out | apply below_alloc | apply pw_below_drewN | apply below_drew1 | refine below_set ?_ GE169.out | refine below_set ?_ GE170.out) | exact HB.out)⟩⟩
      · replace c12 := Bool.eq_false_iff.mpr c12
        subst c12
        have H1 : (gaugerlaw17_PlanRaw.j0 k a1 l2 (decide ((wrap64 ((a3_0.size : Int) + (a3_1.size : Int))) > 1000)) l0_0 l0_1 a3_0 a3_1 a3_2) = some r := by rw [if_neg (show ¬ (false = true) by decide)] at H; exact H
        clear H
        have H := H1
        clear H1
        have H' := Aside0.mk H
        clear H
        have hnb16 := NB169_170.out
        have hnc16 := NB170_169.out
        have hcz17_0 : w10.cell? ⟨gb169, 0, none⟩ = some (.slice A0_0 l0_0.length c0_0) := (blk_cell BK169.out 0).trans rfl
        have hcz17_1 : w10.cell? ⟨gb169, 1, none⟩ = some (.slice A0_1 l0_1.length c0_1) := (blk_cell BK169.out 1).trans rfl
        have hfz17_0 := blk_frozen BK169.out 0
        have hfz17_1 := blk_frozen BK169.out 1
        go_wp2_with (first | ((with_reducible refine gate_callee (f := 6) rfl ?_); refine goesL_ (some 19) rfl rfl Try.func6 (by kernel_rfl) rfl #[.agg #[.slice A0_0 l0_0.length c0_0, .slice A0_1 l0_1.length c0_1], .slice A2 l2.length c2] rfl (by (try simp only [List.map_toArray, List.map_cons, List.map_nil]); first | done | rfl | (simp only [List.length_drop, List.length_take]; rfl)) ?_; (with_reducible refine (gaugerlaw17_great.calls k _ _ l0_0 _ _ l0_1 _ _ l2 false _ ?side1 ?side2 ?side3 ?side4 ?side5 ?side6 A11.out).mono ?_); (case side1 => repeat (first | exact (Kd.C_below HR0_0.out HB.out) | (with_reducible refine Kd.C_alloc ?_ _) | (with_reducible refine Kd.C_drewN ?_ _) | (with_reducible refine Kd.C_drew ?_))); (case side2 => exact HC0_0.out); (case side3 => repeat (first | exact (Kd.C_below HR0_1.out HB.out) | (with_reducible refine Kd.C_alloc ?_ _) | (with_reducible refine Kd.C_drewN ?_ _) | (with_reducible refine Kd.C_drew ?_))); (case side4 => exact HC0_1.out); (case side5 => repeat (first | exact (Kd.C_below HR2.out HB.out) | (with_reducible refine Kd.C_alloc ?_ _) | (with_reducible refine Kd.C_drewN ?_ _) | (with_reducible refine Kd.C_drew ?_))); (case side6 => exact HC2.out); rintro e w18 ⟨rfl, hb⟩; refine ⟨_, rfl, ?_⟩; have n0_ := Aside0.mk (blk_below (g := gb169) (o := .cells #[.slice A0_0 l0_0.length c0_0, .slice A0_1 l0_1.length c0_1] 25 (0, 0)) (by (with_reducible repeat (first | refine blk_drewN ?_ _ | refine blk_drew ?_ | refine blk_alloc ?_ _)); exact BK169.out) hb); have n1_ := Aside0.mk (blk_below (g := gb170) (o := .cells #[.string a3_0, .string a3_1, .bool a3_2] 28 (0, 0)) (by (with_reducible repeat (first | refine blk_drewN ?_ _ | refine blk_drew ?_ | refine blk_alloc ?_ _)); exact BK170.out) hb); have n2_ := Aside0.mk (below_step (by repeat (first | (with_reducible first | exact HB.out | apply below_alloc | apply pw_below_drewN | apply below_drew1 | refine below_set ?_ GE169.out | refine below_set ?_ GE170.out) | exact HB.out)) hb); clear BK169; clear BK170; clear HB; have BK169 := n0_; have BK170 := n1_; have HB := n2_; clear n0_ n1_ n2_; (try clear hb); (try clear hb2); (try clear hk); (try clear hi); have hcz19_0 : w18.cell? ⟨gb170, 0, none⟩ = some (.string a3_0) := (blk_cell BK170.out 0).trans rfl; have hcz19_1 : w18.cell? ⟨gb170, 1, none⟩ = some (.string a3_1) := (blk_cell BK170.out 1).trans rfl; have hcz19_2 : w18.cell? ⟨gb170, 2, none⟩ = some (.bool a3_2) := (blk_cell BK170.out 2).trans rfl; have hfz19_0 := blk_frozen BK170.out 0; have hfz19_1 := blk_frozen BK170.out 1; have hfz19_2 := blk_frozen BK170.out 2))
        go_meet
        case rel => exact ⟨_, (decide ((wrap64 ((a3_0.size : Int) + (a3_1.size : Int))) > 1000)), (by first | rfl | (simp; done) | (simp [*]; done)), H', ⟨by first | omega | exact Nat.le_refl _⟩, ⟨by (with_reducible repeat (first | refine blk_drewN ?_ _ | refine blk_drew ?_ | refine blk_alloc ?_ _)); exact BK169.out⟩, ⟨by (with_reducible repeat (first | refine blk_drewN ?_ _ | refine blk_drew ?_ | refine blk_alloc ?_ _)); exact BK170.out⟩, ⟨by repeat (first | (with_reducible first | exact HB.out | apply below_alloc | apply pw_below_drewN | apply below_drew1 | refine below_set ?_ GE169.out | refine below_set ?_ GE170.out) | exact HB.out)⟩⟩
    case rest =>
      clear HC7
      try clear c1
      try clear c2
      try clear p2
      try clear c3
      try clear c5
      try clear c6
      try clear p6
      try clear c12
      try clear c13
      try clear c16
      try clear hcz14_0
      try clear hcz14_1
      try clear hcz17_0
      try clear hcz17_1
      try clear hcz19_0
      try clear hcz19_1
      try clear hcz19_2
      try clear hfz14_0
      try clear hfz14_1
      try clear hfz17_0
      try clear hfz17_1
      try clear hfz19_0
      try clear hfz19_1
      try clear hfz19_2
      obtain ⟨kq, x29_6, rfl, HA, HJ6, BK169, BK170, HB⟩ := hcut
      cases kq with
      | zero => exact absurd HA.out (by simp [gaugerlaw17_PlanRaw.j0])
      | succ kj6 =>
        have H := HA.out
        clear HA
        simp only [gaugerlaw17_PlanRaw.j0] at H
        by_cases c20 : x29_6 = true
        · subst c20
          have H1 : (some true) = some r := by rw [if_pos rfl] at H; exact H
          clear H
          have H := H1
          clear H1
          obtain rfl := Option.some.inj H
          go_wp2
          go_ret
          exact ⟨by first | rfl | (simp [errW_none, errW_some] <;> rfl) | (simp [*, errW_none, errW_some] <;> rfl), by repeat (first | (with_reducible first | exact HB.out | apply below_alloc | apply pw_below_drewN | apply below_drew1 | refine below_set ?_ GE169.out | refine below_set ?_ GE170.out) | exact HB.out)⟩
        · replace c20 := Bool.eq_false_iff.mpr c20
          subst c20
          have H1 : ((plan_Entry.f kj6 l0_0 l0_1 a1 l2).bind fun bt173 => ((plan_Row.f kj6 l0_0 l0_1 a1 a3_0 a3_1 a3_2).bind fun bt178 => ((plan_Group.f kj6 l0_0 l0_1 a1 l2).bind fun t182 => ((plan_Fits.f kj6 l0_0 l0_1 a1 l2).bind fun t183 => ((plan_Views.f kj6 l0_0 l0_1 a1).bind fun t184 => (if a1 < 0 then (if bt173.2.2.2 = 1 then (if bt178.2 = 3 then (if t183 = 1 then (gaugerlaw17_PlanRaw.j1 kj6 a1 t182 false l0_0 l0_1) else ((plan_Good.f l0_0 l0_1).bind fun t187 => (gaugerlaw17_PlanRaw.j1 kj6 a1 t182 t187 l0_0 l0_1))) else ((plan_Good.f l0_0 l0_1).bind fun t188 => (gaugerlaw17_PlanRaw.j1 kj6 a1 t182 t188 l0_0 l0_1))) else ((plan_Good.f l0_0 l0_1).bind fun t189 => (gaugerlaw17_PlanRaw.j1 kj6 a1 t182 t189 l0_0 l0_1))) else (if a1 ≥ (l0_0.length : Int) then (if bt173.2.2.2 = 1 then (if bt178.2 = 3 then (if t183 = 1 then (gaugerlaw17_PlanRaw.j1 kj6 a1 t182 false l0_0 l0_1) else ((plan_Good.f l0_0 l0_1).bind fun t190 => (gaugerlaw17_PlanRaw.j1 kj6 a1 t182 t190 l0_0 l0_1))) else ((plan_Good.f l0_0 l0_1).bind fun t191 => (gaugerlaw17_PlanRaw.j1 kj6 a1 t182 t191 l0_0 l0_1))) else ((plan_Good.f l0_0 l0_1).bind fun t192 => (gaugerlaw17_PlanRaw.j1 kj6 a1 t182 t192 l0_0 l0_1))) else (gaugerlaw17_PlanRaw.j1 kj6 a1 t182 false l0_0 l0_1)))))))) = some r := by rw [if_neg (show ¬ (false = true) by decide)] at H; exact H
          clear H
          have H := H1
          clear H1
          replace H := Option.bind_eq_some_iff.mp H
          obtain ⟨⟨t173, t174, t175, t176⟩, A210, H⟩ := H
          replace H : ((plan_Row.f kj6 l0_0 l0_1 a1 a3_0 a3_1 a3_2).bind fun bt178 => ((plan_Group.f kj6 l0_0 l0_1 a1 l2).bind fun t182 => ((plan_Fits.f kj6 l0_0 l0_1 a1 l2).bind fun t183 => ((plan_Views.f kj6 l0_0 l0_1 a1).bind fun t184 => (if a1 < 0 then (if t176 = 1 then (if bt178.2 = 3 then (if t183 = 1 then (gaugerlaw17_PlanRaw.j1 kj6 a1 t182 false l0_0 l0_1) else ((plan_Good.f l0_0 l0_1).bind fun t187 => (gaugerlaw17_PlanRaw.j1 kj6 a1 t182 t187 l0_0 l0_1))) else ((plan_Good.f l0_0 l0_1).bind fun t188 => (gaugerlaw17_PlanRaw.j1 kj6 a1 t182 t188 l0_0 l0_1))) else ((plan_Good.f l0_0 l0_1).bind fun t189 => (gaugerlaw17_PlanRaw.j1 kj6 a1 t182 t189 l0_0 l0_1))) else (if a1 ≥ (l0_0.length : Int) then (if t176 = 1 then (if bt178.2 = 3 then (if t183 = 1 then (gaugerlaw17_PlanRaw.j1 kj6 a1 t182 false l0_0 l0_1) else ((plan_Good.f l0_0 l0_1).bind fun t190 => (gaugerlaw17_PlanRaw.j1 kj6 a1 t182 t190 l0_0 l0_1))) else ((plan_Good.f l0_0 l0_1).bind fun t191 => (gaugerlaw17_PlanRaw.j1 kj6 a1 t182 t191 l0_0 l0_1))) else ((plan_Good.f l0_0 l0_1).bind fun t192 => (gaugerlaw17_PlanRaw.j1 kj6 a1 t182 t192 l0_0 l0_1))) else (gaugerlaw17_PlanRaw.j1 kj6 a1 t182 false l0_0 l0_1))))))) = some r := H
          have A21 := Aside0.mk A210
          clear A210
          replace H := Option.bind_eq_some_iff.mp H
          obtain ⟨⟨t178, t181⟩, A220, H⟩ := H
          replace H : ((plan_Group.f kj6 l0_0 l0_1 a1 l2).bind fun t182 => ((plan_Fits.f kj6 l0_0 l0_1 a1 l2).bind fun t183 => ((plan_Views.f kj6 l0_0 l0_1 a1).bind fun t184 => (if a1 < 0 then (if t176 = 1 then (if t181 = 3 then (if t183 = 1 then (gaugerlaw17_PlanRaw.j1 kj6 a1 t182 false l0_0 l0_1) else ((plan_Good.f l0_0 l0_1).bind fun t187 => (gaugerlaw17_PlanRaw.j1 kj6 a1 t182 t187 l0_0 l0_1))) else ((plan_Good.f l0_0 l0_1).bind fun t188 => (gaugerlaw17_PlanRaw.j1 kj6 a1 t182 t188 l0_0 l0_1))) else ((plan_Good.f l0_0 l0_1).bind fun t189 => (gaugerlaw17_PlanRaw.j1 kj6 a1 t182 t189 l0_0 l0_1))) else (if a1 ≥ (l0_0.length : Int) then (if t176 = 1 then (if t181 = 3 then (if t183 = 1 then (gaugerlaw17_PlanRaw.j1 kj6 a1 t182 false l0_0 l0_1) else ((plan_Good.f l0_0 l0_1).bind fun t190 => (gaugerlaw17_PlanRaw.j1 kj6 a1 t182 t190 l0_0 l0_1))) else ((plan_Good.f l0_0 l0_1).bind fun t191 => (gaugerlaw17_PlanRaw.j1 kj6 a1 t182 t191 l0_0 l0_1))) else ((plan_Good.f l0_0 l0_1).bind fun t192 => (gaugerlaw17_PlanRaw.j1 kj6 a1 t182 t192 l0_0 l0_1))) else (gaugerlaw17_PlanRaw.j1 kj6 a1 t182 false l0_0 l0_1)))))) = some r := H
          have A22 := Aside0.mk A220
          clear A220
          replace H := Option.bind_eq_some_iff.mp H
          obtain ⟨t182, A230, H⟩ := H
          replace H : ((plan_Fits.f kj6 l0_0 l0_1 a1 l2).bind fun t183 => ((plan_Views.f kj6 l0_0 l0_1 a1).bind fun t184 => (if a1 < 0 then (if t176 = 1 then (if t181 = 3 then (if t183 = 1 then (gaugerlaw17_PlanRaw.j1 kj6 a1 t182 false l0_0 l0_1) else ((plan_Good.f l0_0 l0_1).bind fun t187 => (gaugerlaw17_PlanRaw.j1 kj6 a1 t182 t187 l0_0 l0_1))) else ((plan_Good.f l0_0 l0_1).bind fun t188 => (gaugerlaw17_PlanRaw.j1 kj6 a1 t182 t188 l0_0 l0_1))) else ((plan_Good.f l0_0 l0_1).bind fun t189 => (gaugerlaw17_PlanRaw.j1 kj6 a1 t182 t189 l0_0 l0_1))) else (if a1 ≥ (l0_0.length : Int) then (if t176 = 1 then (if t181 = 3 then (if t183 = 1 then (gaugerlaw17_PlanRaw.j1 kj6 a1 t182 false l0_0 l0_1) else ((plan_Good.f l0_0 l0_1).bind fun t190 => (gaugerlaw17_PlanRaw.j1 kj6 a1 t182 t190 l0_0 l0_1))) else ((plan_Good.f l0_0 l0_1).bind fun t191 => (gaugerlaw17_PlanRaw.j1 kj6 a1 t182 t191 l0_0 l0_1))) else ((plan_Good.f l0_0 l0_1).bind fun t192 => (gaugerlaw17_PlanRaw.j1 kj6 a1 t182 t192 l0_0 l0_1))) else (gaugerlaw17_PlanRaw.j1 kj6 a1 t182 false l0_0 l0_1))))) = some r := H
          have A23 := Aside0.mk A230
          clear A230
          replace H := Option.bind_eq_some_iff.mp H
          obtain ⟨t183, A240, H⟩ := H
          replace H : ((plan_Views.f kj6 l0_0 l0_1 a1).bind fun t184 => (if a1 < 0 then (if t176 = 1 then (if t181 = 3 then (if t183 = 1 then (gaugerlaw17_PlanRaw.j1 kj6 a1 t182 false l0_0 l0_1) else ((plan_Good.f l0_0 l0_1).bind fun t187 => (gaugerlaw17_PlanRaw.j1 kj6 a1 t182 t187 l0_0 l0_1))) else ((plan_Good.f l0_0 l0_1).bind fun t188 => (gaugerlaw17_PlanRaw.j1 kj6 a1 t182 t188 l0_0 l0_1))) else ((plan_Good.f l0_0 l0_1).bind fun t189 => (gaugerlaw17_PlanRaw.j1 kj6 a1 t182 t189 l0_0 l0_1))) else (if a1 ≥ (l0_0.length : Int) then (if t176 = 1 then (if t181 = 3 then (if t183 = 1 then (gaugerlaw17_PlanRaw.j1 kj6 a1 t182 false l0_0 l0_1) else ((plan_Good.f l0_0 l0_1).bind fun t190 => (gaugerlaw17_PlanRaw.j1 kj6 a1 t182 t190 l0_0 l0_1))) else ((plan_Good.f l0_0 l0_1).bind fun t191 => (gaugerlaw17_PlanRaw.j1 kj6 a1 t182 t191 l0_0 l0_1))) else ((plan_Good.f l0_0 l0_1).bind fun t192 => (gaugerlaw17_PlanRaw.j1 kj6 a1 t182 t192 l0_0 l0_1))) else (gaugerlaw17_PlanRaw.j1 kj6 a1 t182 false l0_0 l0_1)))) = some r := H
          have A24 := Aside0.mk A240
          clear A240
          replace H := Option.bind_eq_some_iff.mp H
          obtain ⟨t184, A250, H⟩ := H
          replace H : (if a1 < 0 then (if t176 = 1 then (if t181 = 3 then (if t183 = 1 then (gaugerlaw17_PlanRaw.j1 kj6 a1 t182 false l0_0 l0_1) else ((plan_Good.f l0_0 l0_1).bind fun t187 => (gaugerlaw17_PlanRaw.j1 kj6 a1 t182 t187 l0_0 l0_1))) else ((plan_Good.f l0_0 l0_1).bind fun t188 => (gaugerlaw17_PlanRaw.j1 kj6 a1 t182 t188 l0_0 l0_1))) else ((plan_Good.f l0_0 l0_1).bind fun t189 => (gaugerlaw17_PlanRaw.j1 kj6 a1 t182 t189 l0_0 l0_1))) else (if a1 ≥ (l0_0.length : Int) then (if t176 = 1 then (if t181 = 3 then (if t183 = 1 then (gaugerlaw17_PlanRaw.j1 kj6 a1 t182 false l0_0 l0_1) else ((plan_Good.f l0_0 l0_1).bind fun t190 => (gaugerlaw17_PlanRaw.j1 kj6 a1 t182 t190 l0_0 l0_1))) else ((plan_Good.f l0_0 l0_1).bind fun t191 => (gaugerlaw17_PlanRaw.j1 kj6 a1 t182 t191 l0_0 l0_1))) else ((plan_Good.f l0_0 l0_1).bind fun t192 => (gaugerlaw17_PlanRaw.j1 kj6 a1 t182 t192 l0_0 l0_1))) else (gaugerlaw17_PlanRaw.j1 kj6 a1 t182 false l0_0 l0_1))) = some r := H
          have A25 := Aside0.mk A250
          clear A250
          have HC26 := Aside0.mk H
          clear H
          have hnb27 := NB169_170.out
          have hnc27 := NB170_169.out
          have hcz28_0 : wc.cell? ⟨gb169, 0, none⟩ = some (.slice A0_0 l0_0.length c0_0) := (blk_cell BK169.out 0).trans rfl
          have hcz28_1 : wc.cell? ⟨gb169, 1, none⟩ = some (.slice A0_1 l0_1.length c0_1) := (blk_cell BK169.out 1).trans rfl
          have hfz28_0 := blk_frozen BK169.out 0
          have hfz28_1 := blk_frozen BK169.out 1
          go_upto_region 10 with (first | ((with_reducible refine gate_callee (f := 7) rfl ?_); refine goesL_ (some 34) rfl rfl Try.func7 (by kernel_rfl) rfl #[.agg #[.slice A0_0 l0_0.length c0_0, .slice A0_1 l0_1.length c0_1], .int .i64 a1, .slice A2 l2.length c2] rfl (by (try simp only [List.map_toArray, List.map_cons, List.map_nil]); first | done | rfl | (simp only [List.length_drop, List.length_take]; rfl)) ?_; (with_reducible refine (plan_Entry.calls kj6 _ _ l0_0 _ _ l0_1 a1 _ _ l2 t173 t174 t175 t176 _ ?side1 ?side2 ?side3 ?side4 ?side5 ?side6 A21.out).mono ?_); (case side1 => repeat (first | exact (Kd.C_below HR0_0.out HB.out) | (with_reducible refine Kd.C_alloc ?_ _) | (with_reducible refine Kd.C_drewN ?_ _) | (with_reducible refine Kd.C_drew ?_))); (case side2 => exact HC0_0.out); (case side3 => repeat (first | exact (Kd.C_below HR0_1.out HB.out) | (with_reducible refine Kd.C_alloc ?_ _) | (with_reducible refine Kd.C_drewN ?_ _) | (with_reducible refine Kd.C_drew ?_))); (case side4 => exact HC0_1.out); (case side5 => repeat (first | exact (Kd.C_below HR2.out HB.out) | (with_reducible refine Kd.C_alloc ?_ _) | (with_reducible refine Kd.C_drewN ?_ _) | (with_reducible refine Kd.C_drew ?_))); (case side6 => exact HC2.out); rintro e w29 ⟨rfl, hb⟩; refine ⟨_, rfl, ?_⟩; have n0_ := Aside0.mk (blk_below (g := gb169) (o := .cells #[.slice A0_0 l0_0.length c0_0, .slice A0_1 l0_1.length c0_1] 25 (0, 0)) (by (with_reducible repeat (first | refine blk_drewN ?_ _ | refine blk_drew ?_ | refine blk_alloc ?_ _)); exact BK169.out) hb); have n1_ := Aside0.mk (blk_below (g := gb170) (o := .cells #[.string a3_0, .string a3_1, .bool a3_2] 28 (0, 0)) (by (with_reducible repeat (first | refine blk_drewN ?_ _ | refine blk_drew ?_ | refine blk_alloc ?_ _)); exact BK170.out) hb); have n2_ := Aside0.mk (below_step (by repeat (first | (with_reducible first | exact HB.out | apply below_alloc | apply pw_below_drewN | apply below_drew1 | refine below_set ?_ GE169.out | refine below_set ?_ GE170.out) | exact HB.out)) hb); clear BK169; clear BK170; clear HB; have BK169 := n0_; have BK170 := n1_; have HB := n2_; clear n0_ n1_ n2_; (try clear hb); (try clear hb2); (try clear hk); (try clear hi)) | ((with_reducible refine gate_dst (N := 9) rfl ?_); (try (refine gate_guard (by rfl) ?_; dsimp only)); refine box_event ?hg (N := 9) ?hd (cs := #[.string (⟨#[]⟩ : ByteArray), .string (⟨#[]⟩ : ByteArray), .bool false]) (t := 28) ?hr ?_; (case hd => rfl); (case hg => rfl); (case hr => first | (go_simp; done) | (go_simp; rfl)); intro gb177 hg w30 hbox hb; have n0_ := Aside0.mk (blk_below (g := gb169) (o := .cells #[.slice A0_0 l0_0.length c0_0, .slice A0_1 l0_1.length c0_1] 25 (0, 0)) (by (with_reducible repeat (first | refine blk_drewN ?_ _ | refine blk_drew ?_ | refine blk_alloc ?_ _)); exact BK169.out) hb); have n1_ := Aside0.mk (blk_below (g := gb170) (o := .cells #[.string a3_0, .string a3_1, .bool a3_2] 28 (0, 0)) (by (with_reducible repeat (first | refine blk_drewN ?_ _ | refine blk_drew ?_ | refine blk_alloc ?_ _)); exact BK170.out) hb); have n2_ := Aside0.mk (below_step (by repeat (first | (with_reducible first | exact HB.out | apply below_alloc | apply pw_below_drewN | apply below_drew1 | refine below_set ?_ GE169.out | refine below_set ?_ GE170.out) | exact HB.out)) hb); have n3_ := Aside0.mk (hbox); have n4_ := Aside0.mk ((by rw [hg]; exact (below_size (by repeat (first | (with_reducible first | exact HB.out | apply below_alloc | apply pw_below_drewN | apply below_drew1 | refine below_set ?_ GE169.out | refine below_set ?_ GE170.out) | exact HB.out))) : w.heap.size ≤ gb177)); have n5_ := Aside0.mk ((by rw [hg]; exact (below_size (by repeat (first | (with_reducible first | exact HB.out | apply below_alloc | apply pw_below_drewN | apply below_drew1 | refine below_set ?_ GE169.out | refine below_set ?_ GE170.out) | exact HB.out))) : w.heap.size ≤ gb177)); have n6_ := Aside0.mk ((by rw [hg]; exact Nat.ne_of_lt (blk_lt (g := gb169) (o := .cells #[.slice A0_0 l0_0.length c0_0, .slice A0_1 l0_1.length c0_1] 25 (0, 0)) (by (with_reducible repeat (first | refine blk_drewN ?_ _ | refine blk_drew ?_ | refine blk_alloc ?_ _)); exact BK169.out)) : gb169 ≠ gb177)); have n7_ := Aside0.mk ((by rw [hg]; exact Nat.ne_of_gt (blk_lt (g := gb169) (o := .cells #[.slice A0_0 l0_0.length c0_0, .slice A0_1 l0_1.length c0_1] 25 (0, 0)) (by (with_reducible repeat (first | refine blk_drewN ?_ _ | refine blk_drew ?_ | refine blk_alloc ?_ _)); exact BK169.out)) : gb177 ≠ gb169)); have n8_ := Aside0.mk ((by rw [hg]; exact Nat.ne_of_lt (blk_lt (g := gb170) (o := .cells #[.string a3_0, .string a3_1, .bool a3_2] 28 (0, 0)) (by (with_reducible repeat (first | refine blk_drewN ?_ _ | refine blk_drew ?_ | refine blk_alloc ?_ _)); exact BK170.out)) : gb170 ≠ gb177)); have n9_ := Aside0.mk ((by rw [hg]; exact Nat.ne_of_gt (blk_lt (g := gb170) (o := .cells #[.string a3_0, .string a3_1, .bool a3_2] 28 (0, 0)) (by (with_reducible repeat (first | refine blk_drewN ?_ _ | refine blk_drew ?_ | refine blk_alloc ?_ _)); exact BK170.out)) : gb177 ≠ gb170)); clear BK169; clear BK170; clear HB; have BK169 := n0_; have BK170 := n1_; have HB := n2_; have BK177 := n3_; have GW177 := n4_; have GE177 := n5_; have NB169_177 := n6_; have NB177_169 := n7_; have NB170_177 := n8_; have NB177_170 := n9_; clear n0_ n1_ n2_ n3_ n4_ n5_ n6_ n7_ n8_ n9_; clear hb hbox hg; have hnb31 := NB177_169.out; have hnc31 := NB169_177.out; have hnb32 := NB177_170.out; have hnc32 := NB170_177.out; have hcz33_0 : w30.cell? ⟨gb177, 0, none⟩ = some (.string (⟨#[]⟩ : ByteArray)) := (blk_cell BK177.out 0).trans rfl; have hcz33_1 : w30.cell? ⟨gb177, 1, none⟩ = some (.string (⟨#[]⟩ : ByteArray)) := (blk_cell BK177.out 1).trans rfl; have hcz33_2 : w30.cell? ⟨gb177, 2, none⟩ = some (.bool false) := (blk_cell BK177.out 2).trans rfl; have hfz33_0 := blk_frozen BK177.out 0; have hfz33_1 := blk_frozen BK177.out 1; have hfz33_2 := blk_frozen BK177.out 2; have hcz34_0 : w30.cell? ⟨gb169, 0, none⟩ = some (.slice A0_0 l0_0.length c0_0) := (blk_cell BK169.out 0).trans rfl; have hcz34_1 : w30.cell? ⟨gb169, 1, none⟩ = some (.slice A0_1 l0_1.length c0_1) := (blk_cell BK169.out 1).trans rfl; have hfz34_0 := blk_frozen BK169.out 0; have hfz34_1 := blk_frozen BK169.out 1; have hcz35_0 : w30.cell? ⟨gb170, 0, none⟩ = some (.string a3_0) := (blk_cell BK170.out 0).trans rfl; have hcz35_1 : w30.cell? ⟨gb170, 1, none⟩ = some (.string a3_1) := (blk_cell BK170.out 1).trans rfl; have hcz35_2 : w30.cell? ⟨gb170, 2, none⟩ = some (.bool a3_2) := (blk_cell BK170.out 2).trans rfl; have hfz35_0 := blk_frozen BK170.out 0; have hfz35_1 := blk_frozen BK170.out 1; have hfz35_2 := blk_frozen BK170.out 2) | ((with_reducible refine gate_callee (f := 8) rfl ?_); refine goesL_ (some 41) rfl rfl Try.func8 (by kernel_rfl) rfl #[.agg #[.slice A0_0 l0_0.length c0_0, .slice A0_1 l0_1.length c0_1], .int .i64 a1, .agg #[.string a3_0, .string a3_1, .bool a3_2]] rfl (by (try simp only [List.map_toArray, List.map_cons, List.map_nil]); first | done | rfl | (simp only [List.length_drop, List.length_take]; rfl)) ?_; (with_reducible refine (plan_Row.calls kj6 _ _ l0_0 _ _ l0_1 a1 a3_0 a3_1 a3_2 t178 t181 _ ?side1 ?side2 ?side3 ?side4 A22.out).mono ?_); (case side1 => exact Kd.C_below HR0_0.out (by repeat (first | (with_reducible first | exact HB.out | apply below_alloc | apply pw_below_drewN | apply below_drew1 | refine below_set ?_ GE169.out | refine below_set ?_ GE170.out | refine below_set ?_ GE177.out) | exact HB.out))); (case side2 => exact HC0_0.out); (case side3 => exact Kd.C_below HR0_1.out (by repeat (first | (with_reducible first | exact HB.out | apply below_alloc | apply pw_below_drewN | apply below_drew1 | refine below_set ?_ GE169.out | refine below_set ?_ GE170.out | refine below_set ?_ GE177.out) | exact HB.out))); (case side4 => exact HC0_1.out); rintro e w36 ⟨v179, rfl, ho0, hb⟩; refine ⟨_, rfl, ?_⟩; have n0_ := Aside0.mk (Kd.R_lower ho0 (below_size (by repeat (first | (with_reducible first | exact HB.out | apply below_alloc | apply pw_below_drewN | apply below_drew1 | refine below_set ?_ GE169.out | refine below_set ?_ GE170.out | refine below_set ?_ GE177.out) | exact HB.out)))); have n1_ := Aside0.mk (blk_below (g := gb169) (o := .cells #[.slice A0_0 l0_0.length c0_0, .slice A0_1 l0_1.length c0_1] 25 (0, 0)) (by (with_reducible repeat (first | refine blk_drewN ?_ _ | refine blk_drew ?_ | refine blk_alloc ?_ _)); refine blk_far ?_ NB169_177.out _; (with_reducible repeat (first | refine blk_drewN ?_ _ | refine blk_drew ?_ | refine blk_alloc ?_ _)); refine blk_far ?_ NB169_177.out _; (with_reducible repeat (first | refine blk_drewN ?_ _ | refine blk_drew ?_ | refine blk_alloc ?_ _)); refine blk_far ?_ NB169_177.out _; (with_reducible repeat (first | refine blk_drewN ?_ _ | refine blk_drew ?_ | refine blk_alloc ?_ _)); exact BK169.out) hb); have n2_ := Aside0.mk (blk_below (g := gb170) (o := .cells #[.string a3_0, .string a3_1, .bool a3_2] 28 (0, 0)) (by (with_reducible repeat (first | refine blk_drewN ?_ _ | refine blk_drew ?_ | refine blk_alloc ?_ _)); refine blk_far ?_ NB170_177.out _; (with_reducible repeat (first | refine blk_drewN ?_ _ | refine blk_drew ?_ | refine blk_alloc ?_ _)); refine blk_far ?_ NB170_177.out _; (with_reducible repeat (first | refine blk_drewN ?_ _ | refine blk_drew ?_ | refine blk_alloc ?_ _)); refine blk_far ?_ NB170_177.out _; (with_reducible repeat (first | refine blk_drewN ?_ _ | refine blk_drew ?_ | refine blk_alloc ?_ _)); exact BK170.out) hb); have n3_ := Aside0.mk (blk_below (g := gb177) (o := .cells #[.string t173, .string t174, .bool t175] 28 (0, 0)) (by (with_reducible repeat (first | refine blk_drewN ?_ _ | refine blk_drew ?_ | refine blk_alloc ?_ _)); refine blk_put (cs := #[.string t173, .string t174, .bool false]) ?_ 2 _ rfl; (with_reducible repeat (first | refine blk_drewN ?_ _ | refine blk_drew ?_ | refine blk_alloc ?_ _)); refine blk_put (cs := #[.string t173, .string (⟨#[]⟩ : ByteArray), .bool false]) ?_ 1 _ rfl; (with_reducible repeat (first | refine blk_drewN ?_ _ | refine blk_drew ?_ | refine blk_alloc ?_ _)); refine blk_put (cs := #[.string (⟨#[]⟩ : ByteArray), .string (⟨#[]⟩ : ByteArray), .bool false]) ?_ 0 _ rfl; (with_reducible repeat (first | refine blk_drewN ?_ _ | refine blk_drew ?_ | refine blk_alloc ?_ _)); exact BK177.out) hb); have n4_ := Aside0.mk (below_step (by repeat (first | (with_reducible first | exact HB.out | apply below_alloc | apply pw_below_drewN | apply below_drew1 | refine below_set ?_ GE169.out | refine below_set ?_ GE170.out | refine below_set ?_ GE177.out) | exact HB.out)) hb); clear BK169; clear BK170; clear BK177; clear HB; have HO180 := n0_; have BK169 := n1_; have BK170 := n2_; have BK177 := n3_; have HB := n4_; clear n0_ n1_ n2_ n3_ n4_; (try clear hb); (try clear hb2); (try clear hk); (try clear hi); (try clear ho0); have hcz37_0 : w36.cell? ⟨gb169, 0, none⟩ = some (.slice A0_0 l0_0.length c0_0) := (blk_cell BK169.out 0).trans rfl; have hcz37_1 : w36.cell? ⟨gb169, 1, none⟩ = some (.slice A0_1 l0_1.length c0_1) := (blk_cell BK169.out 1).trans rfl; have hfz37_0 := blk_frozen BK169.out 0; have hfz37_1 := blk_frozen BK169.out 1) | ((with_reducible refine gate_callee (f := 9) rfl ?_); refine goesL_ (some 47) rfl rfl Try.func9 (by kernel_rfl) rfl #[.agg #[.slice A0_0 l0_0.length c0_0, .slice A0_1 l0_1.length c0_1], .int .i64 a1, .slice A2 l2.length c2] rfl (by (try simp only [List.map_toArray, List.map_cons, List.map_nil]); first | done | rfl | (simp only [List.length_drop, List.length_take]; rfl)) ?_; (with_reducible refine (plan_Group.calls kj6 _ _ l0_0 _ _ l0_1 a1 _ _ l2 t182 _ ?side1 ?side2 ?side3 ?side4 ?side5 ?side6 A23.out).mono ?_); (case side1 => repeat (first | exact (Kd.C_below HR0_0.out HB.out) | (with_reducible refine Kd.C_alloc ?_ _) | (with_reducible refine Kd.C_drewN ?_ _) | (with_reducible refine Kd.C_drew ?_))); (case side2 => exact HC0_0.out); (case side3 => repeat (first | exact (Kd.C_below HR0_1.out HB.out) | (with_reducible refine Kd.C_alloc ?_ _) | (with_reducible refine Kd.C_drewN ?_ _) | (with_reducible refine Kd.C_drew ?_))); (case side4 => exact HC0_1.out); (case side5 => repeat (first | exact (Kd.C_below HR2.out HB.out) | (with_reducible refine Kd.C_alloc ?_ _) | (with_reducible refine Kd.C_drewN ?_ _) | (with_reducible refine Kd.C_drew ?_))); (case side6 => exact HC2.out); rintro e w38 ⟨rfl, hb⟩; refine ⟨_, rfl, ?_⟩; have n0_ := Aside0.mk (Kd.R_below (by (with_reducible repeat (first | apply Kd.R_alloc | apply Kd.R_drewN | apply Kd.R_drew)); exact HO180.out) hb); have n1_ := Aside0.mk (blk_below (g := gb169) (o := .cells #[.slice A0_0 l0_0.length c0_0, .slice A0_1 l0_1.length c0_1] 25 (0, 0)) (by (with_reducible repeat (first | refine blk_drewN ?_ _ | refine blk_drew ?_ | refine blk_alloc ?_ _)); exact BK169.out) hb); have n2_ := Aside0.mk (blk_below (g := gb170) (o := .cells #[.string a3_0, .string a3_1, .bool a3_2] 28 (0, 0)) (by (with_reducible repeat (first | refine blk_drewN ?_ _ | refine blk_drew ?_ | refine blk_alloc ?_ _)); exact BK170.out) hb); have n3_ := Aside0.mk (blk_below (g := gb177) (o := .cells #[.string t173, .string t174, .bool t175] 28 (0, 0)) (by (with_reducible repeat (first | refine blk_drewN ?_ _ | refine blk_drew ?_ | refine blk_alloc ?_ _)); exact BK177.out) hb); have n4_ := Aside0.mk (below_step (by repeat (first | (with_reducible first | exact HB.out | apply below_alloc | apply pw_below_drewN | apply below_drew1 | refine below_set ?_ GE169.out | refine below_set ?_ GE170.out | refine below_set ?_ GE177.out) | exact HB.out)) hb); clear HO180; clear BK169; clear BK170; clear BK177; clear HB; have HO180 := n0_; have BK169 := n1_; have BK170 := n2_; have BK177 := n3_; have HB := n4_; clear n0_ n1_ n2_ n3_ n4_; (try clear hb); (try clear hb2); (try clear hk); (try clear hi); have hcz39_0 : w38.cell? ⟨gb169, 0, none⟩ = some (.slice A0_0 l0_0.length c0_0) := (blk_cell BK169.out 0).trans rfl; have hcz39_1 : w38.cell? ⟨gb169, 1, none⟩ = some (.slice A0_1 l0_1.length c0_1) := (blk_cell BK169.out 1).trans rfl; have hfz39_0 := blk_frozen BK169.out 0; have hfz39_1 := blk_frozen BK169.out 1) | ((with_reducible refine gate_callee (f := 10) rfl ?_); refine goesL_ (some 51) rfl rfl Try.func10 (by kernel_rfl) rfl #[.agg #[.slice A0_0 l0_0.length c0_0, .slice A0_1 l0_1.length c0_1], .int .i64 a1, .slice A2 l2.length c2] rfl (by (try simp only [List.map_toArray, List.map_cons, List.map_nil]); first | done | rfl | (simp only [List.length_drop, List.length_take]; rfl)) ?_; (with_reducible refine (plan_Fits.calls kj6 _ _ l0_0 _ _ l0_1 a1 _ _ l2 t183 _ ?side1 ?side2 ?side3 ?side4 ?side5 ?side6 A24.out).mono ?_); (case side1 => repeat (first | exact (Kd.C_below HR0_0.out HB.out) | (with_reducible refine Kd.C_alloc ?_ _) | (with_reducible refine Kd.C_drewN ?_ _) | (with_reducible refine Kd.C_drew ?_))); (case side2 => exact HC0_0.out); (case side3 => repeat (first | exact (Kd.C_below HR0_1.out HB.out) | (with_reducible refine Kd.C_alloc ?_ _) | (with_reducible refine Kd.C_drewN ?_ _) | (with_reducible refine Kd.C_drew ?_))); (case side4 => exact HC0_1.out); (case side5 => repeat (first | exact (Kd.C_below HR2.out HB.out) | (with_reducible refine Kd.C_alloc ?_ _) | (with_reducible refine Kd.C_drewN ?_ _) | (with_reducible refine Kd.C_drew ?_))); (case side6 => exact HC2.out); rintro e w40 ⟨rfl, hb⟩; refine ⟨_, rfl, ?_⟩; have n0_ := Aside0.mk (Kd.R_below (by (with_reducible repeat (first | apply Kd.R_alloc | apply Kd.R_drewN | apply Kd.R_drew)); exact HO180.out) hb); have n1_ := Aside0.mk (blk_below (g := gb169) (o := .cells #[.slice A0_0 l0_0.length c0_0, .slice A0_1 l0_1.length c0_1] 25 (0, 0)) (by (with_reducible repeat (first | refine blk_drewN ?_ _ | refine blk_drew ?_ | refine blk_alloc ?_ _)); exact BK169.out) hb); have n2_ := Aside0.mk (blk_below (g := gb170) (o := .cells #[.string a3_0, .string a3_1, .bool a3_2] 28 (0, 0)) (by (with_reducible repeat (first | refine blk_drewN ?_ _ | refine blk_drew ?_ | refine blk_alloc ?_ _)); exact BK170.out) hb); have n3_ := Aside0.mk (blk_below (g := gb177) (o := .cells #[.string t173, .string t174, .bool t175] 28 (0, 0)) (by (with_reducible repeat (first | refine blk_drewN ?_ _ | refine blk_drew ?_ | refine blk_alloc ?_ _)); exact BK177.out) hb); have n4_ := Aside0.mk (below_step (by repeat (first | (with_reducible first | exact HB.out | apply below_alloc | apply pw_below_drewN | apply below_drew1 | refine below_set ?_ GE169.out | refine below_set ?_ GE170.out | refine below_set ?_ GE177.out) | exact HB.out)) hb); clear HO180; clear BK169; clear BK170; clear BK177; clear HB; have HO180 := n0_; have BK169 := n1_; have BK170 := n2_; have BK177 := n3_; have HB := n4_; clear n0_ n1_ n2_ n3_ n4_; (try clear hb); (try clear hb2); (try clear hk); (try clear hi); have hcz41_0 : w40.cell? ⟨gb169, 0, none⟩ = some (.slice A0_0 l0_0.length c0_0) := (blk_cell BK169.out 0).trans rfl; have hcz41_1 : w40.cell? ⟨gb169, 1, none⟩ = some (.slice A0_1 l0_1.length c0_1) := (blk_cell BK169.out 1).trans rfl; have hfz41_0 := blk_frozen BK169.out 0; have hfz41_1 := blk_frozen BK169.out 1) | ((with_reducible refine gate_callee (f := 11) rfl ?_); refine goesL_ (some 54) rfl rfl Try.func11 (by kernel_rfl) rfl #[.agg #[.slice A0_0 l0_0.length c0_0, .slice A0_1 l0_1.length c0_1], .int .i64 a1] rfl (by (try simp only [List.map_toArray, List.map_cons, List.map_nil]); first | done | rfl | (simp only [List.length_drop, List.length_take]; rfl)) ?_; (with_reducible refine (plan_Views.calls kj6 _ _ l0_0 _ _ l0_1 a1 t184 _ ?side1 ?side2 ?side3 ?side4 A25.out).mono ?_); (case side1 => repeat (first | exact (Kd.C_below HR0_0.out HB.out) | (with_reducible refine Kd.C_alloc ?_ _) | (with_reducible refine Kd.C_drewN ?_ _) | (with_reducible refine Kd.C_drew ?_))); (case side2 => exact HC0_0.out); (case side3 => repeat (first | exact (Kd.C_below HR0_1.out HB.out) | (with_reducible refine Kd.C_alloc ?_ _) | (with_reducible refine Kd.C_drewN ?_ _) | (with_reducible refine Kd.C_drew ?_))); (case side4 => exact HC0_1.out); rintro e w42 ⟨v185, rfl, ho0, hb⟩; refine ⟨_, rfl, ?_⟩; have n0_ := Aside0.mk (Kd.R_below (by (with_reducible repeat (first | apply Kd.R_alloc | apply Kd.R_drewN | apply Kd.R_drew)); exact HO180.out) hb); have n1_ := Aside0.mk (Kd.R_lower ho0 (below_size (by repeat (first | (with_reducible first | exact HB.out | apply below_alloc | apply pw_below_drewN | apply below_drew1 | refine below_set ?_ GE169.out | refine below_set ?_ GE170.out | refine below_set ?_ GE177.out) | exact HB.out)))); have n2_ := Aside0.mk (blk_below (g := gb169) (o := .cells #[.slice A0_0 l0_0.length c0_0, .slice A0_1 l0_1.length c0_1] 25 (0, 0)) (by (with_reducible repeat (first | refine blk_drewN ?_ _ | refine blk_drew ?_ | refine blk_alloc ?_ _)); exact BK169.out) hb); have n3_ := Aside0.mk (blk_below (g := gb170) (o := .cells #[.string a3_0, .string a3_1, .bool a3_2] 28 (0, 0)) (by (with_reducible repeat (first | refine blk_drewN ?_ _ | refine blk_drew ?_ | refine blk_alloc ?_ _)); exact BK170.out) hb); have n4_ := Aside0.mk (blk_below (g := gb177) (o := .cells #[.string t173, .string t174, .bool t175] 28 (0, 0)) (by (with_reducible repeat (first | refine blk_drewN ?_ _ | refine blk_drew ?_ | refine blk_alloc ?_ _)); exact BK177.out) hb); have n5_ := Aside0.mk (below_step (by repeat (first | (with_reducible first | exact HB.out | apply below_alloc | apply pw_below_drewN | apply below_drew1 | refine below_set ?_ GE169.out | refine below_set ?_ GE170.out | refine below_set ?_ GE177.out) | exact HB.out)) hb); clear HO180; clear BK169; clear BK170; clear BK177; clear HB; have HO180 := n0_; have HO186 := n1_; have BK169 := n2_; have BK170 := n3_; have BK177 := n4_; have HB := n5_; clear n0_ n1_ n2_ n3_ n4_ n5_; (try clear hb); (try clear hb2); (try clear hk); (try clear hi); (try clear ho0)))
          (try simp only [Act.put, List.setIfInBounds_toArray, List.set_cons_zero, List.set_cons_succ])
          go_cut [79] (fun v79 wc => ∃ (kq : Nat) (x79_25 : Bool), v79 = .bool x79_25 ∧ Aside0 (gaugerlaw17_PlanRaw.j1 kq a1 t182 x79_25 l0_0 l0_1 = some r) ∧ Aside0 (kq ≤ kj6) ∧ Aside0 (wc.heap[gb169]? = some (.cells #[(.slice A0_0 l0_0.length c0_0), (.slice A0_1 l0_1.length c0_1)] 25 (0, 0))) ∧ Aside0 (wc.heap[gb170]? = some (.cells #[.string a3_0, .string a3_1, .bool a3_2] 28 (0, 0))) ∧ Aside0 (wc.heap[gb177]? = some (.cells #[.string t173, .string t174, .bool t175] 28 (0, 0))) ∧ Aside0 (Below w.heap.size w wc))
          case first =>
            have H := HC26.out
            clear HC26
            by_cases c43 : a1 < 0
            · rw [if_pos c43] at H
              have c43b0 : decide (a1 < 0) = true := decide_eq_true c43
              clear c43
              (first | rw [c43b0] | (simp only [i64_w, i32_w]; rw [c43b0]) | skip)
              by_cases c44 : t176 = 1
              · rw [if_pos c44] at H
                have c44b0 : (t176 == 1) = true := beq_iff_eq.mpr c44
                have c44b1 : (t176 != 1) = false := bne_eq_false_iff_eq.mpr c44
                clear c44
                by_cases c45 : t181 = 3
                · rw [if_pos c45] at H
                  have c45b0 : (t181 == 3) = true := beq_iff_eq.mpr c45
                  have c45b1 : (t181 != 3) = false := bne_eq_false_iff_eq.mpr c45
                  clear c45
                  by_cases c46 : t183 = 1
                  · rw [if_pos c46] at H
                    have c46b0 : (t183 == 1) = true := beq_iff_eq.mpr c46
                    have c46b1 : (t183 != 1) = false := bne_eq_false_iff_eq.mpr c46
                    clear c46
                    have H' := Aside0.mk H
                    clear H
                    go_wp2
                    go_meet
                    case rel => exact ⟨_, (false), (by first | rfl | (simp; done) | (simp [*]; done)), H', ⟨by have := HJ6.out; first | omega | exact Nat.le_refl _⟩, ⟨by (with_reducible repeat (first | refine blk_drewN ?_ _ | refine blk_drew ?_ | refine blk_alloc ?_ _)); exact BK169.out⟩, ⟨by (with_reducible repeat (first | refine blk_drewN ?_ _ | refine blk_drew ?_ | refine blk_alloc ?_ _)); exact BK170.out⟩, ⟨by (with_reducible repeat (first | refine blk_drewN ?_ _ | refine blk_drew ?_ | refine blk_alloc ?_ _)); exact BK177.out⟩, ⟨by repeat (first | (with_reducible first | exact HB.out | apply below_alloc | apply pw_below_drewN | apply below_drew1 | refine below_set ?_ GE169.out | refine below_set ?_ GE170.out | refine below_set ?_ GE177.out) | exact HB.out)⟩⟩
                  · rw [if_neg c46] at H
                    have c46b0 : (t183 == 1) = false := beq_eq_false_iff_ne.mpr c46
                    have c46b1 : (t183 != 1) = true := bne_iff_ne.mpr c46
                    replace H := Option.bind_eq_some_iff.mp H
                    obtain ⟨t187, A470, H⟩ := H
                    replace H : (gaugerlaw17_PlanRaw.j1 kj6 a1 t182 t187 l0_0 l0_1) = some r := H
                    have A47 := Aside0.mk A470
                    clear A470
                    have H' := Aside0.mk H
                    clear H
                    have hnb48 := NB169_170.out
                    have hnc48 := NB170_169.out
                    have hnb49 := NB169_177.out
                    have hnc49 := NB177_169.out
                    have hcz50_0 : w42.cell? ⟨gb169, 0, none⟩ = some (.slice A0_0 l0_0.length c0_0) := (blk_cell BK169.out 0).trans rfl
                    have hcz50_1 : w42.cell? ⟨gb169, 1, none⟩ = some (.slice A0_1 l0_1.length c0_1) := (blk_cell BK169.out 1).trans rfl
                    have hfz50_0 := blk_frozen BK169.out 0
                    have hfz50_1 := blk_frozen BK169.out 1
                    go_wp2_with (first | (go_at_call 12; (with_reducible refine (plan_Good.calls _ _ l0_0 _ _ l0_1 t187 _ ?side1 ?side2 ?side3 ?side4 A47.out).mono ?_); (case side1 => repeat (first | exact (Kd.C_below HR0_0.out HB.out) | (with_reducible refine Kd.C_alloc ?_ _) | (with_reducible refine Kd.C_drewN ?_ _) | (with_reducible refine Kd.C_drew ?_))); (case side2 => exact HC0_0.out); (case side3 => repeat (first | exact (Kd.C_below HR0_1.out HB.out) | (with_reducible refine Kd.C_alloc ?_ _) | (with_reducible refine Kd.C_drewN ?_ _) | (with_reducible refine Kd.C_drew ?_))); (case side4 => exact HC0_1.out); rintro e w51 ⟨rfl, hb⟩; have n0_ := Aside0.mk (Kd.R_below (by (with_reducible repeat (first | apply Kd.R_alloc | apply Kd.R_drewN | apply Kd.R_drew)); exact HO180.out) hb); have n1_ := Aside0.mk (Kd.R_below (by (with_reducible repeat (first | apply Kd.R_alloc | apply Kd.R_drewN | apply Kd.R_drew)); exact HO186.out) hb); have n2_ := Aside0.mk (blk_below (g := gb169) (o := .cells #[.slice A0_0 l0_0.length c0_0, .slice A0_1 l0_1.length c0_1] 25 (0, 0)) (by (with_reducible repeat (first | refine blk_drewN ?_ _ | refine blk_drew ?_ | refine blk_alloc ?_ _)); exact BK169.out) hb); have n3_ := Aside0.mk (blk_below (g := gb170) (o := .cells #[.string a3_0, .string a3_1, .bool a3_2] 28 (0, 0)) (by (with_reducible repeat (first | refine blk_drewN ?_ _ | refine blk_drew ?_ | refine blk_alloc ?_ _)); exact BK170.out) hb); have n4_ := Aside0.mk (blk_below (g := gb177) (o := .cells #[.string t173, .string t174, .bool t175] 28 (0, 0)) (by (with_reducible repeat (first | refine blk_drewN ?_ _ | refine blk_drew ?_ | refine blk_alloc ?_ _)); exact BK177.out) hb); have n5_ := Aside0.mk (below_step (by repeat (first | (with_reducible first | exact HB.out | apply below_alloc | apply pw_below_drewN | apply below_drew1 | refine below_set ?_ GE169.out | refine below_set ?_ GE170.out | refine below_set ?_ GE177.out) | exact HB.out)) hb); clear HO180; clear HO186; clear BK169; clear BK170; clear BK177; clear HB; have HO180 := n0_; have HO186 := n1_; have BK169 := n2_; have BK170 := n3_; have BK177 := n4_; have HB := n5_; clear n0_ n1_ n2_ n3_ n4_ n5_; (try clear hb); (try clear hb2); (try clear hk); (try clear hi)))
                    go_meet
                    case rel => exact ⟨_, (t187), (by first | rfl | (simp; done) | (simp [*]; done)), H', ⟨by have := HJ6.out; first | omega | exact Nat.le_refl _⟩, ⟨by (with_reducible repeat (first | refine blk_drewN ?_ _ | refine blk_drew ?_ | refine blk_alloc ?_ _)); exact BK169.out⟩, ⟨by (with_reducible repeat (first | refine blk_drewN ?_ _ | refine blk_drew ?_ | refine blk_alloc ?_ _)); exact BK170.out⟩, ⟨by (with_reducible repeat (first | refine blk_drewN ?_ _ | refine blk_drew ?_ | refine blk_alloc ?_ _)); exact BK177.out⟩, ⟨by repeat (first | (with_reducible first | exact HB.out | apply below_alloc | apply pw_below_drewN | apply below_drew1 | refine below_set ?_ GE169.out | refine below_set ?_ GE170.out | refine below_set ?_ GE177.out) | exact HB.out)⟩⟩
                · rw [if_neg c45] at H
                  have c45b0 : (t181 == 3) = false := beq_eq_false_iff_ne.mpr c45
                  have c45b1 : (t181 != 3) = true := bne_iff_ne.mpr c45
                  replace H := Option.bind_eq_some_iff.mp H
                  obtain ⟨t188, A520, H⟩ := H
                  replace H : (gaugerlaw17_PlanRaw.j1 kj6 a1 t182 t188 l0_0 l0_1) = some r := H
                  have A52 := Aside0.mk A520
                  clear A520
                  have H' := Aside0.mk H
                  clear H
                  have hnb53 := NB169_170.out
                  have hnc53 := NB170_169.out
                  have hnb54 := NB169_177.out
                  have hnc54 := NB177_169.out
                  have hcz55_0 : w42.cell? ⟨gb169, 0, none⟩ = some (.slice A0_0 l0_0.length c0_0) := (blk_cell BK169.out 0).trans rfl
                  have hcz55_1 : w42.cell? ⟨gb169, 1, none⟩ = some (.slice A0_1 l0_1.length c0_1) := (blk_cell BK169.out 1).trans rfl
                  have hfz55_0 := blk_frozen BK169.out 0
                  have hfz55_1 := blk_frozen BK169.out 1
                  go_wp2_with (first | (go_at_call 12; (with_reducible refine (plan_Good.calls _ _ l0_0 _ _ l0_1 t188 _ ?side1 ?side2 ?side3 ?side4 A52.out).mono ?_); (case side1 => repeat (first | exact (Kd.C_below HR0_0.out HB.out) | (with_reducible refine Kd.C_alloc ?_ _) | (with_reducible refine Kd.C_drewN ?_ _) | (with_reducible refine Kd.C_drew ?_))); (case side2 => exact HC0_0.out); (case side3 => repeat (first | exact (Kd.C_below HR0_1.out HB.out) | (with_reducible refine Kd.C_alloc ?_ _) | (with_reducible refine Kd.C_drewN ?_ _) | (with_reducible refine Kd.C_drew ?_))); (case side4 => exact HC0_1.out); rintro e w56 ⟨rfl, hb⟩; have n0_ := Aside0.mk (Kd.R_below (by (with_reducible repeat (first | apply Kd.R_alloc | apply Kd.R_drewN | apply Kd.R_drew)); exact HO180.out) hb); have n1_ := Aside0.mk (Kd.R_below (by (with_reducible repeat (first | apply Kd.R_alloc | apply Kd.R_drewN | apply Kd.R_drew)); exact HO186.out) hb); have n2_ := Aside0.mk (blk_below (g := gb169) (o := .cells #[.slice A0_0 l0_0.length c0_0, .slice A0_1 l0_1.length c0_1] 25 (0, 0)) (by (with_reducible repeat (first | refine blk_drewN ?_ _ | refine blk_drew ?_ | refine blk_alloc ?_ _)); exact BK169.out) hb); have n3_ := Aside0.mk (blk_below (g := gb170) (o := .cells #[.string a3_0, .string a3_1, .bool a3_2] 28 (0, 0)) (by (with_reducible repeat (first | refine blk_drewN ?_ _ | refine blk_drew ?_ | refine blk_alloc ?_ _)); exact BK170.out) hb); have n4_ := Aside0.mk (blk_below (g := gb177) (o := .cells #[.string t173, .string t174, .bool t175] 28 (0, 0)) (by (with_reducible repeat (first | refine blk_drewN ?_ _ | refine blk_drew ?_ | refine blk_alloc ?_ _)); exact BK177.out) hb); have n5_ := Aside0.mk (below_step (by repeat (first | (with_reducible first | exact HB.out | apply below_alloc | apply pw_below_drewN | apply below_drew1 | refine below_set ?_ GE169.out | refine below_set ?_ GE170.out | refine below_set ?_ GE177.out) | exact HB.out)) hb); clear HO180; clear HO186; clear BK169; clear BK170; clear BK177; clear HB; have HO180 := n0_; have HO186 := n1_; have BK169 := n2_; have BK170 := n3_; have BK177 := n4_; have HB := n5_; clear n0_ n1_ n2_ n3_ n4_ n5_; (try clear hb); (try clear hb2); (try clear hk); (try clear hi)))
                  go_meet
                  case rel => exact ⟨_, (t188), (by first | rfl | (simp; done) | (simp [*]; done)), H', ⟨by have := HJ6.out; first | omega | exact Nat.le_refl _⟩, ⟨by (with_reducible repeat (first | refine blk_drewN ?_ _ | refine blk_drew ?_ | refine blk_alloc ?_ _)); exact BK169.out⟩, ⟨by (with_reducible repeat (first | refine blk_drewN ?_ _ | refine blk_drew ?_ | refine blk_alloc ?_ _)); exact BK170.out⟩, ⟨by (with_reducible repeat (first | refine blk_drewN ?_ _ | refine blk_drew ?_ | refine blk_alloc ?_ _)); exact BK177.out⟩, ⟨by repeat (first | (with_reducible first | exact HB.out | apply below_alloc | apply pw_below_drewN | apply below_drew1 | refine below_set ?_ GE169.out | refine below_set ?_ GE170.out | refine below_set ?_ GE177.out) | exact HB.out)⟩⟩
              · rw [if_neg c44] at H
                have c44b0 : (t176 == 1) = false := beq_eq_false_iff_ne.mpr c44
                have c44b1 : (t176 != 1) = true := bne_iff_ne.mpr c44
                replace H := Option.bind_eq_some_iff.mp H
                obtain ⟨t189, A570, H⟩ := H
                replace H : (gaugerlaw17_PlanRaw.j1 kj6 a1 t182 t189 l0_0 l0_1) = some r := H
                have A57 := Aside0.mk A570
                clear A570
                have H' := Aside0.mk H
                clear H
                have hnb58 := NB169_170.out
                have hnc58 := NB170_169.out
                have hnb59 := NB169_177.out
                have hnc59 := NB177_169.out
                have hcz60_0 : w42.cell? ⟨gb169, 0, none⟩ = some (.slice A0_0 l0_0.length c0_0) := (blk_cell BK169.out 0).trans rfl
                have hcz60_1 : w42.cell? ⟨gb169, 1, none⟩ = some (.slice A0_1 l0_1.length c0_1) := (blk_cell BK169.out 1).trans rfl
                have hfz60_0 := blk_frozen BK169.out 0
                have hfz60_1 := blk_frozen BK169.out 1
                go_wp2_with (first | (go_at_call 12; (with_reducible refine (plan_Good.calls _ _ l0_0 _ _ l0_1 t189 _ ?side1 ?side2 ?side3 ?side4 A57.out).mono ?_); (case side1 => repeat (first | exact (Kd.C_below HR0_0.out HB.out) | (with_reducible refine Kd.C_alloc ?_ _) | (with_reducible refine Kd.C_drewN ?_ _) | (with_reducible refine Kd.C_drew ?_))); (case side2 => exact HC0_0.out); (case side3 => repeat (first | exact (Kd.C_below HR0_1.out HB.out) | (with_reducible refine Kd.C_alloc ?_ _) | (with_reducible refine Kd.C_drewN ?_ _) | (with_reducible refine Kd.C_drew ?_))); (case side4 => exact HC0_1.out); rintro e w61 ⟨rfl, hb⟩; have n0_ := Aside0.mk (Kd.R_below (by (with_reducible repeat (first | apply Kd.R_alloc | apply Kd.R_drewN | apply Kd.R_drew)); exact HO180.out) hb); have n1_ := Aside0.mk (Kd.R_below (by (with_reducible repeat (first | apply Kd.R_alloc | apply Kd.R_drewN | apply Kd.R_drew)); exact HO186.out) hb); have n2_ := Aside0.mk (blk_below (g := gb169) (o := .cells #[.slice A0_0 l0_0.length c0_0, .slice A0_1 l0_1.length c0_1] 25 (0, 0)) (by (with_reducible repeat (first | refine blk_drewN ?_ _ | refine blk_drew ?_ | refine blk_alloc ?_ _)); exact BK169.out) hb); have n3_ := Aside0.mk (blk_below (g := gb170) (o := .cells #[.string a3_0, .string a3_1, .bool a3_2] 28 (0, 0)) (by (with_reducible repeat (first | refine blk_drewN ?_ _ | refine blk_drew ?_ | refine blk_alloc ?_ _)); exact BK170.out) hb); have n4_ := Aside0.mk (blk_below (g := gb177) (o := .cells #[.string t173, .string t174, .bool t175] 28 (0, 0)) (by (with_reducible repeat (first | refine blk_drewN ?_ _ | refine blk_drew ?_ | refine blk_alloc ?_ _)); exact BK177.out) hb); have n5_ := Aside0.mk (below_step (by repeat (first | (with_reducible first | exact HB.out | apply below_alloc | apply pw_below_drewN | apply below_drew1 | refine below_set ?_ GE169.out | refine below_set ?_ GE170.out | refine below_set ?_ GE177.out) | exact HB.out)) hb); clear HO180; clear HO186; clear BK169; clear BK170; clear BK177; clear HB; have HO180 := n0_; have HO186 := n1_; have BK169 := n2_; have BK170 := n3_; have BK177 := n4_; have HB := n5_; clear n0_ n1_ n2_ n3_ n4_ n5_; (try clear hb); (try clear hb2); (try clear hk); (try clear hi)))
                go_meet
                case rel => exact ⟨_, (t189), (by first | rfl | (simp; done) | (simp [*]; done)), H', ⟨by have := HJ6.out; first | omega | exact Nat.le_refl _⟩, ⟨by (with_reducible repeat (first | refine blk_drewN ?_ _ | refine blk_drew ?_ | refine blk_alloc ?_ _)); exact BK169.out⟩, ⟨by (with_reducible repeat (first | refine blk_drewN ?_ _ | refine blk_drew ?_ | refine blk_alloc ?_ _)); exact BK170.out⟩, ⟨by (with_reducible repeat (first | refine blk_drewN ?_ _ | refine blk_drew ?_ | refine blk_alloc ?_ _)); exact BK177.out⟩, ⟨by repeat (first | (with_reducible first | exact HB.out | apply below_alloc | apply pw_below_drewN | apply below_drew1 | refine below_set ?_ GE169.out | refine below_set ?_ GE170.out | refine below_set ?_ GE177.out) | exact HB.out)⟩⟩
            · rw [if_neg c43] at H
              have c43b0 : decide (a1 < 0) = false := decide_eq_false c43
              clear c43
              (first | rw [c43b0] | (simp only [i64_w, i32_w]; rw [c43b0]) | skip)
              by_cases c62 : a1 ≥ (l0_0.length : Int)
              · rw [if_pos c62] at H
                have c62b0 : decide ((l0_0.length : Int) ≤ a1) = true := decide_eq_true c62
                clear c62
                by_cases c63 : t176 = 1
                · rw [if_pos c63] at H
                  have c63b0 : (t176 == 1) = true := beq_iff_eq.mpr c63
                  have c63b1 : (t176 != 1) = false := bne_eq_false_iff_eq.mpr c63
                  clear c63
                  by_cases c64 : t181 = 3
                  · rw [if_pos c64] at H
                    have c64b0 : (t181 == 3) = true := beq_iff_eq.mpr c64
                    have c64b1 : (t181 != 3) = false := bne_eq_false_iff_eq.mpr c64
                    clear c64
                    by_cases c65 : t183 = 1
                    · rw [if_pos c65] at H
                      have c65b0 : (t183 == 1) = true := beq_iff_eq.mpr c65
                      have c65b1 : (t183 != 1) = false := bne_eq_false_iff_eq.mpr c65
                      clear c65
                      have H' := Aside0.mk H
                      clear H
                      have hnb66 := NB169_170.out
                      have hnc66 := NB170_169.out
                      have hnb67 := NB169_177.out
                      have hnc67 := NB177_169.out
                      have hcz68_0 : w42.cell? ⟨gb169, 0, none⟩ = some (.slice A0_0 l0_0.length c0_0) := (blk_cell BK169.out 0).trans rfl
                      have hcz68_1 : w42.cell? ⟨gb169, 1, none⟩ = some (.slice A0_1 l0_1.length c0_1) := (blk_cell BK169.out 1).trans rfl
                      have hfz68_0 := blk_frozen BK169.out 0
                      have hfz68_1 := blk_frozen BK169.out 1
                      go_wp2
                      go_meet
                      case rel => exact ⟨_, (false), (by first | rfl | (simp; done) | (simp [*]; done)), H', ⟨by have := HJ6.out; first | omega | exact Nat.le_refl _⟩, ⟨by (with_reducible repeat (first | refine blk_drewN ?_ _ | refine blk_drew ?_ | refine blk_alloc ?_ _)); exact BK169.out⟩, ⟨by (with_reducible repeat (first | refine blk_drewN ?_ _ | refine blk_drew ?_ | refine blk_alloc ?_ _)); exact BK170.out⟩, ⟨by (with_reducible repeat (first | refine blk_drewN ?_ _ | refine blk_drew ?_ | refine blk_alloc ?_ _)); exact BK177.out⟩, ⟨by repeat (first | (with_reducible first | exact HB.out | apply below_alloc | apply pw_below_drewN | apply below_drew1 | refine below_set ?_ GE169.out | refine below_set ?_ GE170.out | refine below_set ?_ GE177.out) | exact HB.out)⟩⟩
                    · rw [if_neg c65] at H
                      have c65b0 : (t183 == 1) = false := beq_eq_false_iff_ne.mpr c65
                      have c65b1 : (t183 != 1) = true := bne_iff_ne.mpr c65
                      replace H := Option.bind_eq_some_iff.mp H
                      obtain ⟨t190, A690, H⟩ := H
                      replace H : (gaugerlaw17_PlanRaw.j1 kj6 a1 t182 t190 l0_0 l0_1) = some r := H
                      have A69 := Aside0.mk A690
                      clear A690
                      have H' := Aside0.mk H
                      clear H
                      have hnb70 := NB169_170.out
                      have hnc70 := NB170_169.out
                      have hnb71 := NB169_177.out
                      have hnc71 := NB177_169.out
                      have hcz72_0 : w42.cell? ⟨gb169, 0, none⟩ = some (.slice A0_0 l0_0.length c0_0) := (blk_cell BK169.out 0).trans rfl
                      have hcz72_1 : w42.cell? ⟨gb169, 1, none⟩ = some (.slice A0_1 l0_1.length c0_1) := (blk_cell BK169.out 1).trans rfl
                      have hfz72_0 := blk_frozen BK169.out 0
                      have hfz72_1 := blk_frozen BK169.out 1
                      go_wp2_with (first | (go_at_call 12; (with_reducible refine (plan_Good.calls _ _ l0_0 _ _ l0_1 t190 _ ?side1 ?side2 ?side3 ?side4 A69.out).mono ?_); (case side1 => repeat (first | exact (Kd.C_below HR0_0.out HB.out) | (with_reducible refine Kd.C_alloc ?_ _) | (with_reducible refine Kd.C_drewN ?_ _) | (with_reducible refine Kd.C_drew ?_))); (case side2 => exact HC0_0.out); (case side3 => repeat (first | exact (Kd.C_below HR0_1.out HB.out) | (with_reducible refine Kd.C_alloc ?_ _) | (with_reducible refine Kd.C_drewN ?_ _) | (with_reducible refine Kd.C_drew ?_))); (case side4 => exact HC0_1.out); rintro e w73 ⟨rfl, hb⟩; have n0_ := Aside0.mk (Kd.R_below (by (with_reducible repeat (first | apply Kd.R_alloc | apply Kd.R_drewN | apply Kd.R_drew)); exact HO180.out) hb); have n1_ := Aside0.mk (Kd.R_below (by (with_reducible repeat (first | apply Kd.R_alloc | apply Kd.R_drewN | apply Kd.R_drew)); exact HO186.out) hb); have n2_ := Aside0.mk (blk_below (g := gb169) (o := .cells #[.slice A0_0 l0_0.length c0_0, .slice A0_1 l0_1.length c0_1] 25 (0, 0)) (by (with_reducible repeat (first | refine blk_drewN ?_ _ | refine blk_drew ?_ | refine blk_alloc ?_ _)); exact BK169.out) hb); have n3_ := Aside0.mk (blk_below (g := gb170) (o := .cells #[.string a3_0, .string a3_1, .bool a3_2] 28 (0, 0)) (by (with_reducible repeat (first | refine blk_drewN ?_ _ | refine blk_drew ?_ | refine blk_alloc ?_ _)); exact BK170.out) hb); have n4_ := Aside0.mk (blk_below (g := gb177) (o := .cells #[.string t173, .string t174, .bool t175] 28 (0, 0)) (by (with_reducible repeat (first | refine blk_drewN ?_ _ | refine blk_drew ?_ | refine blk_alloc ?_ _)); exact BK177.out) hb); have n5_ := Aside0.mk (below_step (by repeat (first | (with_reducible first | exact HB.out | apply below_alloc | apply pw_below_drewN | apply below_drew1 | refine below_set ?_ GE169.out | refine below_set ?_ GE170.out | refine below_set ?_ GE177.out) | exact HB.out)) hb); clear HO180; clear HO186; clear BK169; clear BK170; clear BK177; clear HB; have HO180 := n0_; have HO186 := n1_; have BK169 := n2_; have BK170 := n3_; have BK177 := n4_; have HB := n5_; clear n0_ n1_ n2_ n3_ n4_ n5_; (try clear hb); (try clear hb2); (try clear hk); (try clear hi)))
                      go_meet
                      case rel => exact ⟨_, (t190), (by first | rfl | (simp; done) | (simp [*]; done)), H', ⟨by have := HJ6.out; first | omega | exact Nat.le_refl _⟩, ⟨by (with_reducible repeat (first | refine blk_drewN ?_ _ | refine blk_drew ?_ | refine blk_alloc ?_ _)); exact BK169.out⟩, ⟨by (with_reducible repeat (first | refine blk_drewN ?_ _ | refine blk_drew ?_ | refine blk_alloc ?_ _)); exact BK170.out⟩, ⟨by (with_reducible repeat (first | refine blk_drewN ?_ _ | refine blk_drew ?_ | refine blk_alloc ?_ _)); exact BK177.out⟩, ⟨by repeat (first | (with_reducible first | exact HB.out | apply below_alloc | apply pw_below_drewN | apply below_drew1 | refine below_set ?_ GE169.out | refine below_set ?_ GE170.out | refine below_set ?_ GE177.out) | exact HB.out)⟩⟩
                  · rw [if_neg c64] at H
                    have c64b0 : (t181 == 3) = false := beq_eq_false_iff_ne.mpr c64
                    have c64b1 : (t181 != 3) = true := bne_iff_ne.mpr c64
                    replace H := Option.bind_eq_some_iff.mp H
                    obtain ⟨t191, A740, H⟩ := H
                    replace H : (gaugerlaw17_PlanRaw.j1 kj6 a1 t182 t191 l0_0 l0_1) = some r := H
                    have A74 := Aside0.mk A740
                    clear A740
                    have H' := Aside0.mk H
                    clear H
                    have hnb75 := NB169_170.out
                    have hnc75 := NB170_169.out
                    have hnb76 := NB169_177.out
                    have hnc76 := NB177_169.out
                    have hcz77_0 : w42.cell? ⟨gb169, 0, none⟩ = some (.slice A0_0 l0_0.length c0_0) := (blk_cell BK169.out 0).trans rfl
                    have hcz77_1 : w42.cell? ⟨gb169, 1, none⟩ = some (.slice A0_1 l0_1.length c0_1) := (blk_cell BK169.out 1).trans rfl
                    have hfz77_0 := blk_frozen BK169.out 0
                    have hfz77_1 := blk_frozen BK169.out 1
                    go_wp2_with (first | (go_at_call 12; (with_reducible refine (plan_Good.calls _ _ l0_0 _ _ l0_1 t191 _ ?side1 ?side2 ?side3 ?side4 A74.out).mono ?_); (case side1 => repeat (first | exact (Kd.C_below HR0_0.out HB.out) | (with_reducible refine Kd.C_alloc ?_ _) | (with_reducible refine Kd.C_drewN ?_ _) | (with_reducible refine Kd.C_drew ?_))); (case side2 => exact HC0_0.out); (case side3 => repeat (first | exact (Kd.C_below HR0_1.out HB.out) | (with_reducible refine Kd.C_alloc ?_ _) | (with_reducible refine Kd.C_drewN ?_ _) | (with_reducible refine Kd.C_drew ?_))); (case side4 => exact HC0_1.out); rintro e w78 ⟨rfl, hb⟩; have n0_ := Aside0.mk (Kd.R_below (by (with_reducible repeat (first | apply Kd.R_alloc | apply Kd.R_drewN | apply Kd.R_drew)); exact HO180.out) hb); have n1_ := Aside0.mk (Kd.R_below (by (with_reducible repeat (first | apply Kd.R_alloc | apply Kd.R_drewN | apply Kd.R_drew)); exact HO186.out) hb); have n2_ := Aside0.mk (blk_below (g := gb169) (o := .cells #[.slice A0_0 l0_0.length c0_0, .slice A0_1 l0_1.length c0_1] 25 (0, 0)) (by (with_reducible repeat (first | refine blk_drewN ?_ _ | refine blk_drew ?_ | refine blk_alloc ?_ _)); exact BK169.out) hb); have n3_ := Aside0.mk (blk_below (g := gb170) (o := .cells #[.string a3_0, .string a3_1, .bool a3_2] 28 (0, 0)) (by (with_reducible repeat (first | refine blk_drewN ?_ _ | refine blk_drew ?_ | refine blk_alloc ?_ _)); exact BK170.out) hb); have n4_ := Aside0.mk (blk_below (g := gb177) (o := .cells #[.string t173, .string t174, .bool t175] 28 (0, 0)) (by (with_reducible repeat (first | refine blk_drewN ?_ _ | refine blk_drew ?_ | refine blk_alloc ?_ _)); exact BK177.out) hb); have n5_ := Aside0.mk (below_step (by repeat (first | (with_reducible first | exact HB.out | apply below_alloc | apply pw_below_drewN | apply below_drew1 | refine below_set ?_ GE169.out | refine below_set ?_ GE170.out | refine below_set ?_ GE177.out) | exact HB.out)) hb); clear HO180; clear HO186; clear BK169; clear BK170; clear BK177; clear HB; have HO180 := n0_; have HO186 := n1_; have BK169 := n2_; have BK170 := n3_; have BK177 := n4_; have HB := n5_; clear n0_ n1_ n2_ n3_ n4_ n5_; (try clear hb); (try clear hb2); (try clear hk); (try clear hi)))
                    go_meet
                    case rel => exact ⟨_, (t191), (by first | rfl | (simp; done) | (simp [*]; done)), H', ⟨by have := HJ6.out; first | omega | exact Nat.le_refl _⟩, ⟨by (with_reducible repeat (first | refine blk_drewN ?_ _ | refine blk_drew ?_ | refine blk_alloc ?_ _)); exact BK169.out⟩, ⟨by (with_reducible repeat (first | refine blk_drewN ?_ _ | refine blk_drew ?_ | refine blk_alloc ?_ _)); exact BK170.out⟩, ⟨by (with_reducible repeat (first | refine blk_drewN ?_ _ | refine blk_drew ?_ | refine blk_alloc ?_ _)); exact BK177.out⟩, ⟨by repeat (first | (with_reducible first | exact HB.out | apply below_alloc | apply pw_below_drewN | apply below_drew1 | refine below_set ?_ GE169.out | refine below_set ?_ GE170.out | refine below_set ?_ GE177.out) | exact HB.out)⟩⟩
                · rw [if_neg c63] at H
                  have c63b0 : (t176 == 1) = false := beq_eq_false_iff_ne.mpr c63
                  have c63b1 : (t176 != 1) = true := bne_iff_ne.mpr c63
                  replace H := Option.bind_eq_some_iff.mp H
                  obtain ⟨t192, A790, H⟩ := H
                  replace H : (gaugerlaw17_PlanRaw.j1 kj6 a1 t182 t192 l0_0 l0_1) = some r := H
                  have A79 := Aside0.mk A790
                  clear A790
                  have H' := Aside0.mk H
                  clear H
                  have hnb80 := NB169_170.out
                  have hnc80 := NB170_169.out
                  have hnb81 := NB169_177.out
                  have hnc81 := NB177_169.out
                  have hcz82_0 : w42.cell? ⟨gb169, 0, none⟩ = some (.slice A0_0 l0_0.length c0_0) := (blk_cell BK169.out 0).trans rfl
                  have hcz82_1 : w42.cell? ⟨gb169, 1, none⟩ = some (.slice A0_1 l0_1.length c0_1) := (blk_cell BK169.out 1).trans rfl
                  have hfz82_0 := blk_frozen BK169.out 0
                  have hfz82_1 := blk_frozen BK169.out 1
                  go_wp2_with (first | (go_at_call 12; (with_reducible refine (plan_Good.calls _ _ l0_0 _ _ l0_1 t192 _ ?side1 ?side2 ?side3 ?side4 A79.out).mono ?_); (case side1 => repeat (first | exact (Kd.C_below HR0_0.out HB.out) | (with_reducible refine Kd.C_alloc ?_ _) | (with_reducible refine Kd.C_drewN ?_ _) | (with_reducible refine Kd.C_drew ?_))); (case side2 => exact HC0_0.out); (case side3 => repeat (first | exact (Kd.C_below HR0_1.out HB.out) | (with_reducible refine Kd.C_alloc ?_ _) | (with_reducible refine Kd.C_drewN ?_ _) | (with_reducible refine Kd.C_drew ?_))); (case side4 => exact HC0_1.out); rintro e w83 ⟨rfl, hb⟩; have n0_ := Aside0.mk (Kd.R_below (by (with_reducible repeat (first | apply Kd.R_alloc | apply Kd.R_drewN | apply Kd.R_drew)); exact HO180.out) hb); have n1_ := Aside0.mk (Kd.R_below (by (with_reducible repeat (first | apply Kd.R_alloc | apply Kd.R_drewN | apply Kd.R_drew)); exact HO186.out) hb); have n2_ := Aside0.mk (blk_below (g := gb169) (o := .cells #[.slice A0_0 l0_0.length c0_0, .slice A0_1 l0_1.length c0_1] 25 (0, 0)) (by (with_reducible repeat (first | refine blk_drewN ?_ _ | refine blk_drew ?_ | refine blk_alloc ?_ _)); exact BK169.out) hb); have n3_ := Aside0.mk (blk_below (g := gb170) (o := .cells #[.string a3_0, .string a3_1, .bool a3_2] 28 (0, 0)) (by (with_reducible repeat (first | refine blk_drewN ?_ _ | refine blk_drew ?_ | refine blk_alloc ?_ _)); exact BK170.out) hb); have n4_ := Aside0.mk (blk_below (g := gb177) (o := .cells #[.string t173, .string t174, .bool t175] 28 (0, 0)) (by (with_reducible repeat (first | refine blk_drewN ?_ _ | refine blk_drew ?_ | refine blk_alloc ?_ _)); exact BK177.out) hb); have n5_ := Aside0.mk (below_step (by repeat (first | (with_reducible first | exact HB.out | apply below_alloc | apply pw_below_drewN | apply below_drew1 | refine below_set ?_ GE169.out | refine below_set ?_ GE170.out | refine below_set ?_ GE177.out) | exact HB.out)) hb); clear HO180; clear HO186; clear BK169; clear BK170; clear BK177; clear HB; have HO180 := n0_; have HO186 := n1_; have BK169 := n2_; have BK170 := n3_; have BK177 := n4_; have HB := n5_; clear n0_ n1_ n2_ n3_ n4_ n5_; (try clear hb); (try clear hb2); (try clear hk); (try clear hi)))
                  go_meet
                  case rel => exact ⟨_, (t192), (by first | rfl | (simp; done) | (simp [*]; done)), H', ⟨by have := HJ6.out; first | omega | exact Nat.le_refl _⟩, ⟨by (with_reducible repeat (first | refine blk_drewN ?_ _ | refine blk_drew ?_ | refine blk_alloc ?_ _)); exact BK169.out⟩, ⟨by (with_reducible repeat (first | refine blk_drewN ?_ _ | refine blk_drew ?_ | refine blk_alloc ?_ _)); exact BK170.out⟩, ⟨by (with_reducible repeat (first | refine blk_drewN ?_ _ | refine blk_drew ?_ | refine blk_alloc ?_ _)); exact BK177.out⟩, ⟨by repeat (first | (with_reducible first | exact HB.out | apply below_alloc | apply pw_below_drewN | apply below_drew1 | refine below_set ?_ GE169.out | refine below_set ?_ GE170.out | refine below_set ?_ GE177.out) | exact HB.out)⟩⟩
              · rw [if_neg c62] at H
                have c62b0 : decide ((l0_0.length : Int) ≤ a1) = false := decide_eq_false c62
                clear c62
                have H' := Aside0.mk H
                clear H
                have hnb84 := NB169_170.out
                have hnc84 := NB170_169.out
                have hnb85 := NB169_177.out
                have hnc85 := NB177_169.out
                have hcz86_0 : w42.cell? ⟨gb169, 0, none⟩ = some (.slice A0_0 l0_0.length c0_0) := (blk_cell BK169.out 0).trans rfl
                have hcz86_1 : w42.cell? ⟨gb169, 1, none⟩ = some (.slice A0_1 l0_1.length c0_1) := (blk_cell BK169.out 1).trans rfl
                have hfz86_0 := blk_frozen BK169.out 0
                have hfz86_1 := blk_frozen BK169.out 1
                go_wp2
                go_meet
                case rel => exact ⟨_, (false), (by first | rfl | (simp; done) | (simp [*]; done)), H', ⟨by have := HJ6.out; first | omega | exact Nat.le_refl _⟩, ⟨by (with_reducible repeat (first | refine blk_drewN ?_ _ | refine blk_drew ?_ | refine blk_alloc ?_ _)); exact BK169.out⟩, ⟨by (with_reducible repeat (first | refine blk_drewN ?_ _ | refine blk_drew ?_ | refine blk_alloc ?_ _)); exact BK170.out⟩, ⟨by (with_reducible repeat (first | refine blk_drewN ?_ _ | refine blk_drew ?_ | refine blk_alloc ?_ _)); exact BK177.out⟩, ⟨by repeat (first | (with_reducible first | exact HB.out | apply below_alloc | apply pw_below_drewN | apply below_drew1 | refine below_set ?_ GE169.out | refine below_set ?_ GE170.out | refine below_set ?_ GE177.out) | exact HB.out)⟩⟩
          case rest =>
            clear HC26
            try clear c1
            try clear c2
            try clear p2
            try clear c3
            try clear c4
            try clear c5
            try clear c6
            try clear p6
            try clear c7
            try clear c8
            try clear c9
            try clear c10
            try clear c11
            try clear c12
            try clear c13
            try clear c16
            try clear c20
            try clear c27
            try clear c31
            try clear c32
            try clear c43
            try clear c43b0
            try clear c44
            try clear c44b0
            try clear c44b1
            try clear c45
            try clear c45b0
            try clear c45b1
            try clear c46
            try clear c46b0
            try clear c46b1
            try clear c48
            try clear c49
            try clear c53
            try clear c54
            try clear c58
            try clear c59
            try clear c62
            try clear c62b0
            try clear c63
            try clear c63b0
            try clear c63b1
            try clear c64
            try clear c64b0
            try clear c64b1
            try clear p64
            try clear c65
            try clear c65b0
            try clear c65b1
            try clear c66
            try clear c67
            try clear c70
            try clear c71
            try clear c75
            try clear c76
            try clear c80
            try clear c81
            try clear c84
            try clear c85
            try clear hcz14_0
            try clear hcz14_1
            try clear hcz17_0
            try clear hcz17_1
            try clear hcz19_0
            try clear hcz19_1
            try clear hcz19_2
            try clear hcz28_0
            try clear hcz28_1
            try clear hcz33_0
            try clear hcz33_1
            try clear hcz33_2
            try clear hcz34_0
            try clear hcz34_1
            try clear hcz35_0
            try clear hcz35_1
            try clear hcz35_2
            try clear hcz37_0
            try clear hcz37_1
            try clear hcz39_0
            try clear hcz39_1
            try clear hcz41_0
            try clear hcz41_1
            try clear hcz50_0
            try clear hcz50_1
            try clear hcz55_0
            try clear hcz55_1
            try clear hcz60_0
            try clear hcz60_1
            try clear hcz68_0
            try clear hcz68_1
            try clear hcz72_0
            try clear hcz72_1
            try clear hcz77_0
            try clear hcz77_1
            try clear hcz82_0
            try clear hcz82_1
            try clear hcz86_0
            try clear hcz86_1
            try clear hfz14_0
            try clear hfz14_1
            try clear hfz17_0
            try clear hfz17_1
            try clear hfz19_0
            try clear hfz19_1
            try clear hfz19_2
            try clear hfz28_0
            try clear hfz28_1
            try clear hfz33_0
            try clear hfz33_1
            try clear hfz33_2
            try clear hfz34_0
            try clear hfz34_1
            try clear hfz35_0
            try clear hfz35_1
            try clear hfz35_2
            try clear hfz37_0
            try clear hfz37_1
            try clear hfz39_0
            try clear hfz39_1
            try clear hfz41_0
            try clear hfz41_1
            try clear hfz50_0
            try clear hfz50_1
            try clear hfz55_0
            try clear hfz55_1
            try clear hfz60_0
            try clear hfz60_1
            try clear hfz68_0
            try clear hfz68_1
            try clear hfz72_0
            try clear hfz72_1
            try clear hfz77_0
            try clear hfz77_1
            try clear hfz82_0
            try clear hfz82_1
            try clear hfz86_0
            try clear hfz86_1
            try clear p2
            try clear p6
            obtain ⟨kq, x79_25, rfl, HA, HJ25, BK169, BK170, BK177, HB⟩ := hcut
            cases kq with
            | zero => exact absurd HA.out (by simp [gaugerlaw17_PlanRaw.j1])
            | succ kj25 =>
              have H := HA.out
              clear HA
              simp only [gaugerlaw17_PlanRaw.j1] at H
              by_cases c87 : x79_25 = true
              · subst c87
                have H1 : (some false) = some r := by rw [if_pos rfl] at H; exact H
                clear H
                have H := H1
                clear H1
                obtain rfl := Option.some.inj H
                go_wp2
                go_ret
                exact ⟨by first | rfl | (simp [errW_none, errW_some] <;> rfl) | (simp [*, errW_none, errW_some] <;> rfl), by repeat (first | (with_reducible first | exact HB.out | apply below_alloc | apply pw_below_drewN | apply below_drew1 | refine below_set ?_ GE169.out | refine below_set ?_ GE170.out | refine below_set ?_ GE177.out) | exact HB.out)⟩
              · replace c87 := Bool.eq_false_iff.mpr c87
                subst c87
                have H1 : (if a1 < 0 then (if t182.toList = ([] : List UInt8) then ((plan_Trees.f l0_0 l0_1).bind fun t193 => (some (t193 == (wrap64 ((l0_0.length : Int) + (l0_1.length : Int)))))) else ((plan_Good.f l0_0 l0_1).bind fun t194 => (if t194 = true then (some false) else ((plan_Trees.f l0_0 l0_1).bind fun t195 => (some (t195 == (wrap64 ((l0_0.length : Int) + (l0_1.length : Int))))))))) else (if a1 ≥ (l0_1.length : Int) then (if t182.toList = ([] : List UInt8) then ((plan_Trees.f l0_0 l0_1).bind fun t196 => (some (t196 == (wrap64 ((l0_0.length : Int) + (l0_1.length : Int)))))) else ((plan_Good.f l0_0 l0_1).bind fun t197 => (if t197 = true then (some false) else ((plan_Trees.f l0_0 l0_1).bind fun t198 => (some (t198 == (wrap64 ((l0_0.length : Int) + (l0_1.length : Int))))))))) else ((plan_Trees.f l0_0 l0_1).bind fun t199 => (some (t199 == (wrap64 ((l0_0.length : Int) + (l0_1.length : Int)))))))) = some r := by rw [if_neg (show ¬ (false = true) by decide)] at H; exact H
                clear H
                have H := H1
                clear H1
                by_cases c88 : a1 < 0
                · rw [if_pos c88] at H
                  have c88b0 : decide (a1 < 0) = true := decide_eq_true c88
                  clear c88
                  by_cases c89 : t182.toList = ([] : List UInt8)
                  · rw [if_pos c89] at H
                    have c89b0 : (t182.toList == ([] : List UInt8)) = true := beq_iff_eq.mpr c89
                    have c89b1 : (t182.toList != ([] : List UInt8)) = false := bne_eq_false_iff_eq.mpr c89
                    clear c89
                    replace H := Option.bind_eq_some_iff.mp H
                    obtain ⟨t193, A900, H⟩ := H
                    replace H : (some (t193 == (wrap64 ((l0_0.length : Int) + (l0_1.length : Int))))) = some r := H
                    have A90 := Aside0.mk A900
                    clear A900
                    obtain rfl := Option.some.inj H
                    try go_wp2
                    have n0_ := Aside0.mk (blk_drew BK169.out)
                    have n1_ := Aside0.mk (blk_drew BK170.out)
                    have n2_ := Aside0.mk (blk_drew BK177.out)
                    have n3_ := Aside0.mk (below_drew1 HB.out)
                    clear BK169
                    clear BK170
                    clear BK177
                    clear HB
                    have BK169 := n0_
                    have BK170 := n1_
                    have BK177 := n2_
                    have HB := n3_
                    clear n0_ n1_ n2_ n3_
                    refine start_ (n := 11) (S := fun w' => w'.cell? ⟨gb169, 0, none⟩ = some (.slice A0_0 l0_0.length c0_0) ∧ w'.cell? ⟨gb169, 1, none⟩ = some (.slice A0_1 l0_1.length c0_1)) (ds := []) #[false, false, false, false, false, false, false, false, false, false, false] (by kernel_rfl) rfl rfl ⟨(blk_cell BK169.out 0).trans rfl, (blk_cell BK169.out 1).trans rfl⟩ (fun hHeld => ?_); refine with_tabW gaugerlaw17_PlanRaw.tab14 gaugerlaw17_PlanRaw.bits14 (fun HT_ HW_ => ?_)
                    generalize wc.drew = w91 at BK169 BK170 BK177 HB hHeld ⊢
                    refine pure_ (i := 2) (N := some 99) (v := ?_) (a' := ?_) #[false, false, true, false, false, false, false, false, false, false, false] rfl rfl (any_of HT_.out (by kernel_rfl)) (fun _ _ _ h => h) (Or.inl ⟨by rfl, ?_⟩) ?_ ?_
                    rotate_left
                    · intro w'
                      go_simp
                      with_reducible rfl
                    rotate_left
                    · simp only [Act.put, List.setIfInBounds_toArray, List.set_cons_zero, List.set_cons_succ, i64_w, i32_w]
                      rfl
                    refine pure_ (i := 5) (N := some 102) (v := ?_) (a' := ?_) #[false, false, true, false, false, true, false, false, false, false, false] rfl rfl (any_of HT_.out (by kernel_rfl)) (fun _ _ _ h => h) (Or.inl ⟨by rfl, ?_⟩) ?_ ?_
                    rotate_left
                    · intro w'
                      go_simp
                      with_reducible rfl
                    rotate_left
                    · simp only [Act.put, List.setIfInBounds_toArray, List.set_cons_zero, List.set_cons_succ, i64_w, i32_w]
                      rfl
                    refine take_ (i := 0) (N := some 97) (v := ?_) (a' := ?_) #[true, false, true, false, false, true, false, false, false, false, false] rfl rfl (take_ofW HT_.out HW_.out (by kernel_rfl)) (fun _ _ _ h => h) (Or.inl ⟨by rfl, ?_⟩) hHeld ?_ ?_
                    rotate_left
                    · rintro w' ⟨s0, s1⟩
                      go_simp
                      with_reducible rfl
                    rotate_left
                    · simp only [Act.put, List.setIfInBounds_toArray, List.set_cons_zero, List.set_cons_succ, i64_w, i32_w]
                      rfl
                    refine take_ (i := 3) (N := some 100) (v := ?_) (a' := ?_) #[true, false, true, true, false, true, false, false, false, false, false] rfl rfl (take_ofW HT_.out HW_.out (by kernel_rfl)) (fun _ _ _ h => h) (Or.inl ⟨by rfl, ?_⟩) hHeld ?_ ?_
                    rotate_left
                    · rintro w' ⟨s0, s1⟩
                      go_simp
                      with_reducible rfl
                    rotate_left
                    · simp only [Act.put, List.setIfInBounds_toArray, List.set_cons_zero, List.set_cons_succ, i64_w, i32_w]
                      rfl
                    refine pure_ (i := 4) (N := some 101) (v := ?_) (a' := ?_) #[true, false, true, true, true, true, false, false, false, false, false] rfl rfl (any_of HT_.out (by kernel_rfl)) (fun _ _ _ h => h) (Or.inl ⟨by rfl, ?_⟩) ?_ ?_
                    rotate_left
                    · intro w'
                      go_simp
                      with_reducible rfl
                    rotate_left
                    · simp only [Act.put, List.setIfInBounds_toArray, List.set_cons_zero, List.set_cons_succ, i64_w, i32_w]
                      rfl
                    refine take_ (i := 6) (N := some 103) (v := ?_) (a' := ?_) #[true, false, true, true, true, true, true, false, false, false, false] rfl rfl (take_ofW HT_.out HW_.out (by kernel_rfl)) (fun _ _ _ h => h) (Or.inl ⟨by rfl, ?_⟩) hHeld ?_ ?_
                    rotate_left
                    · rintro w' ⟨s0, s1⟩
                      go_simp
                      with_reducible rfl
                    rotate_left
                    · simp only [Act.put, List.setIfInBounds_toArray, List.set_cons_zero, List.set_cons_succ, i64_w, i32_w]
                      rfl
                    refine pure_ (i := 7) (N := some 104) (v := ?_) (a' := ?_) #[true, false, true, true, true, true, true, true, false, false, false] rfl rfl (any_of HT_.out (by kernel_rfl)) (fun _ _ _ h => h) (Or.inl ⟨by rfl, ?_⟩) ?_ ?_
                    rotate_left
                    · intro w'
                      go_simp
                      with_reducible rfl
                    rotate_left
                    · simp only [Act.put, List.setIfInBounds_toArray, List.set_cons_zero, List.set_cons_succ, i64_w, i32_w]
                      rfl
                    refine pure_ (i := 8) (N := some 105) (v := ?_) (a' := ?_) #[true, false, true, true, true, true, true, true, true, false, false] rfl rfl (any_of HT_.out (by kernel_rfl)) (fun _ _ _ h => h) (Or.inl ⟨by rfl, ?_⟩) ?_ ?_
                    rotate_left
                    · intro w'
                      go_simp
                      with_reducible rfl
                    rotate_left
                    · simp only [Act.put, List.setIfInBounds_toArray, List.set_cons_zero, List.set_cons_succ, i64_w, i32_w]
                      rfl
                    refine one_ (i := 1) (N := some 98) #[true, true, true, true, true, true, true, true, true, false, false] rfl rfl (one_of HT_.out (by kernel_rfl)) (by decide) (fun K hK => ?_)
                    refine goes_ Try.func13 (by kernel_rfl) rfl #[.agg #[.slice A0_0 l0_0.length c0_0, .slice A0_1 l0_1.length c0_1]] (by rfl) rfl rfl (by (try simp only [List.map_toArray, List.map_cons, List.map_nil]); first | done | rfl | (simp only [List.length_drop, List.length_take]; rfl)) ?_
                    with_reducible refine (plan_Trees.calls _ _ l0_0 _ _ l0_1 t193 _ ?side1 ?side2 ?side3 ?side4 A90.out).mono ?_
                    (case side1 => repeat (first | exact (Kd.C_below HR0_0.out HB.out) | (with_reducible refine Kd.C_alloc ?_ _) | (with_reducible refine Kd.C_drewN ?_ _) | (with_reducible refine Kd.C_drew ?_)))
                    (case side2 => exact HC0_0.out)
                    (case side3 => repeat (first | exact (Kd.C_below HR0_1.out HB.out) | (with_reducible refine Kd.C_alloc ?_ _) | (with_reducible refine Kd.C_drewN ?_ _) | (with_reducible refine Kd.C_drew ?_)))
                    (case side4 => exact HC0_1.out)
                    rintro e w92 ⟨rfl, hb⟩
                    refine ⟨_, rfl, ?_⟩
                    have n0_ := Aside0.mk (blk_below (g := gb169) (o := .cells #[.slice A0_0 l0_0.length c0_0, .slice A0_1 l0_1.length c0_1] 25 (0, 0)) (by (with_reducible repeat (first | refine blk_drewN ?_ _ | refine blk_drew ?_ | refine blk_alloc ?_ _)); exact BK169.out) hb)
                    have n1_ := Aside0.mk (blk_below (g := gb170) (o := .cells #[.string a3_0, .string a3_1, .bool a3_2] 28 (0, 0)) (by (with_reducible repeat (first | refine blk_drewN ?_ _ | refine blk_drew ?_ | refine blk_alloc ?_ _)); exact BK170.out) hb)
                    have n2_ := Aside0.mk (blk_below (g := gb177) (o := .cells #[.string t173, .string t174, .bool t175] 28 (0, 0)) (by (with_reducible repeat (first | refine blk_drewN ?_ _ | refine blk_drew ?_ | refine blk_alloc ?_ _)); exact BK177.out) hb)
                    have n3_ := Aside0.mk (below_step (by repeat (first | (with_reducible first | exact HB.out | apply below_alloc | apply pw_below_drewN | apply below_drew1 | refine below_set ?_ GE169.out | refine below_set ?_ GE170.out | refine below_set ?_ GE177.out) | exact HB.out)) hb)
                    clear BK169
                    clear BK170
                    clear BK177
                    clear HB
                    have BK169 := n0_
                    have BK170 := n1_
                    have BK177 := n2_
                    have HB := n3_
                    clear n0_ n1_ n2_ n3_
                    (try clear hb)
                    (try clear hb2)
                    (try clear hk)
                    (try clear hi)
                    refine hK.out _ _ ⟨(blk_cell BK169.out 0).trans rfl, (blk_cell BK169.out 1).trans rfl⟩ (fun hHeld => ?_)
                    clear hK K
                    refine norm_ (a' := ?_) ?_ ?_
                    rotate_left
                    · show Act.put _ (some 98) _ = _
                      simp only [Act.put, List.setIfInBounds_toArray, List.set_cons_zero, List.set_cons_succ, i64_w, i32_w]
                      rfl
                    refine pure_ (i := 9) (N := some 106) (v := ?_) (a' := ?_) #[true, true, true, true, true, true, true, true, true, true, false] rfl rfl (any_of HT_.out (by kernel_rfl)) (fun _ _ _ h => h) (Or.inl ⟨by rfl, ?_⟩) ?_ ?_
                    rotate_left
                    · intro w'
                      go_simp
                      with_reducible rfl
                    rotate_left
                    · simp only [Act.put, List.setIfInBounds_toArray, List.set_cons_zero, List.set_cons_succ, i64_w, i32_w]
                      rfl
                    refine pure_ (i := 10) (N := some 8) (v := ?_) (a' := ?_) #[true, true, true, true, true, true, true, true, true, true, true] rfl rfl (any_of HT_.out (by kernel_rfl)) (fun _ _ _ h => h) (Or.inl ⟨by rfl, ?_⟩) ?_ ?_
                    rotate_left
                    · intro w'
                      go_simp
                      with_reducible rfl
                    rotate_left
                    · simp only [Act.put, List.setIfInBounds_toArray, List.set_cons_zero, List.set_cons_succ, i64_w, i32_w]
                      rfl
                    refine done_ (done_of HT_.out (by kernel_rfl)) ?_
                    try go_wp2
                    go_ret
                    exact ⟨by first | rfl | (simp [errW_none, errW_some] <;> rfl) | (simp [*, errW_none, errW_some] <;> rfl), by repeat (first | (with_reducible first | exact HB.out | apply below_alloc | apply pw_below_drewN | apply below_drew1 | refine below_set ?_ GE169.out | refine below_set ?_ GE170.out | refine below_set ?_ GE177.out) | exact HB.out)⟩
                  · rw [if_neg c89] at H
                    have c89b0 : (t182.toList == ([] : List UInt8)) = false := beq_eq_false_iff_ne.mpr c89
                    have c89b1 : (t182.toList != ([] : List UInt8)) = true := bne_iff_ne.mpr c89
                    replace H := Option.bind_eq_some_iff.mp H
                    obtain ⟨t194, A930, H⟩ := H
                    replace H : (if t194 = true then (some false) else ((plan_Trees.f l0_0 l0_1).bind fun t195 => (some (t195 == (wrap64 ((l0_0.length : Int) + (l0_1.length : Int))))))) = some r := H
                    have A93 := Aside0.mk A930
                    clear A930
                    by_cases c94 : t194 = true
                    · subst c94
                      have H1 : (some false) = some r := by rw [if_pos rfl] at H; exact H
                      clear H
                      have H := H1
                      clear H1
                      obtain rfl := Option.some.inj H
                      have hnb95 := NB169_170.out
                      have hnc95 := NB170_169.out
                      have hnb96 := NB169_177.out
                      have hnc96 := NB177_169.out
                      have hcz97_0 : wc.cell? ⟨gb169, 0, none⟩ = some (.slice A0_0 l0_0.length c0_0) := (blk_cell BK169.out 0).trans rfl
                      have hcz97_1 : wc.cell? ⟨gb169, 1, none⟩ = some (.slice A0_1 l0_1.length c0_1) := (blk_cell BK169.out 1).trans rfl
                      have hfz97_0 := blk_frozen BK169.out 0
                      have hfz97_1 := blk_frozen BK169.out 1
                      go_wp2_with (first | (go_at_call 12; (with_reducible refine (plan_Good.calls _ _ l0_0 _ _ l0_1 true _ ?side1 ?side2 ?side3 ?side4 A93.out).mono ?_); (case side1 => repeat (first | exact (Kd.C_below HR0_0.out HB.out) | (with_reducible refine Kd.C_alloc ?_ _) | (with_reducible refine Kd.C_drewN ?_ _) | (with_reducible refine Kd.C_drew ?_))); (case side2 => exact HC0_0.out); (case side3 => repeat (first | exact (Kd.C_below HR0_1.out HB.out) | (with_reducible refine Kd.C_alloc ?_ _) | (with_reducible refine Kd.C_drewN ?_ _) | (with_reducible refine Kd.C_drew ?_))); (case side4 => exact HC0_1.out); rintro e w98 ⟨rfl, hb⟩; have n0_ := Aside0.mk (blk_below (g := gb169) (o := .cells #[.slice A0_0 l0_0.length c0_0, .slice A0_1 l0_1.length c0_1] 25 (0, 0)) (by (with_reducible repeat (first | refine blk_drewN ?_ _ | refine blk_drew ?_ | refine blk_alloc ?_ _)); exact BK169.out) hb); have n1_ := Aside0.mk (blk_below (g := gb170) (o := .cells #[.string a3_0, .string a3_1, .bool a3_2] 28 (0, 0)) (by (with_reducible repeat (first | refine blk_drewN ?_ _ | refine blk_drew ?_ | refine blk_alloc ?_ _)); exact BK170.out) hb); have n2_ := Aside0.mk (blk_below (g := gb177) (o := .cells #[.string t173, .string t174, .bool t175] 28 (0, 0)) (by (with_reducible repeat (first | refine blk_drewN ?_ _ | refine blk_drew ?_ | refine blk_alloc ?_ _)); exact BK177.out) hb); have n3_ := Aside0.mk (below_step (by repeat (first | (with_reducible first | exact HB.out | apply below_alloc | apply pw_below_drewN | apply below_drew1 | refine below_set ?_ GE169.out | refine below_set ?_ GE170.out | refine below_set ?_ GE177.out) | exact HB.out)) hb); clear BK169; clear BK170; clear BK177; clear HB; have BK169 := n0_; have BK170 := n1_; have BK177 := n2_; have HB := n3_; clear n0_ n1_ n2_ n3_; (try clear hb); (try clear hb2); (try clear hk); (try clear hi)))
                      go_ret
                      exact ⟨by first | rfl | (simp [errW_none, errW_some] <;> rfl) | (simp [*, errW_none, errW_some] <;> rfl), by repeat (first | (with_reducible first | exact HB.out | apply below_alloc | apply pw_below_drewN | apply below_drew1 | refine below_set ?_ GE169.out | refine below_set ?_ GE170.out | refine below_set ?_ GE177.out) | exact HB.out)⟩
                    · replace c94 := Bool.eq_false_iff.mpr c94
                      subst c94
                      have H1 : ((plan_Trees.f l0_0 l0_1).bind fun t195 => (some (t195 == (wrap64 ((l0_0.length : Int) + (l0_1.length : Int)))))) = some r := by rw [if_neg (show ¬ (false = true) by decide)] at H; exact H
                      clear H
                      have H := H1
                      clear H1
                      replace H := Option.bind_eq_some_iff.mp H
                      obtain ⟨t195, A990, H⟩ := H
                      replace H : (some (t195 == (wrap64 ((l0_0.length : Int) + (l0_1.length : Int))))) = some r := H
                      have A99 := Aside0.mk A990
                      clear A990
                      obtain rfl := Option.some.inj H
                      have hnb100 := NB169_170.out
                      have hnc100 := NB170_169.out
                      have hnb101 := NB169_177.out
                      have hnc101 := NB177_169.out
                      have hcz102_0 : wc.cell? ⟨gb169, 0, none⟩ = some (.slice A0_0 l0_0.length c0_0) := (blk_cell BK169.out 0).trans rfl
                      have hcz102_1 : wc.cell? ⟨gb169, 1, none⟩ = some (.slice A0_1 l0_1.length c0_1) := (blk_cell BK169.out 1).trans rfl
                      have hfz102_0 := blk_frozen BK169.out 0
                      have hfz102_1 := blk_frozen BK169.out 1
                      try go_wp2_with (first | (go_at_call 12; (with_reducible refine (plan_Good.calls _ _ l0_0 _ _ l0_1 false _ ?side1 ?side2 ?side3 ?side4 A93.out).mono ?_); (case side1 => repeat (first | exact (Kd.C_below HR0_0.out HB.out) | (with_reducible refine Kd.C_alloc ?_ _) | (with_reducible refine Kd.C_drewN ?_ _) | (with_reducible refine Kd.C_drew ?_))); (case side2 => exact HC0_0.out); (case side3 => repeat (first | exact (Kd.C_below HR0_1.out HB.out) | (with_reducible refine Kd.C_alloc ?_ _) | (with_reducible refine Kd.C_drewN ?_ _) | (with_reducible refine Kd.C_drew ?_))); (case side4 => exact HC0_1.out); rintro e w103 ⟨rfl, hb⟩; have n0_ := Aside0.mk (blk_below (g := gb169) (o := .cells #[.slice A0_0 l0_0.length c0_0, .slice A0_1 l0_1.length c0_1] 25 (0, 0)) (by (with_reducible repeat (first | refine blk_drewN ?_ _ | refine blk_drew ?_ | refine blk_alloc ?_ _)); exact BK169.out) hb); have n1_ := Aside0.mk (blk_below (g := gb170) (o := .cells #[.string a3_0, .string a3_1, .bool a3_2] 28 (0, 0)) (by (with_reducible repeat (first | refine blk_drewN ?_ _ | refine blk_drew ?_ | refine blk_alloc ?_ _)); exact BK170.out) hb); have n2_ := Aside0.mk (blk_below (g := gb177) (o := .cells #[.string t173, .string t174, .bool t175] 28 (0, 0)) (by (with_reducible repeat (first | refine blk_drewN ?_ _ | refine blk_drew ?_ | refine blk_alloc ?_ _)); exact BK177.out) hb); have n3_ := Aside0.mk (below_step (by repeat (first | (with_reducible first | exact HB.out | apply below_alloc | apply pw_below_drewN | apply below_drew1 | refine below_set ?_ GE169.out | refine below_set ?_ GE170.out | refine below_set ?_ GE177.out) | exact HB.out)) hb); clear BK169; clear BK170; clear BK177; clear HB; have BK169 := n0_; have BK170 := n1_; have BK177 := n2_; have HB := n3_; clear n0_ n1_ n2_ n3_; (try clear hb); (try clear hb2); (try clear hk); (try clear hi)))
                      have n0_ := Aside0.mk (blk_drew BK169.out)
                      have n1_ := Aside0.mk (blk_drew BK170.out)
                      have n2_ := Aside0.mk (blk_drew BK177.out)
                      have n3_ := Aside0.mk (below_drew1 HB.out)
                      clear BK169
                      clear BK170
                      clear BK177
                      clear HB
                      have BK169 := n0_
                      have BK170 := n1_
                      have BK177 := n2_
                      have HB := n3_
                      clear n0_ n1_ n2_ n3_
                      refine start_ (n := 11) (S := fun w' => w'.cell? ⟨gb169, 0, none⟩ = some (.slice A0_0 l0_0.length c0_0) ∧ w'.cell? ⟨gb169, 1, none⟩ = some (.slice A0_1 l0_1.length c0_1)) (ds := []) #[false, false, false, false, false, false, false, false, false, false, false] (by kernel_rfl) rfl rfl ⟨(blk_cell BK169.out 0).trans rfl, (blk_cell BK169.out 1).trans rfl⟩ (fun hHeld => ?_); refine with_tabW gaugerlaw17_PlanRaw.tab14 gaugerlaw17_PlanRaw.bits14 (fun HT_ HW_ => ?_)
                      generalize w103.drew = w104 at BK169 BK170 BK177 HB hHeld ⊢
                      refine pure_ (i := 2) (N := some 99) (v := ?_) (a' := ?_) #[false, false, true, false, false, false, false, false, false, false, false] rfl rfl (any_of HT_.out (by kernel_rfl)) (fun _ _ _ h => h) (Or.inl ⟨by rfl, ?_⟩) ?_ ?_
                      rotate_left
                      · intro w'
                        go_simp
                        with_reducible rfl
                      rotate_left
                      · simp only [Act.put, List.setIfInBounds_toArray, List.set_cons_zero, List.set_cons_succ, i64_w, i32_w]
                        rfl
                      refine pure_ (i := 5) (N := some 102) (v := ?_) (a' := ?_) #[false, false, true, false, false, true, false, false, false, false, false] rfl rfl (any_of HT_.out (by kernel_rfl)) (fun _ _ _ h => h) (Or.inl ⟨by rfl, ?_⟩) ?_ ?_
                      rotate_left
                      · intro w'
                        go_simp
                        with_reducible rfl
                      rotate_left
                      · simp only [Act.put, List.setIfInBounds_toArray, List.set_cons_zero, List.set_cons_succ, i64_w, i32_w]
                        rfl
                      refine take_ (i := 0) (N := some 97) (v := ?_) (a' := ?_) #[true, false, true, false, false, true, false, false, false, false, false] rfl rfl (take_ofW HT_.out HW_.out (by kernel_rfl)) (fun _ _ _ h => h) (Or.inl ⟨by rfl, ?_⟩) hHeld ?_ ?_
                      rotate_left
                      · rintro w' ⟨s0, s1⟩
                        go_simp
                        with_reducible rfl
                      rotate_left
                      · simp only [Act.put, List.setIfInBounds_toArray, List.set_cons_zero, List.set_cons_succ, i64_w, i32_w]
                        rfl
                      refine take_ (i := 3) (N := some 100) (v := ?_) (a' := ?_) #[true, false, true, true, false, true, false, false, false, false, false] rfl rfl (take_ofW HT_.out HW_.out (by kernel_rfl)) (fun _ _ _ h => h) (Or.inl ⟨by rfl, ?_⟩) hHeld ?_ ?_
                      rotate_left
                      · rintro w' ⟨s0, s1⟩
                        go_simp
                        with_reducible rfl
                      rotate_left
                      · simp only [Act.put, List.setIfInBounds_toArray, List.set_cons_zero, List.set_cons_succ, i64_w, i32_w]
                        rfl
                      refine pure_ (i := 4) (N := some 101) (v := ?_) (a' := ?_) #[true, false, true, true, true, true, false, false, false, false, false] rfl rfl (any_of HT_.out (by kernel_rfl)) (fun _ _ _ h => h) (Or.inl ⟨by rfl, ?_⟩) ?_ ?_
                      rotate_left
                      · intro w'
                        go_simp
                        with_reducible rfl
                      rotate_left
                      · simp only [Act.put, List.setIfInBounds_toArray, List.set_cons_zero, List.set_cons_succ, i64_w, i32_w]
                        rfl
                      refine take_ (i := 6) (N := some 103) (v := ?_) (a' := ?_) #[true, false, true, true, true, true, true, false, false, false, false] rfl rfl (take_ofW HT_.out HW_.out (by kernel_rfl)) (fun _ _ _ h => h) (Or.inl ⟨by rfl, ?_⟩) hHeld ?_ ?_
                      rotate_left
                      · rintro w' ⟨s0, s1⟩
                        go_simp
                        with_reducible rfl
                      rotate_left
                      · simp only [Act.put, List.setIfInBounds_toArray, List.set_cons_zero, List.set_cons_succ, i64_w, i32_w]
                        rfl
                      refine pure_ (i := 7) (N := some 104) (v := ?_) (a' := ?_) #[true, false, true, true, true, true, true, true, false, false, false] rfl rfl (any_of HT_.out (by kernel_rfl)) (fun _ _ _ h => h) (Or.inl ⟨by rfl, ?_⟩) ?_ ?_
                      rotate_left
                      · intro w'
                        go_simp
                        with_reducible rfl
                      rotate_left
                      · simp only [Act.put, List.setIfInBounds_toArray, List.set_cons_zero, List.set_cons_succ, i64_w, i32_w]
                        rfl
                      refine pure_ (i := 8) (N := some 105) (v := ?_) (a' := ?_) #[true, false, true, true, true, true, true, true, true, false, false] rfl rfl (any_of HT_.out (by kernel_rfl)) (fun _ _ _ h => h) (Or.inl ⟨by rfl, ?_⟩) ?_ ?_
                      rotate_left
                      · intro w'
                        go_simp
                        with_reducible rfl
                      rotate_left
                      · simp only [Act.put, List.setIfInBounds_toArray, List.set_cons_zero, List.set_cons_succ, i64_w, i32_w]
                        rfl
                      refine one_ (i := 1) (N := some 98) #[true, true, true, true, true, true, true, true, true, false, false] rfl rfl (one_of HT_.out (by kernel_rfl)) (by decide) (fun K hK => ?_)
                      refine goes_ Try.func13 (by kernel_rfl) rfl #[.agg #[.slice A0_0 l0_0.length c0_0, .slice A0_1 l0_1.length c0_1]] (by rfl) rfl rfl (by (try simp only [List.map_toArray, List.map_cons, List.map_nil]); first | done | rfl | (simp only [List.length_drop, List.length_take]; rfl)) ?_
                      with_reducible refine (plan_Trees.calls _ _ l0_0 _ _ l0_1 t195 _ ?side1 ?side2 ?side3 ?side4 A99.out).mono ?_
                      (case side1 => repeat (first | exact (Kd.C_below HR0_0.out HB.out) | (with_reducible refine Kd.C_alloc ?_ _) | (with_reducible refine Kd.C_drewN ?_ _) | (with_reducible refine Kd.C_drew ?_)))
                      (case side2 => exact HC0_0.out)
                      (case side3 => repeat (first | exact (Kd.C_below HR0_1.out HB.out) | (with_reducible refine Kd.C_alloc ?_ _) | (with_reducible refine Kd.C_drewN ?_ _) | (with_reducible refine Kd.C_drew ?_)))
                      (case side4 => exact HC0_1.out)
                      rintro e w105 ⟨rfl, hb⟩
                      refine ⟨_, rfl, ?_⟩
                      have n0_ := Aside0.mk (blk_below (g := gb169) (o := .cells #[.slice A0_0 l0_0.length c0_0, .slice A0_1 l0_1.length c0_1] 25 (0, 0)) (by (with_reducible repeat (first | refine blk_drewN ?_ _ | refine blk_drew ?_ | refine blk_alloc ?_ _)); exact BK169.out) hb)
                      have n1_ := Aside0.mk (blk_below (g := gb170) (o := .cells #[.string a3_0, .string a3_1, .bool a3_2] 28 (0, 0)) (by (with_reducible repeat (first | refine blk_drewN ?_ _ | refine blk_drew ?_ | refine blk_alloc ?_ _)); exact BK170.out) hb)
                      have n2_ := Aside0.mk (blk_below (g := gb177) (o := .cells #[.string t173, .string t174, .bool t175] 28 (0, 0)) (by (with_reducible repeat (first | refine blk_drewN ?_ _ | refine blk_drew ?_ | refine blk_alloc ?_ _)); exact BK177.out) hb)
                      have n3_ := Aside0.mk (below_step (by repeat (first | (with_reducible first | exact HB.out | apply below_alloc | apply pw_below_drewN | apply below_drew1 | refine below_set ?_ GE169.out | refine below_set ?_ GE170.out | refine below_set ?_ GE177.out) | exact HB.out)) hb)
                      clear BK169
                      clear BK170
                      clear BK177
                      clear HB
                      have BK169 := n0_
                      have BK170 := n1_
                      have BK177 := n2_
                      have HB := n3_
                      clear n0_ n1_ n2_ n3_
                      (try clear hb)
                      (try clear hb2)
                      (try clear hk)
                      (try clear hi)
                      refine hK.out _ _ ⟨(blk_cell BK169.out 0).trans rfl, (blk_cell BK169.out 1).trans rfl⟩ (fun hHeld => ?_)
                      clear hK K
                      refine norm_ (a' := ?_) ?_ ?_
                      rotate_left
                      · show Act.put _ (some 98) _ = _
                        simp only [Act.put, List.setIfInBounds_toArray, List.set_cons_zero, List.set_cons_succ, i64_w, i32_w]
                        rfl
                      refine pure_ (i := 9) (N := some 106) (v := ?_) (a' := ?_) #[true, true, true, true, true, true, true, true, true, true, false] rfl rfl (any_of HT_.out (by kernel_rfl)) (fun _ _ _ h => h) (Or.inl ⟨by rfl, ?_⟩) ?_ ?_
                      rotate_left
                      · intro w'
                        go_simp
                        with_reducible rfl
                      rotate_left
                      · simp only [Act.put, List.setIfInBounds_toArray, List.set_cons_zero, List.set_cons_succ, i64_w, i32_w]
                        rfl
                      refine pure_ (i := 10) (N := some 8) (v := ?_) (a' := ?_) #[true, true, true, true, true, true, true, true, true, true, true] rfl rfl (any_of HT_.out (by kernel_rfl)) (fun _ _ _ h => h) (Or.inl ⟨by rfl, ?_⟩) ?_ ?_
                      rotate_left
                      · intro w'
                        go_simp
                        with_reducible rfl
                      rotate_left
                      · simp only [Act.put, List.setIfInBounds_toArray, List.set_cons_zero, List.set_cons_succ, i64_w, i32_w]
                        rfl
                      refine done_ (done_of HT_.out (by kernel_rfl)) ?_
                      try go_wp2
                      go_ret
                      exact ⟨by first | rfl | (simp [errW_none, errW_some] <;> rfl) | (simp [*, errW_none, errW_some] <;> rfl), by repeat (first | (with_reducible first | exact HB.out | apply below_alloc | apply pw_below_drewN | apply below_drew1 | refine below_set ?_ GE169.out | refine below_set ?_ GE170.out | refine below_set ?_ GE177.out) | exact HB.out)⟩
                · rw [if_neg c88] at H
                  have c88b0 : decide (a1 < 0) = false := decide_eq_false c88
                  clear c88
                  by_cases c106 : a1 ≥ (l0_1.length : Int)
                  · rw [if_pos c106] at H
                    have c106b0 : decide ((l0_1.length : Int) ≤ a1) = true := decide_eq_true c106
                    clear c106
                    by_cases c107 : t182.toList = ([] : List UInt8)
                    · rw [if_pos c107] at H
                      have c107b0 : (t182.toList == ([] : List UInt8)) = true := beq_iff_eq.mpr c107
                      have c107b1 : (t182.toList != ([] : List UInt8)) = false := bne_eq_false_iff_eq.mpr c107
                      clear c107
                      replace H := Option.bind_eq_some_iff.mp H
                      obtain ⟨t196, A1080, H⟩ := H
                      replace H : (some (t196 == (wrap64 ((l0_0.length : Int) + (l0_1.length : Int))))) = some r := H
                      have A108 := Aside0.mk A1080
                      clear A1080
                      obtain rfl := Option.some.inj H
                      have hnb109 := NB169_170.out
                      have hnc109 := NB170_169.out
                      have hnb110 := NB169_177.out
                      have hnc110 := NB177_169.out
                      have hcz111_0 : wc.cell? ⟨gb169, 0, none⟩ = some (.slice A0_0 l0_0.length c0_0) := (blk_cell BK169.out 0).trans rfl
                      have hcz111_1 : wc.cell? ⟨gb169, 1, none⟩ = some (.slice A0_1 l0_1.length c0_1) := (blk_cell BK169.out 1).trans rfl
                      have hfz111_0 := blk_frozen BK169.out 0
                      have hfz111_1 := blk_frozen BK169.out 1
                      try go_wp2
                      have n0_ := Aside0.mk (blk_drew BK169.out)
                      have n1_ := Aside0.mk (blk_drew BK170.out)
                      have n2_ := Aside0.mk (blk_drew BK177.out)
                      have n3_ := Aside0.mk (below_drew1 HB.out)
                      clear BK169
                      clear BK170
                      clear BK177
                      clear HB
                      have BK169 := n0_
                      have BK170 := n1_
                      have BK177 := n2_
                      have HB := n3_
                      clear n0_ n1_ n2_ n3_
                      refine start_ (n := 11) (S := fun w' => w'.cell? ⟨gb169, 0, none⟩ = some (.slice A0_0 l0_0.length c0_0) ∧ w'.cell? ⟨gb169, 1, none⟩ = some (.slice A0_1 l0_1.length c0_1)) (ds := []) #[false, false, false, false, false, false, false, false, false, false, false] (by kernel_rfl) rfl rfl ⟨(blk_cell BK169.out 0).trans rfl, (blk_cell BK169.out 1).trans rfl⟩ (fun hHeld => ?_); refine with_tabW gaugerlaw17_PlanRaw.tab14 gaugerlaw17_PlanRaw.bits14 (fun HT_ HW_ => ?_)
                      generalize wc.drew = w112 at BK169 BK170 BK177 HB hHeld ⊢
                      refine pure_ (i := 2) (N := some 99) (v := ?_) (a' := ?_) #[false, false, true, false, false, false, false, false, false, false, false] rfl rfl (any_of HT_.out (by kernel_rfl)) (fun _ _ _ h => h) (Or.inl ⟨by rfl, ?_⟩) ?_ ?_
                      rotate_left
                      · intro w'
                        go_simp
                        with_reducible rfl
                      rotate_left
                      · simp only [Act.put, List.setIfInBounds_toArray, List.set_cons_zero, List.set_cons_succ, i64_w, i32_w]
                        rfl
                      refine pure_ (i := 5) (N := some 102) (v := ?_) (a' := ?_) #[false, false, true, false, false, true, false, false, false, false, false] rfl rfl (any_of HT_.out (by kernel_rfl)) (fun _ _ _ h => h) (Or.inl ⟨by rfl, ?_⟩) ?_ ?_
                      rotate_left
                      · intro w'
                        go_simp
                        with_reducible rfl
                      rotate_left
                      · simp only [Act.put, List.setIfInBounds_toArray, List.set_cons_zero, List.set_cons_succ, i64_w, i32_w]
                        rfl
                      refine take_ (i := 0) (N := some 97) (v := ?_) (a' := ?_) #[true, false, true, false, false, true, false, false, false, false, false] rfl rfl (take_ofW HT_.out HW_.out (by kernel_rfl)) (fun _ _ _ h => h) (Or.inl ⟨by rfl, ?_⟩) hHeld ?_ ?_
                      rotate_left
                      · rintro w' ⟨s0, s1⟩
                        go_simp
                        with_reducible rfl
                      rotate_left
                      · simp only [Act.put, List.setIfInBounds_toArray, List.set_cons_zero, List.set_cons_succ, i64_w, i32_w]
                        rfl
                      refine take_ (i := 3) (N := some 100) (v := ?_) (a' := ?_) #[true, false, true, true, false, true, false, false, false, false, false] rfl rfl (take_ofW HT_.out HW_.out (by kernel_rfl)) (fun _ _ _ h => h) (Or.inl ⟨by rfl, ?_⟩) hHeld ?_ ?_
                      rotate_left
                      · rintro w' ⟨s0, s1⟩
                        go_simp
                        with_reducible rfl
                      rotate_left
                      · simp only [Act.put, List.setIfInBounds_toArray, List.set_cons_zero, List.set_cons_succ, i64_w, i32_w]
                        rfl
                      refine pure_ (i := 4) (N := some 101) (v := ?_) (a' := ?_) #[true, false, true, true, true, true, false, false, false, false, false] rfl rfl (any_of HT_.out (by kernel_rfl)) (fun _ _ _ h => h) (Or.inl ⟨by rfl, ?_⟩) ?_ ?_
                      rotate_left
                      · intro w'
                        go_simp
                        with_reducible rfl
                      rotate_left
                      · simp only [Act.put, List.setIfInBounds_toArray, List.set_cons_zero, List.set_cons_succ, i64_w, i32_w]
                        rfl
                      refine take_ (i := 6) (N := some 103) (v := ?_) (a' := ?_) #[true, false, true, true, true, true, true, false, false, false, false] rfl rfl (take_ofW HT_.out HW_.out (by kernel_rfl)) (fun _ _ _ h => h) (Or.inl ⟨by rfl, ?_⟩) hHeld ?_ ?_
                      rotate_left
                      · rintro w' ⟨s0, s1⟩
                        go_simp
                        with_reducible rfl
                      rotate_left
                      · simp only [Act.put, List.setIfInBounds_toArray, List.set_cons_zero, List.set_cons_succ, i64_w, i32_w]
                        rfl
                      refine pure_ (i := 7) (N := some 104) (v := ?_) (a' := ?_) #[true, false, true, true, true, true, true, true, false, false, false] rfl rfl (any_of HT_.out (by kernel_rfl)) (fun _ _ _ h => h) (Or.inl ⟨by rfl, ?_⟩) ?_ ?_
                      rotate_left
                      · intro w'
                        go_simp
                        with_reducible rfl
                      rotate_left
                      · simp only [Act.put, List.setIfInBounds_toArray, List.set_cons_zero, List.set_cons_succ, i64_w, i32_w]
                        rfl
                      refine pure_ (i := 8) (N := some 105) (v := ?_) (a' := ?_) #[true, false, true, true, true, true, true, true, true, false, false] rfl rfl (any_of HT_.out (by kernel_rfl)) (fun _ _ _ h => h) (Or.inl ⟨by rfl, ?_⟩) ?_ ?_
                      rotate_left
                      · intro w'
                        go_simp
                        with_reducible rfl
                      rotate_left
                      · simp only [Act.put, List.setIfInBounds_toArray, List.set_cons_zero, List.set_cons_succ, i64_w, i32_w]
                        rfl
                      refine one_ (i := 1) (N := some 98) #[true, true, true, true, true, true, true, true, true, false, false] rfl rfl (one_of HT_.out (by kernel_rfl)) (by decide) (fun K hK => ?_)
                      refine goes_ Try.func13 (by kernel_rfl) rfl #[.agg #[.slice A0_0 l0_0.length c0_0, .slice A0_1 l0_1.length c0_1]] (by rfl) rfl rfl (by (try simp only [List.map_toArray, List.map_cons, List.map_nil]); first | done | rfl | (simp only [List.length_drop, List.length_take]; rfl)) ?_
                      with_reducible refine (plan_Trees.calls _ _ l0_0 _ _ l0_1 t196 _ ?side1 ?side2 ?side3 ?side4 A108.out).mono ?_
                      (case side1 => repeat (first | exact (Kd.C_below HR0_0.out HB.out) | (with_reducible refine Kd.C_alloc ?_ _) | (with_reducible refine Kd.C_drewN ?_ _) | (with_reducible refine Kd.C_drew ?_)))
                      (case side2 => exact HC0_0.out)
                      (case side3 => repeat (first | exact (Kd.C_below HR0_1.out HB.out) | (with_reducible refine Kd.C_alloc ?_ _) | (with_reducible refine Kd.C_drewN ?_ _) | (with_reducible refine Kd.C_drew ?_)))
                      (case side4 => exact HC0_1.out)
                      rintro e w113 ⟨rfl, hb⟩
                      refine ⟨_, rfl, ?_⟩
                      have n0_ := Aside0.mk (blk_below (g := gb169) (o := .cells #[.slice A0_0 l0_0.length c0_0, .slice A0_1 l0_1.length c0_1] 25 (0, 0)) (by (with_reducible repeat (first | refine blk_drewN ?_ _ | refine blk_drew ?_ | refine blk_alloc ?_ _)); exact BK169.out) hb)
                      have n1_ := Aside0.mk (blk_below (g := gb170) (o := .cells #[.string a3_0, .string a3_1, .bool a3_2] 28 (0, 0)) (by (with_reducible repeat (first | refine blk_drewN ?_ _ | refine blk_drew ?_ | refine blk_alloc ?_ _)); exact BK170.out) hb)
                      have n2_ := Aside0.mk (blk_below (g := gb177) (o := .cells #[.string t173, .string t174, .bool t175] 28 (0, 0)) (by (with_reducible repeat (first | refine blk_drewN ?_ _ | refine blk_drew ?_ | refine blk_alloc ?_ _)); exact BK177.out) hb)
                      have n3_ := Aside0.mk (below_step (by repeat (first | (with_reducible first | exact HB.out | apply below_alloc | apply pw_below_drewN | apply below_drew1 | refine below_set ?_ GE169.out | refine below_set ?_ GE170.out | refine below_set ?_ GE177.out) | exact HB.out)) hb)
                      clear BK169
                      clear BK170
                      clear BK177
                      clear HB
                      have BK169 := n0_
                      have BK170 := n1_
                      have BK177 := n2_
                      have HB := n3_
                      clear n0_ n1_ n2_ n3_
                      (try clear hb)
                      (try clear hb2)
                      (try clear hk)
                      (try clear hi)
                      refine hK.out _ _ ⟨(blk_cell BK169.out 0).trans rfl, (blk_cell BK169.out 1).trans rfl⟩ (fun hHeld => ?_)
                      clear hK K
                      refine norm_ (a' := ?_) ?_ ?_
                      rotate_left
                      · show Act.put _ (some 98) _ = _
                        simp only [Act.put, List.setIfInBounds_toArray, List.set_cons_zero, List.set_cons_succ, i64_w, i32_w]
                        rfl
                      refine pure_ (i := 9) (N := some 106) (v := ?_) (a' := ?_) #[true, true, true, true, true, true, true, true, true, true, false] rfl rfl (any_of HT_.out (by kernel_rfl)) (fun _ _ _ h => h) (Or.inl ⟨by rfl, ?_⟩) ?_ ?_
                      rotate_left
                      · intro w'
                        go_simp
                        with_reducible rfl
                      rotate_left
                      · simp only [Act.put, List.setIfInBounds_toArray, List.set_cons_zero, List.set_cons_succ, i64_w, i32_w]
                        rfl
                      refine pure_ (i := 10) (N := some 8) (v := ?_) (a' := ?_) #[true, true, true, true, true, true, true, true, true, true, true] rfl rfl (any_of HT_.out (by kernel_rfl)) (fun _ _ _ h => h) (Or.inl ⟨by rfl, ?_⟩) ?_ ?_
                      rotate_left
                      · intro w'
                        go_simp
                        with_reducible rfl
                      rotate_left
                      · simp only [Act.put, List.setIfInBounds_toArray, List.set_cons_zero, List.set_cons_succ, i64_w, i32_w]
                        rfl
                      refine done_ (done_of HT_.out (by kernel_rfl)) ?_
                      try go_wp2
                      go_ret
                      exact ⟨by first | rfl | (simp [errW_none, errW_some] <;> rfl) | (simp [*, errW_none, errW_some] <;> rfl), by repeat (first | (with_reducible first | exact HB.out | apply below_alloc | apply pw_below_drewN | apply below_drew1 | refine below_set ?_ GE169.out | refine below_set ?_ GE170.out | refine below_set ?_ GE177.out) | exact HB.out)⟩
                    · rw [if_neg c107] at H
                      have c107b0 : (t182.toList == ([] : List UInt8)) = false := beq_eq_false_iff_ne.mpr c107
                      have c107b1 : (t182.toList != ([] : List UInt8)) = true := bne_iff_ne.mpr c107
                      replace H := Option.bind_eq_some_iff.mp H
                      obtain ⟨t197, A1140, H⟩ := H
                      replace H : (if t197 = true then (some false) else ((plan_Trees.f l0_0 l0_1).bind fun t198 => (some (t198 == (wrap64 ((l0_0.length : Int) + (l0_1.length : Int))))))) = some r := H
                      have A114 := Aside0.mk A1140
                      clear A1140
                      by_cases c115 : t197 = true
                      · subst c115
                        have H1 : (some false) = some r := by rw [if_pos rfl] at H; exact H
                        clear H
                        have H := H1
                        clear H1
                        obtain rfl := Option.some.inj H
                        have hnb116 := NB169_170.out
                        have hnc116 := NB170_169.out
                        have hnb117 := NB169_177.out
                        have hnc117 := NB177_169.out
                        have hcz118_0 : wc.cell? ⟨gb169, 0, none⟩ = some (.slice A0_0 l0_0.length c0_0) := (blk_cell BK169.out 0).trans rfl
                        have hcz118_1 : wc.cell? ⟨gb169, 1, none⟩ = some (.slice A0_1 l0_1.length c0_1) := (blk_cell BK169.out 1).trans rfl
                        have hfz118_0 := blk_frozen BK169.out 0
                        have hfz118_1 := blk_frozen BK169.out 1
                        go_wp2_with (first | (go_at_call 12; (with_reducible refine (plan_Good.calls _ _ l0_0 _ _ l0_1 true _ ?side1 ?side2 ?side3 ?side4 A114.out).mono ?_); (case side1 => repeat (first | exact (Kd.C_below HR0_0.out HB.out) | (with_reducible refine Kd.C_alloc ?_ _) | (with_reducible refine Kd.C_drewN ?_ _) | (with_reducible refine Kd.C_drew ?_))); (case side2 => exact HC0_0.out); (case side3 => repeat (first | exact (Kd.C_below HR0_1.out HB.out) | (with_reducible refine Kd.C_alloc ?_ _) | (with_reducible refine Kd.C_drewN ?_ _) | (with_reducible refine Kd.C_drew ?_))); (case side4 => exact HC0_1.out); rintro e w119 ⟨rfl, hb⟩; have n0_ := Aside0.mk (blk_below (g := gb169) (o := .cells #[.slice A0_0 l0_0.length c0_0, .slice A0_1 l0_1.length c0_1] 25 (0, 0)) (by (with_reducible repeat (first | refine blk_drewN ?_ _ | refine blk_drew ?_ | refine blk_alloc ?_ _)); exact BK169.out) hb); have n1_ := Aside0.mk (blk_below (g := gb170) (o := .cells #[.string a3_0, .string a3_1, .bool a3_2] 28 (0, 0)) (by (with_reducible repeat (first | refine blk_drewN ?_ _ | refine blk_drew ?_ | refine blk_alloc ?_ _)); exact BK170.out) hb); have n2_ := Aside0.mk (blk_below (g := gb177) (o := .cells #[.string t173, .string t174, .bool t175] 28 (0, 0)) (by (with_reducible repeat (first | refine blk_drewN ?_ _ | refine blk_drew ?_ | refine blk_alloc ?_ _)); exact BK177.out) hb); have n3_ := Aside0.mk (below_step (by repeat (first | (with_reducible first | exact HB.out | apply below_alloc | apply pw_below_drewN | apply below_drew1 | refine below_set ?_ GE169.out | refine below_set ?_ GE170.out | refine below_set ?_ GE177.out) | exact HB.out)) hb); clear BK169; clear BK170; clear BK177; clear HB; have BK169 := n0_; have BK170 := n1_; have BK177 := n2_; have HB := n3_; clear n0_ n1_ n2_ n3_; (try clear hb); (try clear hb2); (try clear hk); (try clear hi)))
                        go_ret
                        exact ⟨by first | rfl | (simp [errW_none, errW_some] <;> rfl) | (simp [*, errW_none, errW_some] <;> rfl), by repeat (first | (with_reducible first | exact HB.out | apply below_alloc | apply pw_below_drewN | apply below_drew1 | refine below_set ?_ GE169.out | refine below_set ?_ GE170.out | refine below_set ?_ GE177.out) | exact HB.out)⟩
                      · replace c115 := Bool.eq_false_iff.mpr c115
                        subst c115
                        have H1 : ((plan_Trees.f l0_0 l0_1).bind fun t198 => (some (t198 == (wrap64 ((l0_0.length : Int) + (l0_1.length : Int)))))) = some r := by rw [if_neg (show ¬ (false = true) by decide)] at H; exact H
                        clear H
                        have H := H1
                        clear H1
                        replace H := Option.bind_eq_some_iff.mp H
                        obtain ⟨t198, A1200, H⟩ := H
                        replace H : (some (t198 == (wrap64 ((l0_0.length : Int) + (l0_1.length : Int))))) = some r := H
                        have A120 := Aside0.mk A1200
                        clear A1200
                        obtain rfl := Option.some.inj H
                        have hnb121 := NB169_170.out
                        have hnc121 := NB170_169.out
                        have hnb122 := NB169_177.out
                        have hnc122 := NB177_169.out
                        have hcz123_0 : wc.cell? ⟨gb169, 0, none⟩ = some (.slice A0_0 l0_0.length c0_0) := (blk_cell BK169.out 0).trans rfl
                        have hcz123_1 : wc.cell? ⟨gb169, 1, none⟩ = some (.slice A0_1 l0_1.length c0_1) := (blk_cell BK169.out 1).trans rfl
                        have hfz123_0 := blk_frozen BK169.out 0
                        have hfz123_1 := blk_frozen BK169.out 1
                        try go_wp2_with (first | (go_at_call 12; (with_reducible refine (plan_Good.calls _ _ l0_0 _ _ l0_1 false _ ?side1 ?side2 ?side3 ?side4 A114.out).mono ?_); (case side1 => repeat (first | exact (Kd.C_below HR0_0.out HB.out) | (with_reducible refine Kd.C_alloc ?_ _) | (with_reducible refine Kd.C_drewN ?_ _) | (with_reducible refine Kd.C_drew ?_))); (case side2 => exact HC0_0.out); (case side3 => repeat (first | exact (Kd.C_below HR0_1.out HB.out) | (with_reducible refine Kd.C_alloc ?_ _) | (with_reducible refine Kd.C_drewN ?_ _) | (with_reducible refine Kd.C_drew ?_))); (case side4 => exact HC0_1.out); rintro e w124 ⟨rfl, hb⟩; have n0_ := Aside0.mk (blk_below (g := gb169) (o := .cells #[.slice A0_0 l0_0.length c0_0, .slice A0_1 l0_1.length c0_1] 25 (0, 0)) (by (with_reducible repeat (first | refine blk_drewN ?_ _ | refine blk_drew ?_ | refine blk_alloc ?_ _)); exact BK169.out) hb); have n1_ := Aside0.mk (blk_below (g := gb170) (o := .cells #[.string a3_0, .string a3_1, .bool a3_2] 28 (0, 0)) (by (with_reducible repeat (first | refine blk_drewN ?_ _ | refine blk_drew ?_ | refine blk_alloc ?_ _)); exact BK170.out) hb); have n2_ := Aside0.mk (blk_below (g := gb177) (o := .cells #[.string t173, .string t174, .bool t175] 28 (0, 0)) (by (with_reducible repeat (first | refine blk_drewN ?_ _ | refine blk_drew ?_ | refine blk_alloc ?_ _)); exact BK177.out) hb); have n3_ := Aside0.mk (below_step (by repeat (first | (with_reducible first | exact HB.out | apply below_alloc | apply pw_below_drewN | apply below_drew1 | refine below_set ?_ GE169.out | refine below_set ?_ GE170.out | refine below_set ?_ GE177.out) | exact HB.out)) hb); clear BK169; clear BK170; clear BK177; clear HB; have BK169 := n0_; have BK170 := n1_; have BK177 := n2_; have HB := n3_; clear n0_ n1_ n2_ n3_; (try clear hb); (try clear hb2); (try clear hk); (try clear hi)))
                        have n0_ := Aside0.mk (blk_drew BK169.out)
                        have n1_ := Aside0.mk (blk_drew BK170.out)
                        have n2_ := Aside0.mk (blk_drew BK177.out)
                        have n3_ := Aside0.mk (below_drew1 HB.out)
                        clear BK169
                        clear BK170
                        clear BK177
                        clear HB
                        have BK169 := n0_
                        have BK170 := n1_
                        have BK177 := n2_
                        have HB := n3_
                        clear n0_ n1_ n2_ n3_
                        refine start_ (n := 11) (S := fun w' => w'.cell? ⟨gb169, 0, none⟩ = some (.slice A0_0 l0_0.length c0_0) ∧ w'.cell? ⟨gb169, 1, none⟩ = some (.slice A0_1 l0_1.length c0_1)) (ds := []) #[false, false, false, false, false, false, false, false, false, false, false] (by kernel_rfl) rfl rfl ⟨(blk_cell BK169.out 0).trans rfl, (blk_cell BK169.out 1).trans rfl⟩ (fun hHeld => ?_); refine with_tabW gaugerlaw17_PlanRaw.tab14 gaugerlaw17_PlanRaw.bits14 (fun HT_ HW_ => ?_)
                        generalize w124.drew = w125 at BK169 BK170 BK177 HB hHeld ⊢
                        refine pure_ (i := 2) (N := some 99) (v := ?_) (a' := ?_) #[false, false, true, false, false, false, false, false, false, false, false] rfl rfl (any_of HT_.out (by kernel_rfl)) (fun _ _ _ h => h) (Or.inl ⟨by rfl, ?_⟩) ?_ ?_
                        rotate_left
                        · intro w'
                          go_simp
                          with_reducible rfl
                        rotate_left
                        · simp only [Act.put, List.setIfInBounds_toArray, List.set_cons_zero, List.set_cons_succ, i64_w, i32_w]
                          rfl
                        refine pure_ (i := 5) (N := some 102) (v := ?_) (a' := ?_) #[false, false, true, false, false, true, false, false, false, false, false] rfl rfl (any_of HT_.out (by kernel_rfl)) (fun _ _ _ h => h) (Or.inl ⟨by rfl, ?_⟩) ?_ ?_
                        rotate_left
                        · intro w'
                          go_simp
                          with_reducible rfl
                        rotate_left
                        · simp only [Act.put, List.setIfInBounds_toArray, List.set_cons_zero, List.set_cons_succ, i64_w, i32_w]
                          rfl
                        refine take_ (i := 0) (N := some 97) (v := ?_) (a' := ?_) #[true, false, true, false, false, true, false, false, false, false, false] rfl rfl (take_ofW HT_.out HW_.out (by kernel_rfl)) (fun _ _ _ h => h) (Or.inl ⟨by rfl, ?_⟩) hHeld ?_ ?_
                        rotate_left
                        · rintro w' ⟨s0, s1⟩
                          go_simp
                          with_reducible rfl
                        rotate_left
                        · simp only [Act.put, List.setIfInBounds_toArray, List.set_cons_zero, List.set_cons_succ, i64_w, i32_w]
                          rfl
                        refine take_ (i := 3) (N := some 100) (v := ?_) (a' := ?_) #[true, false, true, true, false, true, false, false, false, false, false] rfl rfl (take_ofW HT_.out HW_.out (by kernel_rfl)) (fun _ _ _ h => h) (Or.inl ⟨by rfl, ?_⟩) hHeld ?_ ?_
                        rotate_left
                        · rintro w' ⟨s0, s1⟩
                          go_simp
                          with_reducible rfl
                        rotate_left
                        · simp only [Act.put, List.setIfInBounds_toArray, List.set_cons_zero, List.set_cons_succ, i64_w, i32_w]
                          rfl
                        refine pure_ (i := 4) (N := some 101) (v := ?_) (a' := ?_) #[true, false, true, true, true, true, false, false, false, false, false] rfl rfl (any_of HT_.out (by kernel_rfl)) (fun _ _ _ h => h) (Or.inl ⟨by rfl, ?_⟩) ?_ ?_
                        rotate_left
                        · intro w'
                          go_simp
                          with_reducible rfl
                        rotate_left
                        · simp only [Act.put, List.setIfInBounds_toArray, List.set_cons_zero, List.set_cons_succ, i64_w, i32_w]
                          rfl
                        refine take_ (i := 6) (N := some 103) (v := ?_) (a' := ?_) #[true, false, true, true, true, true, true, false, false, false, false] rfl rfl (take_ofW HT_.out HW_.out (by kernel_rfl)) (fun _ _ _ h => h) (Or.inl ⟨by rfl, ?_⟩) hHeld ?_ ?_
                        rotate_left
                        · rintro w' ⟨s0, s1⟩
                          go_simp
                          with_reducible rfl
                        rotate_left
                        · simp only [Act.put, List.setIfInBounds_toArray, List.set_cons_zero, List.set_cons_succ, i64_w, i32_w]
                          rfl
                        refine pure_ (i := 7) (N := some 104) (v := ?_) (a' := ?_) #[true, false, true, true, true, true, true, true, false, false, false] rfl rfl (any_of HT_.out (by kernel_rfl)) (fun _ _ _ h => h) (Or.inl ⟨by rfl, ?_⟩) ?_ ?_
                        rotate_left
                        · intro w'
                          go_simp
                          with_reducible rfl
                        rotate_left
                        · simp only [Act.put, List.setIfInBounds_toArray, List.set_cons_zero, List.set_cons_succ, i64_w, i32_w]
                          rfl
                        refine pure_ (i := 8) (N := some 105) (v := ?_) (a' := ?_) #[true, false, true, true, true, true, true, true, true, false, false] rfl rfl (any_of HT_.out (by kernel_rfl)) (fun _ _ _ h => h) (Or.inl ⟨by rfl, ?_⟩) ?_ ?_
                        rotate_left
                        · intro w'
                          go_simp
                          with_reducible rfl
                        rotate_left
                        · simp only [Act.put, List.setIfInBounds_toArray, List.set_cons_zero, List.set_cons_succ, i64_w, i32_w]
                          rfl
                        refine one_ (i := 1) (N := some 98) #[true, true, true, true, true, true, true, true, true, false, false] rfl rfl (one_of HT_.out (by kernel_rfl)) (by decide) (fun K hK => ?_)
                        refine goes_ Try.func13 (by kernel_rfl) rfl #[.agg #[.slice A0_0 l0_0.length c0_0, .slice A0_1 l0_1.length c0_1]] (by rfl) rfl rfl (by (try simp only [List.map_toArray, List.map_cons, List.map_nil]); first | done | rfl | (simp only [List.length_drop, List.length_take]; rfl)) ?_
                        with_reducible refine (plan_Trees.calls _ _ l0_0 _ _ l0_1 t198 _ ?side1 ?side2 ?side3 ?side4 A120.out).mono ?_
                        (case side1 => repeat (first | exact (Kd.C_below HR0_0.out HB.out) | (with_reducible refine Kd.C_alloc ?_ _) | (with_reducible refine Kd.C_drewN ?_ _) | (with_reducible refine Kd.C_drew ?_)))
                        (case side2 => exact HC0_0.out)
                        (case side3 => repeat (first | exact (Kd.C_below HR0_1.out HB.out) | (with_reducible refine Kd.C_alloc ?_ _) | (with_reducible refine Kd.C_drewN ?_ _) | (with_reducible refine Kd.C_drew ?_)))
                        (case side4 => exact HC0_1.out)
                        rintro e w126 ⟨rfl, hb⟩
                        refine ⟨_, rfl, ?_⟩
                        have n0_ := Aside0.mk (blk_below (g := gb169) (o := .cells #[.slice A0_0 l0_0.length c0_0, .slice A0_1 l0_1.length c0_1] 25 (0, 0)) (by (with_reducible repeat (first | refine blk_drewN ?_ _ | refine blk_drew ?_ | refine blk_alloc ?_ _)); exact BK169.out) hb)
                        have n1_ := Aside0.mk (blk_below (g := gb170) (o := .cells #[.string a3_0, .string a3_1, .bool a3_2] 28 (0, 0)) (by (with_reducible repeat (first | refine blk_drewN ?_ _ | refine blk_drew ?_ | refine blk_alloc ?_ _)); exact BK170.out) hb)
                        have n2_ := Aside0.mk (blk_below (g := gb177) (o := .cells #[.string t173, .string t174, .bool t175] 28 (0, 0)) (by (with_reducible repeat (first | refine blk_drewN ?_ _ | refine blk_drew ?_ | refine blk_alloc ?_ _)); exact BK177.out) hb)
                        have n3_ := Aside0.mk (below_step (by repeat (first | (with_reducible first | exact HB.out | apply below_alloc | apply pw_below_drewN | apply below_drew1 | refine below_set ?_ GE169.out | refine below_set ?_ GE170.out | refine below_set ?_ GE177.out) | exact HB.out)) hb)
                        clear BK169
                        clear BK170
                        clear BK177
                        clear HB
                        have BK169 := n0_
                        have BK170 := n1_
                        have BK177 := n2_
                        have HB := n3_
                        clear n0_ n1_ n2_ n3_
                        (try clear hb)
                        (try clear hb2)
                        (try clear hk)
                        (try clear hi)
                        refine hK.out _ _ ⟨(blk_cell BK169.out 0).trans rfl, (blk_cell BK169.out 1).trans rfl⟩ (fun hHeld => ?_)
                        clear hK K
                        refine norm_ (a' := ?_) ?_ ?_
                        rotate_left
                        · show Act.put _ (some 98) _ = _
                          simp only [Act.put, List.setIfInBounds_toArray, List.set_cons_zero, List.set_cons_succ, i64_w, i32_w]
                          rfl
                        refine pure_ (i := 9) (N := some 106) (v := ?_) (a' := ?_) #[true, true, true, true, true, true, true, true, true, true, false] rfl rfl (any_of HT_.out (by kernel_rfl)) (fun _ _ _ h => h) (Or.inl ⟨by rfl, ?_⟩) ?_ ?_
                        rotate_left
                        · intro w'
                          go_simp
                          with_reducible rfl
                        rotate_left
                        · simp only [Act.put, List.setIfInBounds_toArray, List.set_cons_zero, List.set_cons_succ, i64_w, i32_w]
                          rfl
                        refine pure_ (i := 10) (N := some 8) (v := ?_) (a' := ?_) #[true, true, true, true, true, true, true, true, true, true, true] rfl rfl (any_of HT_.out (by kernel_rfl)) (fun _ _ _ h => h) (Or.inl ⟨by rfl, ?_⟩) ?_ ?_
                        rotate_left
                        · intro w'
                          go_simp
                          with_reducible rfl
                        rotate_left
                        · simp only [Act.put, List.setIfInBounds_toArray, List.set_cons_zero, List.set_cons_succ, i64_w, i32_w]
                          rfl
                        refine done_ (done_of HT_.out (by kernel_rfl)) ?_
                        try go_wp2
                        go_ret
                        exact ⟨by first | rfl | (simp [errW_none, errW_some] <;> rfl) | (simp [*, errW_none, errW_some] <;> rfl), by repeat (first | (with_reducible first | exact HB.out | apply below_alloc | apply pw_below_drewN | apply below_drew1 | refine below_set ?_ GE169.out | refine below_set ?_ GE170.out | refine below_set ?_ GE177.out) | exact HB.out)⟩
                  · rw [if_neg c106] at H
                    have c106b0 : decide ((l0_1.length : Int) ≤ a1) = false := decide_eq_false c106
                    clear c106
                    replace H := Option.bind_eq_some_iff.mp H
                    obtain ⟨t199, A1270, H⟩ := H
                    replace H : (some (t199 == (wrap64 ((l0_0.length : Int) + (l0_1.length : Int))))) = some r := H
                    have A127 := Aside0.mk A1270
                    clear A1270
                    obtain rfl := Option.some.inj H
                    have hnb128 := NB169_170.out
                    have hnc128 := NB170_169.out
                    have hnb129 := NB169_177.out
                    have hnc129 := NB177_169.out
                    have hcz130_0 : wc.cell? ⟨gb169, 0, none⟩ = some (.slice A0_0 l0_0.length c0_0) := (blk_cell BK169.out 0).trans rfl
                    have hcz130_1 : wc.cell? ⟨gb169, 1, none⟩ = some (.slice A0_1 l0_1.length c0_1) := (blk_cell BK169.out 1).trans rfl
                    have hfz130_0 := blk_frozen BK169.out 0
                    have hfz130_1 := blk_frozen BK169.out 1
                    try go_wp2
                    have n0_ := Aside0.mk (blk_drew BK169.out)
                    have n1_ := Aside0.mk (blk_drew BK170.out)
                    have n2_ := Aside0.mk (blk_drew BK177.out)
                    have n3_ := Aside0.mk (below_drew1 HB.out)
                    clear BK169
                    clear BK170
                    clear BK177
                    clear HB
                    have BK169 := n0_
                    have BK170 := n1_
                    have BK177 := n2_
                    have HB := n3_
                    clear n0_ n1_ n2_ n3_
                    refine start_ (n := 11) (S := fun w' => w'.cell? ⟨gb169, 0, none⟩ = some (.slice A0_0 l0_0.length c0_0) ∧ w'.cell? ⟨gb169, 1, none⟩ = some (.slice A0_1 l0_1.length c0_1)) (ds := []) #[false, false, false, false, false, false, false, false, false, false, false] (by kernel_rfl) rfl rfl ⟨(blk_cell BK169.out 0).trans rfl, (blk_cell BK169.out 1).trans rfl⟩ (fun hHeld => ?_); refine with_tabW gaugerlaw17_PlanRaw.tab14 gaugerlaw17_PlanRaw.bits14 (fun HT_ HW_ => ?_)
                    generalize wc.drew = w131 at BK169 BK170 BK177 HB hHeld ⊢
                    refine pure_ (i := 2) (N := some 99) (v := ?_) (a' := ?_) #[false, false, true, false, false, false, false, false, false, false, false] rfl rfl (any_of HT_.out (by kernel_rfl)) (fun _ _ _ h => h) (Or.inl ⟨by rfl, ?_⟩) ?_ ?_
                    rotate_left
                    · intro w'
                      go_simp
                      with_reducible rfl
                    rotate_left
                    · simp only [Act.put, List.setIfInBounds_toArray, List.set_cons_zero, List.set_cons_succ, i64_w, i32_w]
                      rfl
                    refine pure_ (i := 5) (N := some 102) (v := ?_) (a' := ?_) #[false, false, true, false, false, true, false, false, false, false, false] rfl rfl (any_of HT_.out (by kernel_rfl)) (fun _ _ _ h => h) (Or.inl ⟨by rfl, ?_⟩) ?_ ?_
                    rotate_left
                    · intro w'
                      go_simp
                      with_reducible rfl
                    rotate_left
                    · simp only [Act.put, List.setIfInBounds_toArray, List.set_cons_zero, List.set_cons_succ, i64_w, i32_w]
                      rfl
                    refine take_ (i := 0) (N := some 97) (v := ?_) (a' := ?_) #[true, false, true, false, false, true, false, false, false, false, false] rfl rfl (take_ofW HT_.out HW_.out (by kernel_rfl)) (fun _ _ _ h => h) (Or.inl ⟨by rfl, ?_⟩) hHeld ?_ ?_
                    rotate_left
                    · rintro w' ⟨s0, s1⟩
                      go_simp
                      with_reducible rfl
                    rotate_left
                    · simp only [Act.put, List.setIfInBounds_toArray, List.set_cons_zero, List.set_cons_succ, i64_w, i32_w]
                      rfl
                    refine take_ (i := 3) (N := some 100) (v := ?_) (a' := ?_) #[true, false, true, true, false, true, false, false, false, false, false] rfl rfl (take_ofW HT_.out HW_.out (by kernel_rfl)) (fun _ _ _ h => h) (Or.inl ⟨by rfl, ?_⟩) hHeld ?_ ?_
                    rotate_left
                    · rintro w' ⟨s0, s1⟩
                      go_simp
                      with_reducible rfl
                    rotate_left
                    · simp only [Act.put, List.setIfInBounds_toArray, List.set_cons_zero, List.set_cons_succ, i64_w, i32_w]
                      rfl
                    refine pure_ (i := 4) (N := some 101) (v := ?_) (a' := ?_) #[true, false, true, true, true, true, false, false, false, false, false] rfl rfl (any_of HT_.out (by kernel_rfl)) (fun _ _ _ h => h) (Or.inl ⟨by rfl, ?_⟩) ?_ ?_
                    rotate_left
                    · intro w'
                      go_simp
                      with_reducible rfl
                    rotate_left
                    · simp only [Act.put, List.setIfInBounds_toArray, List.set_cons_zero, List.set_cons_succ, i64_w, i32_w]
                      rfl
                    refine take_ (i := 6) (N := some 103) (v := ?_) (a' := ?_) #[true, false, true, true, true, true, true, false, false, false, false] rfl rfl (take_ofW HT_.out HW_.out (by kernel_rfl)) (fun _ _ _ h => h) (Or.inl ⟨by rfl, ?_⟩) hHeld ?_ ?_
                    rotate_left
                    · rintro w' ⟨s0, s1⟩
                      go_simp
                      with_reducible rfl
                    rotate_left
                    · simp only [Act.put, List.setIfInBounds_toArray, List.set_cons_zero, List.set_cons_succ, i64_w, i32_w]
                      rfl
                    refine pure_ (i := 7) (N := some 104) (v := ?_) (a' := ?_) #[true, false, true, true, true, true, true, true, false, false, false] rfl rfl (any_of HT_.out (by kernel_rfl)) (fun _ _ _ h => h) (Or.inl ⟨by rfl, ?_⟩) ?_ ?_
                    rotate_left
                    · intro w'
                      go_simp
                      with_reducible rfl
                    rotate_left
                    · simp only [Act.put, List.setIfInBounds_toArray, List.set_cons_zero, List.set_cons_succ, i64_w, i32_w]
                      rfl
                    refine pure_ (i := 8) (N := some 105) (v := ?_) (a' := ?_) #[true, false, true, true, true, true, true, true, true, false, false] rfl rfl (any_of HT_.out (by kernel_rfl)) (fun _ _ _ h => h) (Or.inl ⟨by rfl, ?_⟩) ?_ ?_
                    rotate_left
                    · intro w'
                      go_simp
                      with_reducible rfl
                    rotate_left
                    · simp only [Act.put, List.setIfInBounds_toArray, List.set_cons_zero, List.set_cons_succ, i64_w, i32_w]
                      rfl
                    refine one_ (i := 1) (N := some 98) #[true, true, true, true, true, true, true, true, true, false, false] rfl rfl (one_of HT_.out (by kernel_rfl)) (by decide) (fun K hK => ?_)
                    refine goes_ Try.func13 (by kernel_rfl) rfl #[.agg #[.slice A0_0 l0_0.length c0_0, .slice A0_1 l0_1.length c0_1]] (by rfl) rfl rfl (by (try simp only [List.map_toArray, List.map_cons, List.map_nil]); first | done | rfl | (simp only [List.length_drop, List.length_take]; rfl)) ?_
                    with_reducible refine (plan_Trees.calls _ _ l0_0 _ _ l0_1 t199 _ ?side1 ?side2 ?side3 ?side4 A127.out).mono ?_
                    (case side1 => repeat (first | exact (Kd.C_below HR0_0.out HB.out) | (with_reducible refine Kd.C_alloc ?_ _) | (with_reducible refine Kd.C_drewN ?_ _) | (with_reducible refine Kd.C_drew ?_)))
                    (case side2 => exact HC0_0.out)
                    (case side3 => repeat (first | exact (Kd.C_below HR0_1.out HB.out) | (with_reducible refine Kd.C_alloc ?_ _) | (with_reducible refine Kd.C_drewN ?_ _) | (with_reducible refine Kd.C_drew ?_)))
                    (case side4 => exact HC0_1.out)
                    rintro e w132 ⟨rfl, hb⟩
                    refine ⟨_, rfl, ?_⟩
                    have n0_ := Aside0.mk (blk_below (g := gb169) (o := .cells #[.slice A0_0 l0_0.length c0_0, .slice A0_1 l0_1.length c0_1] 25 (0, 0)) (by (with_reducible repeat (first | refine blk_drewN ?_ _ | refine blk_drew ?_ | refine blk_alloc ?_ _)); exact BK169.out) hb)
                    have n1_ := Aside0.mk (blk_below (g := gb170) (o := .cells #[.string a3_0, .string a3_1, .bool a3_2] 28 (0, 0)) (by (with_reducible repeat (first | refine blk_drewN ?_ _ | refine blk_drew ?_ | refine blk_alloc ?_ _)); exact BK170.out) hb)
                    have n2_ := Aside0.mk (blk_below (g := gb177) (o := .cells #[.string t173, .string t174, .bool t175] 28 (0, 0)) (by (with_reducible repeat (first | refine blk_drewN ?_ _ | refine blk_drew ?_ | refine blk_alloc ?_ _)); exact BK177.out) hb)
                    have n3_ := Aside0.mk (below_step (by repeat (first | (with_reducible first | exact HB.out | apply below_alloc | apply pw_below_drewN | apply below_drew1 | refine below_set ?_ GE169.out | refine below_set ?_ GE170.out | refine below_set ?_ GE177.out) | exact HB.out)) hb)
                    clear BK169
                    clear BK170
                    clear BK177
                    clear HB
                    have BK169 := n0_
                    have BK170 := n1_
                    have BK177 := n2_
                    have HB := n3_
                    clear n0_ n1_ n2_ n3_
                    (try clear hb)
                    (try clear hb2)
                    (try clear hk)
                    (try clear hi)
                    refine hK.out _ _ ⟨(blk_cell BK169.out 0).trans rfl, (blk_cell BK169.out 1).trans rfl⟩ (fun hHeld => ?_)
                    clear hK K
                    refine norm_ (a' := ?_) ?_ ?_
                    rotate_left
                    · show Act.put _ (some 98) _ = _
                      simp only [Act.put, List.setIfInBounds_toArray, List.set_cons_zero, List.set_cons_succ, i64_w, i32_w]
                      rfl
                    refine pure_ (i := 9) (N := some 106) (v := ?_) (a' := ?_) #[true, true, true, true, true, true, true, true, true, true, false] rfl rfl (any_of HT_.out (by kernel_rfl)) (fun _ _ _ h => h) (Or.inl ⟨by rfl, ?_⟩) ?_ ?_
                    rotate_left
                    · intro w'
                      go_simp
                      with_reducible rfl
                    rotate_left
                    · simp only [Act.put, List.setIfInBounds_toArray, List.set_cons_zero, List.set_cons_succ, i64_w, i32_w]
                      rfl
                    refine pure_ (i := 10) (N := some 8) (v := ?_) (a' := ?_) #[true, true, true, true, true, true, true, true, true, true, true] rfl rfl (any_of HT_.out (by kernel_rfl)) (fun _ _ _ h => h) (Or.inl ⟨by rfl, ?_⟩) ?_ ?_
                    rotate_left
                    · intro w'
                      go_simp
                      with_reducible rfl
                    rotate_left
                    · simp only [Act.put, List.setIfInBounds_toArray, List.set_cons_zero, List.set_cons_succ, i64_w, i32_w]
                      rfl
                    refine done_ (done_of HT_.out (by kernel_rfl)) ?_
                    try go_wp2
                    go_ret
                    exact ⟨by first | rfl | (simp [errW_none, errW_some] <;> rfl) | (simp [*, errW_none, errW_some] <;> rfl), by repeat (first | (with_reducible first | exact HB.out | apply below_alloc | apply pw_below_drewN | apply below_drew1 | refine below_set ?_ GE169.out | refine below_set ?_ GE170.out | refine below_set ?_ GE177.out) | exact HB.out)⟩
  · replace c6 := Bool.eq_false_iff.mpr c6
    subst c6
    have H1 : (some false) = some r := by rw [if_neg (show ¬ (false = true) by decide)] at H; exact H
    clear H
    have H := H1
    clear H1
    obtain rfl := Option.some.inj H
    go_enter Try.func3, Try.ntmps3
    go_wp2_with (first | ((with_reducible refine gate_dst (N := 4) rfl ?_); (try (refine gate_guard (by rfl) ?_; dsimp only)); refine box_event ?hg (N := 4) ?hd (cs := #[.slice A0_0 l0_0.length c0_0, .slice A0_1 l0_1.length c0_1]) (t := 25) ?hr ?_; (case hd => rfl); (case hg => rfl); (case hr => first | (go_simp; done) | (go_simp; rfl)); intro gb169 hg w133 hbox hb; have n0_ := Aside0.mk (below_step (by repeat (first | (with_reducible first | exact HB.out | apply below_alloc | apply pw_below_drewN | apply below_drew1) | exact HB.out)) hb); have n1_ := Aside0.mk (hbox); have n2_ := Aside0.mk ((by rw [hg]; exact (below_size (by repeat (first | (with_reducible first | exact HB.out | apply below_alloc | apply pw_below_drewN | apply below_drew1) | exact HB.out))) : w.heap.size ≤ gb169)); have n3_ := Aside0.mk ((by rw [hg]; exact (below_size (by repeat (first | (with_reducible first | exact HB.out | apply below_alloc | apply pw_below_drewN | apply below_drew1) | exact HB.out))) : w.heap.size ≤ gb169)); clear HB; have HB := n0_; have BK169 := n1_; have GW169 := n2_; have GE169 := n3_; clear n0_ n1_ n2_ n3_; clear hb hbox hg) | ((with_reducible refine gate_dst (N := 7) rfl ?_); (try (refine gate_guard (by rfl) ?_; dsimp only)); refine box_event ?hg (N := 7) ?hd (cs := #[.string a3_0, .string a3_1, .bool a3_2]) (t := 28) ?hr ?_; (case hd => rfl); (case hg => rfl); (case hr => first | (go_simp; done) | (go_simp; rfl)); intro gb170 hg w134 hbox hb; have n0_ := Aside0.mk (blk_below (g := gb169) (o := .cells #[.slice A0_0 l0_0.length c0_0, .slice A0_1 l0_1.length c0_1] 25 (0, 0)) (by (with_reducible repeat (first | refine blk_drewN ?_ _ | refine blk_drew ?_ | refine blk_alloc ?_ _)); exact BK169.out) hb); have n1_ := Aside0.mk (below_step (by repeat (first | (with_reducible first | exact HB.out | apply below_alloc | apply pw_below_drewN | apply below_drew1 | refine below_set ?_ GE169.out) | exact HB.out)) hb); have n2_ := Aside0.mk (hbox); have n3_ := Aside0.mk ((by rw [hg]; exact (below_size (by repeat (first | (with_reducible first | exact HB.out | apply below_alloc | apply pw_below_drewN | apply below_drew1 | refine below_set ?_ GE169.out) | exact HB.out))) : w.heap.size ≤ gb170)); have n4_ := Aside0.mk ((by rw [hg]; exact (below_size (by repeat (first | (with_reducible first | exact HB.out | apply below_alloc | apply pw_below_drewN | apply below_drew1 | refine below_set ?_ GE169.out) | exact HB.out))) : w.heap.size ≤ gb170)); have n5_ := Aside0.mk ((by rw [hg]; exact Nat.ne_of_lt (blk_lt (g := gb169) (o := .cells #[.slice A0_0 l0_0.length c0_0, .slice A0_1 l0_1.length c0_1] 25 (0, 0)) (by (with_reducible repeat (first | refine blk_drewN ?_ _ | refine blk_drew ?_ | refine blk_alloc ?_ _)); exact BK169.out)) : gb169 ≠ gb170)); have n6_ := Aside0.mk ((by rw [hg]; exact Nat.ne_of_gt (blk_lt (g := gb169) (o := .cells #[.slice A0_0 l0_0.length c0_0, .slice A0_1 l0_1.length c0_1] 25 (0, 0)) (by (with_reducible repeat (first | refine blk_drewN ?_ _ | refine blk_drew ?_ | refine blk_alloc ?_ _)); exact BK169.out)) : gb170 ≠ gb169)); clear BK169; clear HB; have BK169 := n0_; have HB := n1_; have BK170 := n2_; have GW170 := n3_; have GE170 := n4_; have NB169_170 := n5_; have NB170_169 := n6_; clear n0_ n1_ n2_ n3_ n4_ n5_ n6_; clear hb hbox hg) | ((with_reducible refine gate_callee (f := 5) rfl ?_); refine goesL_ (some 15) rfl rfl Try.func5 (by kernel_rfl) rfl #[] rfl (by (try simp only [List.map_toArray, List.map_cons, List.map_nil]); first | done | rfl | (simp only [List.length_drop, List.length_take]; rfl)) ?_; (with_reducible refine (gaugerlaw17_awake.calls  false _ A5.out).mono ?_); rintro e w135 ⟨rfl, hb⟩; refine ⟨_, rfl, ?_⟩; have n0_ := Aside0.mk (blk_below (g := gb169) (o := .cells #[.slice A0_0 l0_0.length c0_0, .slice A0_1 l0_1.length c0_1] 25 (0, 0)) (by (with_reducible repeat (first | refine blk_drewN ?_ _ | refine blk_drew ?_ | refine blk_alloc ?_ _)); exact BK169.out) hb); have n1_ := Aside0.mk (blk_below (g := gb170) (o := .cells #[.string a3_0, .string a3_1, .bool a3_2] 28 (0, 0)) (by (with_reducible repeat (first | refine blk_drewN ?_ _ | refine blk_drew ?_ | refine blk_alloc ?_ _)); exact BK170.out) hb); have n2_ := Aside0.mk (below_step (by repeat (first | (with_reducible first | exact HB.out | apply below_alloc | apply pw_below_drewN | apply below_drew1 | refine below_set ?_ GE169.out | refine below_set ?_ GE170.out) | exact HB.out)) hb); clear BK169; clear BK170; clear HB; have BK169 := n0_; have BK170 := n1_; have HB := n2_; clear n0_ n1_ n2_; (try clear hb); (try clear hb2); (try clear hk); (try clear hi)))
    go_ret
    exact ⟨by first | rfl | (simp [errW_none, errW_some] <;> rfl) | (simp [*, errW_none, errW_some] <;> rfl), by repeat (first | (with_reducible first | exact HB.out | apply below_alloc | apply pw_below_drewN | apply below_drew1 | refine below_set ?_ GE169.out | refine below_set ?_ GE170.out) | exact HB.out)⟩

end Go.Proofs.Ythhblhhbobnaiaa.Pl
