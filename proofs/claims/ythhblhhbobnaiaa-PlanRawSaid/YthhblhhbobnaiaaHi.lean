/- The contract of plan.IsNothing, written by hand in the form of the printed ones; no condition but a bound on the length. -/
import Derived.Test.YthhblhhbobnaiaaHCode
import Derived.Test.YthhblhhbobnaiaaPlF41
namespace Go.Proofs.Ythhblhhbobnaiaa.Pl
open Go.RowKit Go.Shelf Go.Proofs.YthhblhhbobnaiaaW.PrintWords Go.Proofs.YthhblhhbobnaiaaW.PrintLast Go.Proofs.YthhblhhbobnaiaaW.PrintMore
set_option linter.unusedVariables false
set_option linter.unusedSimpArgs false

def someW (x : S57) : Bool := (plan_IsNothing_1.f x.f0 x.f1).getD false
theorem someW_eq (x : S57) : plan_IsNothing_1.f x.f0 x.f1 = some (someW x) := by
  unfold someW plan_IsNothing_1.f
  repeat' split
  all_goals rfl

set_option maxHeartbeats 1000000 in
set_option maxRecDepth 10000 in
theorem idx59 (A : Option Addr) (c : Nat) (l : List S57) (w : World) (hr : k57.C w A l.length l) (hm : l.length ≤ 1000000000000) :
    Calls Try.prog 59 #[.slice A l.length c, .func (.func 41) #[] #[]] w fun e w' => ∃ r : Int, e = .returned (.int .i64 r) ∧ (decide (0 ≤ r) = l.any someW) ∧ Below w.heap.size w w' := by
  cases l with
  | nil =>
    go_enter Try.func59, Try.ntmps59
    go_wp2
    refine wp_loop_rounds 1 ?_
    rw [rounds_succ]
    go_wp2
    go_ret
    exact ⟨-1, rfl, rfl, Below.refl _ _⟩
  | cons x0 l0 =>
  generalize hl : x0 :: l0 = l at *
  have hpos : 0 < l.length := by rw [← hl]; simp
  clear hl
  obtain ⟨ad, eA⟩ : ∃ ad, A = some ad := by
    obtain ⟨ad, h⟩ := at_T57 hr 0 (by omega) (by omega)
    exact ⟨ad, h.1⟩
  subst eA
  have HR := Lib.hid hr
  clear hr
  go_enter Try.func59, Try.ntmps59
  go_wp2
  go_loopw [8] (fun s wr => ∃ i : Nat, i ≤ l.length ∧ s = .int .i64 i ∧ Hid ((l.take i).any someW = false) ∧ Below w.heap.size w wr) (fun s _ => l.length - (intOf s).toNat)
  case atStart => exact ⟨0, by omega, rfl, Lib.hid rfl, Below.refl _ _⟩
  case round =>
    obtain ⟨i, hi, rfl, HN, hB⟩ := hrel
    by_cases hlt : i < l.length
    · obtain ⟨ad', e, hx0, hx1⟩ := at_T57 HR.out (i : Int) (by omega) (by omega)
      obtain rfl := Option.some.inj e
      rw [Int.toNat_natCast, rd_T57] at hx0 hx1
      replace hx0 := cell_below hB hx0
      replace hx1 := cell_below hB hx1
      rw [Int.toNat_natCast] at hx0 hx1
      clear e
      have hsnoc : (l.take (i + 1)).any someW = someW (l.getD i z57) := by
        have := HN.out
        rw [List.take_succ_eq_append_getElem hlt, List.any_append, this]
        simp [List.getD, hlt]
      have HS := Lib.hid hsnoc
      clear hsnoc
      obtain ⟨x, hx⟩ : ∃ x, x = l.getD i z57 := ⟨_, rfl⟩
      rw [← hx] at hx0 hx1
      have HX := Lib.hid hx
      clear hx
      cases hb : someW x with
      | true =>
        have HP := Lib.hid hb
        clear hb
        have HI := Lib.hid hi
        go_wp2_with (go_at_call 41; refine (plan_IsNothing_1.calls x.f0 x.f1 _ _ (by rw [someW_eq, HP.out])).mono ?_; rintro e w1 ⟨rfl, hd1⟩; have hb1 := hd1)
        go_ret
        refine ⟨i, rfl, ?_, hB.trans (hb1.mono hB.size)⟩
        have h1 := HS.out
        rw [← HX.out, HP.out] at h1
        have h2 : l.any someW = true := by
          rw [← List.take_append_drop (i + 1) l, List.any_append, h1]; rfl
        rw [h2]
        simp
      | false =>
        have HP := Lib.hid hb
        clear hb
        go_wp2_with (go_at_call 41; refine (plan_IsNothing_1.calls x.f0 x.f1 _ _ (by rw [someW_eq, HP.out])).mono ?_; rintro e w1 ⟨rfl, hd1⟩; have hb1 := hd1)
        go_roundw
        case rel => exact ⟨i + 1, by omega, by go_num, Lib.hid (by rw [HS.out, ← HX.out, HP.out]), hB.trans (hb1.mono hB.size)⟩
        case measure => simp [intOf]; omega
    · have : i = l.length := by omega
      subst this
      go_wp2
      go_ret
      refine ⟨-1, rfl, ?_, hB⟩
      have := HN.out
      rw [List.take_length] at this
      rw [this]
      rfl

theorem con42 (A : Option Addr) (c : Nat) (l : List S57) (w : World) (hr : k57.C w A l.length l) (hm : l.length ≤ 1000000000000) :
    Calls Try.prog 42 #[.slice A l.length c, .func (.func 41) #[] #[]] w fun e w' => e = .returned (.bool (l.any someW)) ∧ Below w.heap.size w w' := by
  have HR := Lib.hid hr
  clear hr
  go_enter Try.func42, Try.ntmps42
  go_wp2_with (go_at_call 59; refine (idx59 _ _ l _ HR.out hm).mono ?_; rintro e w1 ⟨r, rfl, hr, hb1⟩; have HD := Lib.hid hr; clear hr)
  go_ret
  exact ⟨by rw [← HD.out]; rfl, hb1⟩

def plan_IsNothing.f (a0 a1 : Int) (l : List S57) : Option Bool := if l.length ≤ 1000000000000 then some (!someW ⟨a0, a1⟩ && !l.any someW) else none

set_option maxHeartbeats 1000000 in
theorem plan_IsNothing.calls (a0 a1 : Int) (A : Option Addr) (c : Nat) (l : List S57) (r : Bool) (w : World) (hr : Kd.C k57 w A l.length l) (hc : l.length ≤ c) (h : plan_IsNothing.f a0 a1 l = some r) :
    Calls Try.prog 24 #[.agg #[.int .i64 a0, .int .u64 a1, .slice A l.length c]] w fun e w' => e = .returned (.bool r) ∧ Below w.heap.size w w' := by
  unfold plan_IsNothing.f at h
  split at h
  case isFalse => simp at h
  obtain rfl := Option.some.inj h
  rename_i hm
  have hB := (Below.refl w.heap.size w).alloc (Nat.le_refl _) (.cells #[.int .i64 a0, .int .u64 a1, .slice A l.length c] 60)
  have HT := Lib.hid (Kd.C_below hr hB)
  clear hr hB
  cases hb : someW ⟨a0, a1⟩ with
  | true =>
    have HA := Lib.hid hb
    clear hb
    go_enter Try.func24, Try.ntmps24
    go_wp2_with (go_at_call 41; refine (plan_IsNothing_1.calls a0 a1 true _ (by have := someW_eq ⟨a0, a1⟩; rw [HA.out] at this; exact this)).mono ?_; rintro e w1 ⟨rfl, hb1⟩)
    go_ret
    exact ⟨rfl, alloc_below (hb1)⟩
  | false =>
    have HA := Lib.hid hb
    clear hb
    go_enter Try.func24, Try.ntmps24
    go_wp2_with (first
      | (go_at_call 41; refine (plan_IsNothing_1.calls a0 a1 false _ (by have := someW_eq ⟨a0, a1⟩; rw [HA.out] at this; exact this)).mono ?_; rintro e w1 ⟨rfl, hd1⟩; have hb1 := hd1; obtain ⟨hc1, hf1⟩ := bcell hb1)
      | (go_at_call 42; refine (con42 _ _ l _ (Kd.C_below HT.out hb1) hm).mono ?_; rintro e w2 ⟨rfl, hb2⟩))
    go_ret
    exact ⟨rfl, (alloc_below hb1).trans (hb2.mono (alloc_below hb1).size)⟩

end Go.Proofs.Ythhblhhbobnaiaa.Pl
