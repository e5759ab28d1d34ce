/- The contract of plan.Good, written by hand in the form of the printed ones; no condition. The contract of plan.Good, second part, written by hand in the form of the printed ones; no condition. The contract of plan.Good, last part, written by hand in the form of the printed ones; no condition. -/
import Derived.Test.YthhblhhbobnaiaaHCode
import Derived.Test.YthhblhhbobnaiaaPlF32
import Derived.Test.YthhblhhbobnaiaaPlF48
namespace Go.Proofs.Ythhblhhbobnaiaa.Pl
open Go.RowKit Go.Shelf Go.Proofs.YthhblhhbobnaiaaW.PrintWords Go.Proofs.YthhblhhbobnaiaaW.PrintLast Go.Proofs.YthhblhhbobnaiaaW.PrintMore
set_option linter.unusedVariables false
set_option linter.unusedSimpArgs false

def badCol (x : Int) : Bool := (plan_isTable_1.f x).getD false
theorem badCol_eq (x : Int) : plan_isTable_1.f x = some (badCol x) := by
  unfold badCol plan_isTable_1.f
  repeat' split
  all_goals rfl

set_option maxHeartbeats 1000000 in
set_option maxRecDepth 10000 in
theorem idx65 (A : Option Addr) (c : Nat) (l : List Int) (w : World) (hr : (Kd.int .i64).C w A l.length l) (hm : l.length ≤ 1000) :
    Calls Try.prog 65 #[.slice A l.length c, .func (.func 48) #[] #[]] w fun e w' => ∃ r : Int, e = .returned (.int .i64 r) ∧ (decide (0 ≤ r) = l.any badCol) ∧ Below w.heap.size w w' := by
  cases l with
  | nil =>
    go_enter Try.func65, Try.ntmps65
    go_wp2
    refine wp_loop_rounds 1 ?_
    rw [rounds_succ]
    go_wp2
    go_ret
    exact ⟨-1, rfl, rfl, Below.refl _ _⟩
  | cons x0 l0 =>
  generalize hl : x0 :: l0 = l at *
  have hpos : 0 < l.length := by rw [← hl]; simp
  clear hl
  obtain ⟨ad, eA⟩ : ∃ ad, A = some ad := by
    obtain ⟨ad, h⟩ := Kd.at_int hr 0 (by omega) (by omega)
    exact ⟨ad, h.1⟩
  subst eA
  have HR := Lib.hid hr
  clear hr
  go_enter Try.func65, Try.ntmps65
  go_wp2
  go_loopw [8] (fun s wr => ∃ i : Nat, i ≤ l.length ∧ s = .int .i64 i ∧ Hid ((l.take i).any badCol = false) ∧ Below w.heap.size w wr) (fun s _ => l.length - (intOf s).toNat)
  case atStart => exact ⟨0, by omega, rfl, Lib.hid rfl, Below.refl _ _⟩
  case round =>
    obtain ⟨i, hi, rfl, HN, hB⟩ := hrel
    by_cases hlt : i < l.length
    · obtain ⟨ad', e, hx0⟩ := Kd.at_int HR.out (i : Int) (by omega) (by omega)
      obtain rfl := Option.some.inj e
      rw [Int.toNat_natCast, rd] at hx0
      replace hx0 := cell_below hB hx0
      rw [Int.toNat_natCast] at hx0
      clear e
      have hsnoc : (l.take (i + 1)).any badCol = badCol (l.getD i 0) := by
        have := HN.out
        rw [List.take_succ_eq_append_getElem hlt, List.any_append, this]
        simp [List.getD, hlt]
      have HS := Lib.hid hsnoc
      clear hsnoc
      obtain ⟨x, hx⟩ : ∃ x, x = l.getD i 0 := ⟨_, rfl⟩
      rw [← hx] at hx0
      have HX := Lib.hid hx
      clear hx
      cases hb : badCol x with
      | true =>
        have HP := Lib.hid hb
        clear hb
        have HI := Lib.hid hi
        go_wp2_with (go_at_call 48; refine (plan_isTable_1.calls x _ _ (by rw [badCol_eq, HP.out])).mono ?_; rintro e w1 ⟨rfl, hd1⟩; have hb1 := hd1.below)
        go_ret
        refine ⟨i, rfl, ?_, hB.trans (hb1.mono hB.size)⟩
        have h1 := HS.out
        rw [← HX.out, HP.out] at h1
        have h2 : l.any badCol = true := by
          rw [← List.take_append_drop (i + 1) l, List.any_append, h1]; rfl
        rw [h2]
        simp
      | false =>
        have HP := Lib.hid hb
        clear hb
        go_wp2_with (go_at_call 48; refine (plan_isTable_1.calls x _ _ (by rw [badCol_eq, HP.out])).mono ?_; rintro e w1 ⟨rfl, hd1⟩; have hb1 := hd1.below)
        go_roundw
        case rel => exact ⟨i + 1, by omega, by go_num, Lib.hid (by rw [HS.out, ← HX.out, HP.out]), hB.trans (hb1.mono hB.size)⟩
        case measure => simp [intOf]; omega
    · have : i = l.length := by omega
      subst this
      go_wp2
      go_ret
      refine ⟨-1, rfl, ?_, hB⟩
      have := HN.out
      rw [List.take_length] at this
      rw [this]
      rfl

theorem con49 (A : Option Addr) (c : Nat) (l : List Int) (w : World) (hr : (Kd.int .i64).C w A l.length l) (hm : l.length ≤ 1000) :
    Calls Try.prog 49 #[.slice A l.length c, .func (.func 48) #[] #[]] w fun e w' => e = .returned (.bool (l.any badCol)) ∧ Below w.heap.size w w' := by
  have HR := Lib.hid hr
  clear hr
  go_enter Try.func49, Try.ntmps49
  go_wp2_with (go_at_call 65; refine (idx65 _ _ l _ HR.out hm).mono ?_; rintro e w1 ⟨r, rfl, hr, hb1⟩; have HD := Lib.hid hr; clear hr)
  go_ret
  exact ⟨by rw [← HD.out]; rfl, hb1⟩

def tableB (l : List Int) : Bool := decide (1 ≤ l.length) && decide (l.length ≤ 4) && !l.any badCol

set_option maxHeartbeats 1000000 in
theorem isTable_calls (A : Option Addr) (c : Nat) (l : List Int) (w : World) (hr : (Kd.int .i64).C w A l.length l) :
    Calls Try.prog 30 #[.agg #[.slice A l.length c]] w fun e w' => e = .returned (.bool (tableB l)) ∧ Below w.heap.size w w' := by
  by_cases h1 : 1 ≤ l.length
  · by_cases h4 : l.length ≤ 4
    · have e1 : tableB l = !l.any badCol := by simp [tableB, h1, h4]
      have H1 := Lib.hid e1
      have hr2 := Kd.C_below hr ((Below.refl _ _).alloc (Nat.le_refl _) (.cells #[.slice A l.length c] 50))
      have HR := Lib.hid hr2
      clear hr hr2 e1
      go_enter Try.func30, Try.ntmps30
      go_wp2_with (go_at_call 49; refine (con49 _ _ l _ HR.out (by omega)).mono ?_; rintro e w1 ⟨rfl, hb1⟩)
      go_ret
      exact ⟨by rw [H1.out]; rfl, alloc_below hb1⟩
    · have e1 : tableB l = false := by simp [tableB, h4]
      have H1 := Lib.hid e1
      clear e1 hr
      have h4' : 4 < l.length := by omega
      clear h4
      go_enter Try.func30, Try.ntmps30
      go_wp2
      go_ret
      exact ⟨by rw [H1.out]; rfl, (Below.refl _ _).alloc (Nat.le_refl _) _⟩
  · have e1 : tableB l = false := by simp [tableB, h1]
    have H1 := Lib.hid e1
    clear e1 hr
    have h1' : l.length < 1 := by omega
    clear h1
    go_enter Try.func30, Try.ntmps30
    go_wp2
    go_ret
    exact ⟨by rw [H1.out]; rfl, (Below.refl _ _).alloc (Nat.le_refl _) _⟩

theorem good1_calls (A : Option Addr) (c : Nat) (l : List Int) (w : World) (hr : (Kd.int .i64).C w A l.length l) :
    Calls Try.prog 29 #[.agg #[.slice A l.length c]] w fun e w' => e = .returned (.bool (!tableB l)) ∧ Below w.heap.size w w' := by
  have hr2 := Kd.C_below hr ((Below.refl _ _).alloc (Nat.le_refl _) (.cells #[.slice A l.length c] 50))
  have HR := Lib.hid hr2
  clear hr hr2
  go_enter Try.func29, Try.ntmps29
  go_wp2_with (go_at_call 30; refine (isTable_calls _ _ l _ HR.out).mono ?_; rintro e w1 ⟨rfl, hb1⟩)
  go_ret
  exact ⟨rfl, alloc_below hb1⟩

def badTable (x : S50) : Bool := !tableB x.f0

set_option maxHeartbeats 1000000 in
set_option maxRecDepth 10000 in
theorem idx50 (A : Option Addr) (c : Nat) (l : List S50) (w : World) (hr : k50.C w A l.length l) (hm : l.length ≤ 1000) :
    Calls Try.prog 50 #[.slice A l.length c, .func (.func 29) #[] #[]] w fun e w' => ∃ r : Int, e = .returned (.int .i64 r) ∧ (decide (0 ≤ r) = l.any badTable) ∧ Below w.heap.size w w' := by
  cases l with
  | nil =>
    go_enter Try.func50, Try.ntmps50
    go_wp2
    refine wp_loop_rounds 1 ?_
    rw [rounds_succ]
    go_wp2
    go_ret
    exact ⟨-1, rfl, rfl, Below.refl _ _⟩
  | cons x0 l0 =>
  generalize hl : x0 :: l0 = l at *
  have hpos : 0 < l.length := by rw [← hl]; simp
  clear hl
  obtain ⟨ad, eA⟩ : ∃ ad, A = some ad := by
    obtain ⟨ad, h⟩ := at_T50 hr 0 (by omega) (by omega)
    obtain ⟨_, _, h, _⟩ := h; exact ⟨ad, h⟩
  subst eA
  have HR := Lib.hid hr
  clear hr
  go_enter Try.func50, Try.ntmps50
  go_wp2
  go_loopw [8] (fun s wr => ∃ i : Nat, i ≤ l.length ∧ s = .int .i64 i ∧ Hid ((l.take i).any badTable = false) ∧ Below w.heap.size w wr) (fun s _ => l.length - (intOf s).toNat)
  case atStart => exact ⟨0, by omega, rfl, Lib.hid rfl, Below.refl _ _⟩
  case round =>
    obtain ⟨i, hi, rfl, HN, hB⟩ := hrel
    by_cases hlt : i < l.length
    · obtain ⟨ad', A0, c0, e, hx0, hc0, hC0⟩ := at_T50 HR.out (i : Int) (by omega) (by omega)
      obtain rfl := Option.some.inj e
      rw [Int.toNat_natCast, rd_T50] at hx0
      rw [rd_T50] at hC0
      rw [rd_T50] at hc0
      replace hx0 := cell_below hB hx0
      rw [Int.toNat_natCast] at hx0 hC0 hc0
      clear e
      have hsnoc : (l.take (i + 1)).any badTable = badTable (l.getD i z50) := by
        have := HN.out
        rw [List.take_succ_eq_append_getElem hlt, List.any_append, this]
        simp [List.getD, hlt]
      have HS := Lib.hid hsnoc
      clear hsnoc
      obtain ⟨x, hx⟩ : ∃ x, x = l.getD i z50 := ⟨_, rfl⟩
      rw [← hx] at hx0 hC0
      have HC0 := Lib.hid hC0
      clear hC0 hc0
      have HX := Lib.hid hx
      clear hx
      cases hb : badTable x with
      | true =>
        have HP := Lib.hid hb
        clear hb
        have HI := Lib.hid hi
        go_wp2_with (go_at_call 29; refine (good1_calls A0 c0 x.f0 _ (Kd.C_below HC0.out hB)).mono ?_; rintro e w1 ⟨rfl, hb1⟩; rw [show (!tableB x.f0) = true from HP.out])
        go_ret
        refine ⟨i, rfl, ?_, hB.trans (hb1.mono hB.size)⟩
        have h1 := HS.out
        rw [← HX.out, HP.out] at h1
        have h2 : l.any badTable = true := by
          rw [← List.take_append_drop (i + 1) l, List.any_append, h1]; rfl
        rw [h2]
        simp
      | false =>
        have HP := Lib.hid hb
        clear hb
        go_wp2_with (go_at_call 29; refine (good1_calls A0 c0 x.f0 _ (Kd.C_below HC0.out hB)).mono ?_; rintro e w1 ⟨rfl, hb1⟩; rw [show (!tableB x.f0) = false from HP.out])
        go_roundw
        case rel => exact ⟨i + 1, by omega, by go_num, Lib.hid (by rw [HS.out, ← HX.out, HP.out]), hB.trans (hb1.mono hB.size)⟩
        case measure => simp [intOf]; omega
    · have : i = l.length := by omega
      subst this
      go_wp2
      go_ret
      refine ⟨-1, rfl, ?_, hB⟩
      have := HN.out
      rw [List.take_length] at this
      rw [this]
      rfl

theorem con33 (A : Option Addr) (c : Nat) (l : List S50) (w : World) (hr : k50.C w A l.length l) (hm : l.length ≤ 1000) :
    Calls Try.prog 33 #[.slice A l.length c, .func (.func 29) #[] #[]] w fun e w' => e = .returned (.bool (l.any badTable)) ∧ Below w.heap.size w w' := by
  have HR := Lib.hid hr
  clear hr
  go_enter Try.func33, Try.ntmps33
  go_wp2_with (go_at_call 50; refine (idx50 _ _ l _ HR.out hm).mono ?_; rintro e w1 ⟨r, rfl, hr, hb1⟩; have HD := Lib.hid hr; clear hr)
  go_ret
  exact ⟨by rw [← HD.out]; rfl, hb1⟩
end Go.Proofs.Ythhblhhbobnaiaa.Pl

namespace Go.Proofs.Ythhblhhbobnaiaa.Pl
open Go.RowKit Go.Shelf Go.Proofs.YthhblhhbobnaiaaW.PrintWords Go.Proofs.YthhblhhbobnaiaaW.PrintLast Go.Proofs.YthhblhhbobnaiaaW.PrintMore
set_option linter.unusedVariables false
set_option linter.unusedSimpArgs false

theorem isView_l0 (x5 x32 l2 : List Int) (a b : Int) (h2 : x32.length ≤ 1000) (d : Nat) : ∀ (k : Nat) (i : Nat) (x6 : Int), i ≤ x32.length → x32.length - i = d → d < k → -1 ≤ x6 → ∃ r, plan_isView.l0 k x5 x6 x32 (x32.length : Int) (i : Int) a b l2 = some r := by
  induction d with
  | zero =>
    intro k i x6 hi hd hk h6
    obtain ⟨k, rfl⟩ : ∃ m, k = m + 1 := ⟨k - 1, by omega⟩
    rw [plan_isView.l0, if_neg (by omega)]
    split <;> exact ⟨_, rfl⟩
  | succ d ih =>
    intro k i x6 hi hd hk h6
    obtain ⟨k, rfl⟩ : ∃ m, k = m + 1 := ⟨k - 1, by omega⟩
    rw [plan_isView.l0, if_pos (by omega), if_pos (by omega), if_pos (by omega)]
    split
    · exact ⟨_, rfl⟩
    · split
      · exact ⟨_, rfl⟩
      · rw [if_pos (by omega), if_pos (by omega)]
        split
        · have e : wrap64 ((i : Int) + 1) = ((i + 1 : Nat) : Int) := by unfold wrap64; omega
          rw [e]
          exact ih k (i + 1) _ (by omega) (by omega) (by omega) (by omega)
        · exact ⟨_, rfl⟩

def viewB (ts : List S50) (x : S52) : Bool := (plan_isView.f 10 x.f0 x.f1 x.f2 ts).getD false
theorem viewB_eq (ts : List S50) (x : S52) : plan_isView.f 10 x.f0 x.f1 x.f2 ts = some (viewB ts x) := by
  have key : ∃ r, plan_isView.f 10 x.f0 x.f1 x.f2 ts = some r := by
    unfold plan_isView.f
    split
    · exact ⟨false, by rw [plan_isView.j0, if_pos rfl]⟩
    · split
      · exact ⟨false, by rw [plan_isView.j0, if_pos rfl]⟩
      · by_cases h : (x.f2.length : Int) > 2
        · exact ⟨false, by rw [plan_isView.j0, if_pos (by simp; omega)]⟩
        · obtain ⟨r, hr⟩ := isView_l0 ((rd_T50 ts x.f0).f0) x.f2 x.f2 x.f0 x.f1 (by omega) x.f2.length 9 0 (-1) (by omega) (by omega) (by omega) (by omega)
          exact ⟨r, by rw [plan_isView.j0, if_neg (by simp; omega), if_pos (by omega), if_pos (by omega)]; exact hr⟩
  obtain ⟨r, hr⟩ := key
  unfold viewB
  rw [hr]
  rfl

def badView (ts : List S50) (x : S52) : Bool := !viewB ts x

set_option maxHeartbeats 1000000 in
theorem good2_calls (ts : List S50) (At : Option Addr) (ct g : Nat) (x : S52) (A2 : Option Addr) (c2 : Nat) (w : World) (hg : w.cell? ⟨g, 0, none⟩ = some (.slice At ts.length ct)) (hts : Kd.C k50 w At ts.length ts) (hct : ts.length ≤ ct) (hx : (Kd.int .i64).C w A2 x.f2.length x.f2) (hc2 : x.f2.length ≤ c2) :
    Calls Try.prog 31 #[.agg #[.int .i64 x.f0, .int .i64 x.f1, .slice A2 x.f2.length c2], .pointer (some ⟨g, 0, none⟩)] w fun e w' => e = .returned (.bool (badView ts x)) ∧ Below w.heap.size w w' := by
  have hB := (Below.refl w.heap.size w).alloc (Nat.le_refl _) (.cells #[.int .i64 x.f0, .int .i64 x.f1, .slice A2 x.f2.length c2] 52)
  have HT := Lib.hid (Kd.C_below hts hB)
  have HX := Lib.hid (Kd.C_below hx hB)
  have HG := cell_lt hg
  clear hts hx hB
  have HG2 : g < w.heap.size := HG
  go_enter Try.func31, Try.ntmps31
  go_wp2_with (go_at_call 32; refine (plan_isView.calls 10 _ _ _ _ x.f2 _ _ ts _ _ HX.out hc2 HT.out hct (viewB_eq ts x)).mono ?_; rintro e w1 ⟨rfl, hb1⟩)
  go_ret
  exact ⟨rfl, alloc_below hb1⟩

set_option maxHeartbeats 1000000 in
set_option maxRecDepth 10000 in
theorem idx51 (A : Option Addr) (c : Nat) (l : List S52) (At : Option Addr) (ct g : Nat) (ts : List S50) (w : World) (hr : k52.C w A l.length l) (hm : l.length ≤ 1000) (hg : w.cell? ⟨g, 0, none⟩ = some (.slice At ts.length ct)) (hts : Kd.C k50 w At ts.length ts) (hct : ts.length ≤ ct) :
    Calls Try.prog 51 #[.slice A l.length c, .func (.func 31) #[] #[.pointer (some ⟨g, 0, none⟩)]] w fun e w' => ∃ r : Int, e = .returned (.int .i64 r) ∧ (decide (0 ≤ r) = l.any (badView ts)) ∧ Below w.heap.size w w' := by
  cases l with
  | nil =>
    go_enter Try.func51, Try.ntmps51
    go_wp2
    refine wp_loop_rounds 1 ?_
    rw [rounds_succ]
    go_wp2
    go_ret
    exact ⟨-1, rfl, rfl, Below.refl _ _⟩
  | cons x0 l0 =>
  generalize hl : x0 :: l0 = l at *
  have hpos : 0 < l.length := by rw [← hl]; simp
  clear hl
  obtain ⟨ad, eA⟩ : ∃ ad, A = some ad := by
    obtain ⟨ad, h⟩ := at_T52 hr 0 (by omega) (by omega)
    obtain ⟨_, _, h, _⟩ := h; exact ⟨ad, h⟩
  subst eA
  have HR := Lib.hid hr
  have HG := Lib.hid hg
  have HTS := Lib.hid hts
  clear hr hg hts
  go_enter Try.func51, Try.ntmps51
  go_wp2
  go_loopw [8] (fun s wr => ∃ i : Nat, i ≤ l.length ∧ s = .int .i64 i ∧ Hid ((l.take i).any (badView ts) = false) ∧ Below w.heap.size w wr) (fun s _ => l.length - (intOf s).toNat)
  case atStart => exact ⟨0, by omega, rfl, Lib.hid rfl, Below.refl _ _⟩
  case round =>
    obtain ⟨i, hi, rfl, HN, hB⟩ := hrel
    by_cases hlt : i < l.length
    · obtain ⟨ad', A2, c2, e, hx0, hx1, hx2, hc0, hC0⟩ := at_T52 HR.out (i : Int) (by omega) (by omega)
      obtain rfl := Option.some.inj e
      rw [Int.toNat_natCast, rd_T52] at hx0 hx1 hx2
      rw [rd_T52] at hC0 hc0
      replace hx0 := cell_below hB hx0
      replace hx1 := cell_below hB hx1
      replace hx2 := cell_below hB hx2
      rw [Int.toNat_natCast] at hx0 hx1 hx2 hC0 hc0
      clear e
      have hsnoc : (l.take (i + 1)).any (badView ts) = (badView ts) (l.getD i z52) := by
        have := HN.out
        rw [List.take_succ_eq_append_getElem hlt, List.any_append, this]
        simp [List.getD, hlt]
      have HS := Lib.hid hsnoc
      clear hsnoc
      obtain ⟨x, hx⟩ : ∃ x, x = l.getD i z52 := ⟨_, rfl⟩
      rw [← hx] at hx0 hx1 hx2 hC0 hc0
      have HC0 := Lib.hid hC0
      clear hC0
      have HX := Lib.hid hx
      clear hx
      cases hb : (badView ts) x with
      | true =>
        have HP := Lib.hid hb
        clear hb
        have HI := Lib.hid hi
        go_wp2_with (go_at_call 31; refine (good2_calls ts At ct g x A2 c2 _ (cell_below hB HG.out) (Kd.C_below HTS.out hB) hct (Kd.C_below HC0.out hB) hc0).mono ?_; rintro e w1 ⟨rfl, hb1⟩; rw [show badView ts x = true from HP.out])
        go_ret
        refine ⟨i, rfl, ?_, hB.trans (hb1.mono hB.size)⟩
        have h1 := HS.out
        rw [← HX.out, HP.out] at h1
        have h2 : l.any (badView ts) = true := by
          rw [← List.take_append_drop (i + 1) l, List.any_append, h1]; rfl
        rw [h2]
        simp
      | false =>
        have HP := Lib.hid hb
        clear hb
        go_wp2_with (go_at_call 31; refine (good2_calls ts At ct g x A2 c2 _ (cell_below hB HG.out) (Kd.C_below HTS.out hB) hct (Kd.C_below HC0.out hB) hc0).mono ?_; rintro e w1 ⟨rfl, hb1⟩; rw [show badView ts x = false from HP.out])
        go_roundw
        case rel => exact ⟨i + 1, by omega, by go_num, Lib.hid (by rw [HS.out, ← HX.out, HP.out]), hB.trans (hb1.mono hB.size)⟩
        case measure => simp [intOf]; omega
    · have : i = l.length := by omega
      subst this
      go_wp2
      go_ret
      refine ⟨-1, rfl, ?_, hB⟩
      have := HN.out
      rw [List.take_length] at this
      rw [this]
      rfl

theorem con34 (A : Option Addr) (c : Nat) (l : List S52) (At : Option Addr) (ct g : Nat) (ts : List S50) (w : World) (hr : k52.C w A l.length l) (hm : l.length ≤ 1000) (hg : w.cell? ⟨g, 0, none⟩ = some (.slice At ts.length ct)) (hts : Kd.C k50 w At ts.length ts) (hct : ts.length ≤ ct) :
    Calls Try.prog 34 #[.slice A l.length c, .func (.func 31) #[] #[.pointer (some ⟨g, 0, none⟩)]] w fun e w' => e = .returned (.bool (l.any (badView ts))) ∧ Below w.heap.size w w' := by
  have HR := Lib.hid hr
  have HG := Lib.hid hg
  have HTS := Lib.hid hts
  clear hr hg hts
  go_enter Try.func34, Try.ntmps34
  go_wp2_with (go_at_call 51; refine (idx51 _ _ l At ct g ts _ HR.out hm HG.out HTS.out hct).mono ?_; rintro e w1 ⟨r, rfl, hr, hb1⟩; have HD := Lib.hid hr; clear hr)
  go_ret
  exact ⟨by rw [← HD.out]; rfl, hb1⟩

def goodB (ts : List S50) (vs : List S52) : Bool := decide (1 ≤ ts.length) && decide (ts.length ≤ 3) && decide (vs.length ≤ 4) && !ts.any badTable && !vs.any (badView ts)
def plan_Good.f (ts : List S50) (vs : List S52) : Option Bool := some (goodB ts vs)

end Go.Proofs.Ythhblhhbobnaiaa.Pl

namespace Go.Proofs.Ythhblhhbobnaiaa.Pl
open Go.RowKit Go.Shelf Go.Proofs.YthhblhhbobnaiaaW.PrintWords Go.Proofs.YthhblhhbobnaiaaW.PrintLast Go.Proofs.YthhblhhbobnaiaaW.PrintMore
set_option linter.unusedVariables false
set_option linter.unusedSimpArgs false

set_option maxHeartbeats 1000000 in
theorem good_len (A : Option Addr) (c : Nat) (ts : List S50) (A1 : Option Addr) (c1 : Nat) (vs : List S52) (w : World) (h : ts.length < 1 ∨ (1 ≤ ts.length ∧ 3 < ts.length) ∨ (1 ≤ ts.length ∧ ts.length ≤ 3 ∧ 4 < vs.length)) :
    Calls Try.prog 12 #[.agg #[.slice A ts.length c, .slice A1 vs.length c1]] w fun e w' => e = .returned (.bool false) ∧ Below w.heap.size w w' := by
  rcases h with h | ⟨h0, h⟩ | ⟨h0, h1, h⟩
  all_goals
    go_enter Try.func12, Try.ntmps12
    go_wp2
    go_ret
    exact ⟨rfl, (Below.refl _ _).alloc (Nat.le_refl _) _⟩

set_option maxHeartbeats 1000000 in
theorem good_any (A : Option Addr) (c : Nat) (ts : List S50) (A1 : Option Addr) (c1 : Nat) (vs : List S52) (w : World) (h0 : 1 ≤ ts.length) (h1 : ts.length ≤ 3) (h2 : vs.length ≤ 4)
    (hr : Kd.C k50 w A ts.length ts) (hc : ts.length ≤ c) (hr1 : Kd.C k52 w A1 vs.length vs) :
    Calls Try.prog 12 #[.agg #[.slice A ts.length c, .slice A1 vs.length c1]] w fun e w' => e = .returned (.bool (!ts.any badTable && !vs.any (badView ts))) ∧ Below w.heap.size w w' := by
  have hB := (Below.refl w.heap.size w).alloc (Nat.le_refl _) (.cells #[.slice A ts.length c, .slice A1 vs.length c1] 25)
  have HT := Lib.hid (Kd.C_below hr hB)
  have HV := Lib.hid (Kd.C_below hr1 hB)
  clear hr hr1 hB
  cases hb : ts.any badTable with
  | true =>
    have HA := Lib.hid hb
    clear hb
    go_enter Try.func12, Try.ntmps12
    go_wp2_with (go_at_call 33; refine (con33 _ _ ts _ HT.out (by omega)).mono ?_; rintro e w1 ⟨rfl, hb1⟩; rw [HA.out])
    go_ret
    exact ⟨rfl, alloc_below hb1⟩
  | false =>
    have HA := Lib.hid hb
    clear hb
    go_enter Try.func12, Try.ntmps12
    go_wp2_with (first
      | (go_at_call 33; refine (con33 _ _ ts _ HT.out (by omega)).mono ?_; rintro e w1 ⟨rfl, hb1⟩; rw [HA.out]; obtain ⟨hc1, hf1⟩ := bcell hb1)
      | (go_at_call 34; refine (con34 _ _ vs A c w.heap.size ts _ (Kd.C_below HV.out hb1) (by omega) ((hc1 _ _ (by simp)).trans (by go_simp)) (Kd.C_below HT.out hb1) hc).mono ?_; rintro e w2 ⟨rfl, hb2⟩))
    go_ret
    exact ⟨rfl, (alloc_below hb1).trans (hb2.mono (alloc_below hb1).size)⟩

theorem plan_Good.calls (A : Option Addr) (c : Nat) (ts : List S50) (A1 : Option Addr) (c1 : Nat) (vs : List S52) (r : Bool) (w : World) (hr : Kd.C k50 w A ts.length ts) (hc : ts.length ≤ c) (hr1 : Kd.C k52 w A1 vs.length vs) (hc1 : vs.length ≤ c1) (h : plan_Good.f ts vs = some r) :
    Calls Try.prog 12 #[.agg #[.slice A ts.length c, .slice A1 vs.length c1]] w fun e w' => e = .returned (.bool r) ∧ Below w.heap.size w w' := by
  obtain rfl := Option.some.inj h
  by_cases h0 : 1 ≤ ts.length
  · by_cases h1 : ts.length ≤ 3
    · by_cases h2 : vs.length ≤ 4
      · have e : goodB ts vs = (!ts.any badTable && !vs.any (badView ts)) := by simp [goodB, h0, h1, h2]
        rw [e]
        exact good_any _ _ _ _ _ _ _ h0 h1 h2 hr hc hr1
      · have e : goodB ts vs = false := by simp [goodB, h2]
        rw [e]
        exact good_len _ _ _ _ _ _ _ (.inr (.inr ⟨h0, h1, by omega⟩))
    · have e : goodB ts vs = false := by simp [goodB, h1]
      rw [e]
      exact good_len _ _ _ _ _ _ _ (.inr (.inl ⟨h0, by omega⟩))
  · have e : goodB ts vs = false := by simp [goodB, h0]
    rw [e]
    exact good_len _ _ _ _ _ _ _ (.inl (by omega))

end Go.Proofs.Ythhblhhbobnaiaa.Pl

