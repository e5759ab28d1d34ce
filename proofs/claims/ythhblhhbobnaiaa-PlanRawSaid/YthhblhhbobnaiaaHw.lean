/- The first call of the laws over plans, awake, returns true. -/
import Derived.Test.YthhblhhbobnaiaaHt
import Derived.Test.YthhblhhbobnaiaaHi
import Derived.Test.YthhblhhbobnaiaaHGood
import Derived.Test.YthhblhhbobnaiaaPlF7
import Derived.Test.YthhblhhbobnaiaaPlF13
import Derived.Test.YthhblhhbobnaiaaPlF19
import Derived.Test.YthhblhhbobnaiaaPlF20
import Derived.Test.YthhblhhbobnaiaaPlF21
import Derived.Test.YthhblhhbobnaiaaPlF22
import Derived.Test.YthhblhhbobnaiaaPlF23
namespace Go.Proofs.Ythhblhhbobnaiaa.Pl
open Go.RowKit Go.Shelf Go.Proofs.YthhblhhbobnaiaaW.PrintWords Go.Proofs.YthhblhhbobnaiaaW.PrintLast Go.Proofs.YthhblhhbobnaiaaW.PrintMore
set_option linter.unusedVariables false
set_option linter.unusedSimpArgs false

theorem C_new {α : Type} (d : Kd α) (W : World) (g : Nat) (cs : Array Value) (e : TypeId) (hg : W.heap[g]? = some (.cells cs e (0, 0))) (ps : List α) (hn : ps.length ≤ 9223372036854775807)
    (h : ∀ j p, ps[j]? = some p → ∃ c, c.length = d.sz ∧ d.K W p c ∧ ∀ i u, c[i]? = some u → cs[j * d.sz + i]? = some u) : d.C W (some ⟨g, 0, none⟩) ps.length ps := by
  refine ⟨rfl, hn, fun _ => ⟨_, rfl, fun j p hp => ?_⟩⟩
  obtain ⟨c, hl, hK, hc⟩ := h j p hp
  refine ⟨c, hl, hK, fun i u hu => ?_⟩
  have hx := hc i u hu
  have ea : Addr.add ⟨g, 0, none⟩ (j * d.sz + i) = ⟨g, j * d.sz + i, none⟩ := by unfold Addr.add; split <;> simp_all
  rw [ea]
  simp only [World.cell?, hg]
  exact hx

def awW (w : World) : World := (((((w.alloc (.cells #[.int .i64 1, .int .i64 1] 3)).alloc (.cells #[.slice (some ⟨w.heap.size, 0, none⟩) 2 2] 50)).alloc (.cells #[.int .i64 0] 3)).alloc
  (.cells #[.int .i64 0, .int .i64 1, .slice (some ⟨w.heap.size + 1 + 1, 0, none⟩) 1 1] 52)).alloc (.cells #[.slice (some ⟨w.heap.size + 1, 0, none⟩) 1 1, .slice (some ⟨w.heap.size + 1 + 1 + 1, 0, none⟩) 1 1] 25)).alloc
  (.cells #[.int .i64 1, .int .i64 0, .string ⟨#[]⟩, .int .i64 1, .int .i64 0, .string ⟨#[]⟩] 54)
def awT : List S50 := [⟨[1, 1]⟩]
def awV : List S52 := [⟨0, 1, [0]⟩]
def awR : List S54 := [⟨1, 0, ⟨#[]⟩⟩, ⟨1, 0, ⟨#[]⟩⟩]

theorem awW_0 (w : World) : (awW w).heap[w.heap.size]? = some (.cells #[.int .i64 1, .int .i64 1] 3 (0, 0)) := by
  unfold awW
  rw [Below.heap_alloc _ _ _ (by first | (simp; done) | (simp; omega)), Below.heap_alloc _ _ _ (by first | (simp; done) | (simp; omega)), Below.heap_alloc _ _ _ (by first | (simp; done) | (simp; omega)), Below.heap_alloc _ _ _ (by first | (simp; done) | (simp; omega)), Below.heap_alloc _ _ _ (by simp)]
  exact heap_alloc_new w _
theorem awW_1 (w : World) : (awW w).heap[w.heap.size + 1]? = some (.cells #[.slice (some ⟨w.heap.size, 0, none⟩) 2 2] 50 (0, 0)) := by
  unfold awW
  rw [Below.heap_alloc _ _ _ (by first | (simp; done) | (simp; omega)), Below.heap_alloc _ _ _ (by first | (simp; done) | (simp; omega)), Below.heap_alloc _ _ _ (by first | (simp; done) | (simp; omega)), Below.heap_alloc _ _ _ (by simp)]
  have := heap_alloc_new (w.alloc (.cells #[.int .i64 1, .int .i64 1] 3)) (.cells #[.slice (some ⟨w.heap.size, 0, none⟩) 2 2] 50)
  simpa using this
theorem awW_2 (w : World) : (awW w).heap[w.heap.size + 1 + 1]? = some (.cells #[.int .i64 0] 3 (0, 0)) := by
  unfold awW
  rw [Below.heap_alloc _ _ _ (by first | (simp; done) | (simp; omega)), Below.heap_alloc _ _ _ (by first | (simp; done) | (simp; omega)), Below.heap_alloc _ _ _ (by simp)]
  have := heap_alloc_new ((w.alloc (.cells #[.int .i64 1, .int .i64 1] 3)).alloc (.cells #[.slice (some ⟨w.heap.size, 0, none⟩) 2 2] 50)) (.cells #[.int .i64 0] 3)
  simpa using this
theorem awW_3 (w : World) : (awW w).heap[w.heap.size + 1 + 1 + 1]? = some (.cells #[.int .i64 0, .int .i64 1, .slice (some ⟨w.heap.size + 1 + 1, 0, none⟩) 1 1] 52 (0, 0)) := by
  unfold awW
  rw [Below.heap_alloc _ _ _ (by first | (simp; done) | (simp; omega)), Below.heap_alloc _ _ _ (by simp)]
  have := heap_alloc_new (((w.alloc (.cells #[.int .i64 1, .int .i64 1] 3)).alloc (.cells #[.slice (some ⟨w.heap.size, 0, none⟩) 2 2] 50)).alloc (.cells #[.int .i64 0] 3)) (.cells #[.int .i64 0, .int .i64 1, .slice (some ⟨w.heap.size + 1 + 1, 0, none⟩) 1 1] 52)
  simpa using this
theorem awW_5 (w : World) : (awW w).heap[w.heap.size + 1 + 1 + 1 + 1 + 1]? = some (.cells #[.int .i64 1, .int .i64 0, .string ⟨#[]⟩, .int .i64 1, .int .i64 0, .string ⟨#[]⟩] 54 (0, 0)) := by
  unfold awW
  have := heap_alloc_new (((((w.alloc (.cells #[.int .i64 1, .int .i64 1] 3)).alloc (.cells #[.slice (some ⟨w.heap.size, 0, none⟩) 2 2] 50)).alloc (.cells #[.int .i64 0] 3)).alloc
  (.cells #[.int .i64 0, .int .i64 1, .slice (some ⟨w.heap.size + 1 + 1, 0, none⟩) 1 1] 52)).alloc (.cells #[.slice (some ⟨w.heap.size + 1, 0, none⟩) 1 1, .slice (some ⟨w.heap.size + 1 + 1 + 1, 0, none⟩) 1 1] 25))
    (.cells #[.int .i64 1, .int .i64 0, .string ⟨#[]⟩, .int .i64 1, .int .i64 0, .string ⟨#[]⟩] 54)
  simpa using this

theorem aw_ints {W : World} {g : Nat} {cs : Array Value} {e : TypeId} (l : List Int) (hn : l.length ≤ 9223372036854775807) (hg : W.heap[g]? = some (.cells cs e (0, 0))) (h : ∀ (j : Nat) (x : Int), l[j]? = some x → cs[j]? = some (Value.int .i64 x)) : (Kd.int .i64).C W (some ⟨g, 0, none⟩) l.length l :=
  C_new _ W g cs e hg l hn fun j p hp => ⟨[.int .i64 p], rfl, rfl, fun i u hu => by
    match i, hu with
    | 0, hu => simp at hu; subst hu; show cs[j * 1 + 0]? = _; simpa using h j p hp
    | i + 1, hu => simp at hu⟩

theorem aw_tables (w : World) : Kd.C k50 (awW w) (some ⟨w.heap.size + 1, 0, none⟩) awT.length awT :=
  C_new _ _ _ _ _ (awW_1 w) awT (by decide) fun j p hp => by
    match j, hp with
    | 0, hp =>
      simp [awT] at hp
      subst hp
      refine ⟨_, rfl, k50_mk _ _ (c0 := 2) (by decide) (aw_ints [1, 1] (by decide) (awW_0 w) (fun j x hx => ?_)), fun i u hu => ?_⟩
      · match j, hx with
        | 0, hx => simp at hx; subst hx; rfl
        | 1, hx => simp at hx; subst hx; rfl
        | j + 2, hx => simp at hx
      · match i, hu with
        | 0, hu => simp at hu; subst hu; rfl
        | i + 1, hu => simp at hu
    | j + 1, hp => simp [awT] at hp

theorem aw_views (w : World) : Kd.C k52 (awW w) (some ⟨w.heap.size + 1 + 1 + 1, 0, none⟩) awV.length awV :=
  C_new _ _ _ _ _ (awW_3 w) awV (by decide) fun j p hp => by
    match j, hp with
    | 0, hp =>
      simp [awV] at hp
      subst hp
      refine ⟨_, rfl, k52_mk _ _ (c2 := 1) (by decide) (aw_ints [0] (by decide) (awW_2 w) (fun j x hx => ?_)), fun i u hu => ?_⟩
      · match j, hx with
        | 0, hx => simp at hx; subst hx; rfl
        | j + 1, hx => simp at hx
      · match i, hu with
        | 0, hu => simp at hu; subst hu; rfl
        | 1, hu => simp at hu; subst hu; rfl
        | 2, hu => simp at hu; subst hu; rfl
        | i + 3, hu => simp at hu
    | j + 1, hp => simp [awV] at hp

theorem aw_row (w : World) : Kd.C k54 (awW w) (some ⟨w.heap.size + 1 + 1 + 1 + 1 + 1, 0, none⟩) awR.length awR :=
  C_new _ _ _ _ _ (awW_5 w) awR (by decide) fun j p hp => by
    match j, hp with
    | 0, hp =>
      simp [awR] at hp
      subst hp
      refine ⟨_, rfl, k54_mk _ _, fun i u hu => ?_⟩
      match i, hu with
      | 0, hu => simp at hu; subst hu; rfl
      | 1, hu => simp at hu; subst hu; rfl
      | 2, hu => simp at hu; subst hu; rfl
      | i + 3, hu => simp at hu
    | 1, hp =>
      simp [awR] at hp
      subst hp
      refine ⟨_, rfl, k54_mk _ _, fun i u hu => ?_⟩
      match i, hu with
      | 0, hu => simp at hu; subst hu; rfl
      | 1, hu => simp at hu; subst hu; rfl
      | 2, hu => simp at hu; subst hu; rfl
      | i + 3, hu => simp at hu
    | j + 2, hp => simp [awR] at hp

def aw9 : ByteArray := intB 0
theorem entry_awake : plan_Entry.f 10 awT awV 0 awR = some (aw9, aw9, false, 0) := by decide +kernel
theorem nothing_awake : plan_Nothing.f 1 = some (0, 0, [⟨0, 0⟩]) := by kernel_rfl
def aw32 : ByteArray := ⟨(List.replicate 32 (0 : UInt8)).toArray⟩
def aw16 : ByteArray := ⟨(List.replicate 16 (0 : UInt8)).toArray⟩
theorem total_awake : plan_Total.f 10 0 0 [⟨0, 0⟩] = some aw32 := by decide +kernel
theorem read_awake : wide_Read.f aw16 = some (0, 0, 0) := by decide +kernel
theorem good_awake : plan_Good.f awT awV = some true := by decide +kernel
theorem nothing2_awake : plan_IsNothing.f 0 0 [⟨0, 0⟩] = some true := by decide +kernel


theorem awW_4 (w : World) : (awW w).heap[w.heap.size + 1 + 1 + 1 + 1]? = some (.cells #[.slice (some ⟨w.heap.size + 1, 0, none⟩) 1 1, .slice (some ⟨w.heap.size + 1 + 1 + 1, 0, none⟩) 1 1] 25 (0, 0)) := by
  unfold awW
  rw [Below.heap_alloc _ _ _ (by simp)]
  have := heap_alloc_new ((((w.alloc (.cells #[.int .i64 1, .int .i64 1] 3)).alloc (.cells #[.slice (some ⟨w.heap.size, 0, none⟩) 2 2] 50)).alloc (.cells #[.int .i64 0] 3)).alloc
    (.cells #[.int .i64 0, .int .i64 1, .slice (some ⟨w.heap.size + 1 + 1, 0, none⟩) 1 1] 52)) (.cells #[.slice (some ⟨w.heap.size + 1, 0, none⟩) 1 1, .slice (some ⟨w.heap.size + 1 + 1 + 1, 0, none⟩) 1 1] 25)
  simpa using this
theorem awW_size (w : World) : (awW w).heap.size = w.heap.size + 6 := by unfold awW; simp
theorem awW_below (w : World) : Below w.heap.size w (awW w) := by
  unfold awW
  exact ((((((Below.refl _ _).alloc (Nat.le_refl _) _).alloc (by simp) _).alloc (by simp; omega) _).alloc (by simp; omega) _).alloc (by simp; omega) _).alloc (by simp; omega) _

theorem lt_of_heap {w : World} {g : Nat} {o : Obj} (h : w.heap[g]? = some o) : g < w.heap.size := by
  rcases Nat.lt_or_ge g w.heap.size with h1 | h1
  · exact h1
  · rw [Array.getElem?_eq_none h1] at h; simp at h
theorem awblk_below {w w1 : World} {g : Nat} {o : Obj} (hb : Below w.heap.size w w1) (h : w.heap[g]? = some o) : w1.heap[g]? = some o := (hb.block g (lt_of_heap h)).trans h
theorem awblk_al {w : World} {g : Nat} {o p : Obj} (h : w.heap[g]? = some o) : (w.alloc p).heap[g]? = some o := (Below.heap_alloc w p g (lt_of_heap h)).trans h
theorem blk_cell2 {w : World} {g : Nat} {a b : Value} {t : TypeId} (h : w.heap[g]? = some (.cells #[a, b] t (0, 0))) : w.cell? ⟨g, 0, none⟩ = some a ∧ w.cell? ⟨g, 1, none⟩ = some b := by simp [World.cell?, h]
theorem blk_cell3 {w : World} {g : Nat} {a b c : Value} {t : TypeId} (h : w.heap[g]? = some (.cells #[a, b, c] t (0, 0))) : w.cell? ⟨g, 0, none⟩ = some a ∧ w.cell? ⟨g, 1, none⟩ = some b ∧ w.cell? ⟨g, 2, none⟩ = some c := by simp [World.cell?, h]

theorem aw_sl1 : ∀ W, (Instr.slice 9 (.string aw32) none (some (.int .i64 16)) none).run Try.prog W = .ok (.string aw16) W := fun _ => by kernel_rfl
theorem aw_sl2 : ∀ W, (Instr.slice 9 (.string aw32) (some (.int .i64 16)) none none).run Try.prog W = .ok (.string aw16) W := fun _ => by kernel_rfl
theorem aw_sl3 : ∀ W, (Instr.slice 9 (.string aw16) none (some (.int .i64 16)) none).run Try.prog W = .ok (.string aw16) W := fun _ => by kernel_rfl
theorem aw_sl4 : ∀ W, (Instr.slice 9 (.string aw16) (some (.int .i64 16)) none none).run Try.prog W = .ok (.string ⟨#[]⟩) W := fun _ => by kernel_rfl
theorem aw_rt (w : World) : Calls Try.prog 18 #[.string aw32, .int .i64 1] w fun e w' => ∃ (A : Addr) (c : Nat), e = .returned (.tuple #[.agg #[.int .i64 0, .int .u64 0, .slice (some A) 1 c], .int .i64 0]) ∧ 1 ≤ c ∧ w'.cell? A = some (.int .i64 0) ∧ w'.cell? ⟨A.block, A.off + 1, none⟩ = some (.int .u64 0) ∧ Below w.heap.size w w' :=
  readTotal_zero aw32 aw16 aw16 w (by decide) (by decide +kernel) (by decide +kernel) read_awake read_awake aw_sl1 aw_sl2 aw_sl3 aw_sl4

set_option maxHeartbeats 4000000 in
set_option maxRecDepth 10000 in
theorem awake_any (w : World) : Calls Try.prog 5 #[] w fun e w' => e = .returned (.bool true) ∧ Below w.heap.size w w' := by
  have HT := Lib.hid (aw_tables w)
  have HV := Lib.hid (aw_views w)
  have HR := Lib.hid (aw_row w)
  have H9 : Hid (aw9.size = 9) := Lib.hid rfl
  go_enter Try.func5, Try.ntmps5
  go_wp2_with fail
  refine (plan_Entry.calls 10 _ _ awT _ _ awV _ _ _ awR _ _ _ _ _ HT.out (by decide) HV.out (by decide) HR.out (by decide) entry_awake).mono ?_
  rintro e w1 ⟨rfl, hb1⟩
  have P1 := Lib.hid (awblk_below hb1 (awW_4 w))
  have B1 := Lib.hid hb1
  have z1 : w.heap.size + 5 < w1.heap.size := by have := hb1.size; rw [awW_size] at this; omega
  clear hb1
  go_wp2_with fail
  refine (plan_Nothing.calls _ _ _ _ _ nothing_awake).mono ?_
  rintro e w2 ⟨v2, rfl, hR2, hb2⟩
  obtain ⟨A2, c2, rfl, hl2, hC2⟩ := Kd.R_reads hR2
  have P2 := Lib.hid (awblk_below hb2 (awblk_al P1.out))
  have E2 := Lib.hid (awblk_below hb2 (heap_alloc_new w1 _))
  have B2 := Lib.hid (B1.out.trans ((alloc_below hb2).mono B1.out.size))
  have HC2 := Lib.hid hC2
  clear hb2 hR2 hC2
  go_wp2_with fail
  refine (plan_Total.calls 10 0 0 _ _ [⟨0, 0⟩] _ _ HC2.out hl2 total_awake).mono ?_
  rintro e w3 ⟨rfl, hb3⟩
  have P3 := Lib.hid (awblk_below hb3 P2.out)
  have E3 := Lib.hid (awblk_below hb3 E2.out)
  have B3 := Lib.hid (B2.out.trans (hb3.mono B2.out.size))
  clear hb3
  go_wp2_with fail
  refine (aw_rt _).mono ?_
  rintro e w4 ⟨A4, c4, rfl, hc4, k0, k1, hb4⟩
  have hN : Kd.C k57 w4 (some A4) 1 [⟨0, 0⟩] := by
    refine ⟨rfl, by omega, fun _ => ⟨_, rfl, fun j p hp => ?_⟩⟩
    match j, hp with
    | 0, hp =>
      simp at hp
      subst hp
      refine ⟨_, rfl, k57_mk _ _, fun i u hu => ?_⟩
      match i, hu with
      | 0, hu => simp at hu; subst hu; exact k0
      | 1, hu => simp at hu; subst hu; exact k1
      | i + 2, hu => simp at hu
    | j + 1, hp => simp at hp
  have P4 := Lib.hid (awblk_below hb4 P3.out)
  have E4 := Lib.hid (awblk_below hb4 E3.out)
  have B4 := Lib.hid (B3.out.trans (hb4.mono B3.out.size))
  have z4 : w.heap.size + 5 < w4.heap.size := by have := B4.out.size; rw [awW_size] at this; omega
  have hN5 := Lib.hid (Kd.C_below hN ((Below.refl w4.heap.size w4).alloc (Nat.le_refl _) (.cells #[.int .i64 0, .int .u64 0, .slice (some A4) 1 c4] 60)))
  have B5 := Lib.hid (B4.out.alloc B4.out.size (.cells #[.int .i64 0, .int .u64 0, .slice (some A4) 1 c4] 60))
  have P5 := Lib.hid (awblk_al (p := .cells #[.int .i64 0, .int .u64 0, .slice (some A4) 1 c4] 60) P4.out)
  have E5 := Lib.hid (awblk_al (p := .cells #[.int .i64 0, .int .u64 0, .slice (some A4) 1 c4] 60) E4.out)
  have T5 := Lib.hid (heap_alloc_new w4 (.cells #[.int .i64 0, .int .u64 0, .slice (some A4) 1 c4] 60))
  clear k0 k1 hb4 hN
  obtain ⟨p0, p1⟩ := blk_cell2 P5.out
  go_wp2_with fail
  clear p0 p1
  refine (plan_Good.calls _ 1 awT _ 1 awV true _ (Kd.C_below HT.out B5.out) (by decide) (Kd.C_below HV.out B5.out) (by decide) good_awake).mono ?_
  rintro e w6 ⟨rfl, hb6⟩
  have P6 := Lib.hid (awblk_below hb6 P5.out)
  have E6 := Lib.hid (awblk_below hb6 E5.out)
  have T6 := Lib.hid (awblk_below hb6 T5.out)
  have B6 := Lib.hid (B5.out.trans (hb6.mono B5.out.size))
  have N6 := Lib.hid (Kd.C_below hN5.out hb6)
  obtain ⟨p0, p1⟩ := blk_cell2 P6.out
  clear hb6
  go_wp2_with fail
  clear p0 p1
  refine (plan_Trees.calls _ 1 awT _ 1 awV 2 _ (Kd.C_below HT.out B6.out) (by decide) (Kd.C_below HV.out B6.out) (by decide) (by decide +kernel)).mono ?_
  rintro e w7 ⟨rfl, hb7⟩
  have P7 := Lib.hid (awblk_below hb7 P6.out)
  have E7 := Lib.hid (awblk_below hb7 E6.out)
  have T7 := Lib.hid (awblk_below hb7 T6.out)
  have B7 := Lib.hid (B6.out.trans (hb7.mono B6.out.size))
  have N7 := Lib.hid (Kd.C_below N6.out hb7)
  obtain ⟨p0, p1⟩ := blk_cell2 P7.out
  clear hb7
  go_wp2_with fail
  clear p0 p1
  refine (plan_View.calls _ 1 awT _ 1 awV 0 1 _ (Kd.C_below HT.out B7.out) (by decide) (Kd.C_below HV.out B7.out) (by decide) (by decide +kernel)).mono ?_
  rintro e w8 ⟨rfl, hb8⟩
  have P8 := Lib.hid (awblk_below hb8 P7.out)
  have E8 := Lib.hid (awblk_below hb8 E7.out)
  have T8 := Lib.hid (awblk_below hb8 T7.out)
  have B8 := Lib.hid (B7.out.trans (hb8.mono B7.out.size))
  have N8 := Lib.hid (Kd.C_below N7.out hb8)
  obtain ⟨p0, p1⟩ := blk_cell2 P8.out
  clear hb8
  go_wp2_with fail
  clear p0 p1
  refine (plan_Free.calls _ 1 awT _ 1 awV 3 _ (Kd.C_below HT.out B8.out) (by decide) (Kd.C_below HV.out B8.out) (by decide) (by decide +kernel)).mono ?_
  rintro e w9 ⟨rfl, hb9⟩
  have P9 := Lib.hid (awblk_below hb9 P8.out)
  have E9 := Lib.hid (awblk_below hb9 E8.out)
  have T9 := Lib.hid (awblk_below hb9 T8.out)
  have B9 := Lib.hid (B8.out.trans (hb9.mono B8.out.size))
  have N9 := Lib.hid (Kd.C_below N8.out hb9)
  obtain ⟨p0, p1⟩ := blk_cell2 P9.out
  clear hb9
  go_wp2_with fail
  clear p0 p1
  refine (plan_Root.calls 1 2 _ (by decide +kernel)).mono ?_
  rintro e w10 ⟨rfl, hd10⟩
  have hb10 := hd10.below
  have P10 := Lib.hid (awblk_below hb10 P9.out)
  have E10 := Lib.hid (awblk_below hb10 E9.out)
  have T10 := Lib.hid (awblk_below hb10 T9.out)
  have B10 := Lib.hid (B9.out.trans (hb10.mono B9.out.size))
  have N10 := Lib.hid (Kd.C_below N9.out hb10)
  clear hb10 hd10
  obtain ⟨e0, e1, e2⟩ := blk_cell3 E10.out
  obtain ⟨t0, t1, t2⟩ := blk_cell3 T10.out
  have h9 := H9.out
  go_wp2_with fail
  refine (plan_IsNothing.calls 0 0 _ _ [⟨0, 0⟩] true _ N10.out ?_ nothing2_awake).mono ?_
  · exact hc4
  rintro e w11 ⟨rfl, hb11⟩
  go_wp2_with fail
  go_ret
  exact ⟨rfl, (awW_below w).trans ((B10.out.trans (hb11.mono B10.out.size)).mono (awW_below w).size)⟩

def gaugerlaw17_awake.f : Option Bool := some true
theorem gaugerlaw17_awake.calls (r : Bool) (w : World) (h : gaugerlaw17_awake.f = some r) :
    Calls Try.prog 5 #[] w fun e w' => e = .returned (.bool r) ∧ Below w.heap.size w w' := by
  obtain rfl := Option.some.inj h
  exact awake_any w

end Go.Proofs.Ythhblhhbobnaiaa.Pl
