/- The contract of plan.ReadTotal at the bytes of a total of nothing with one sum, for the law's first call. -/
import Derived.Test.YthhblhhbobnaiaaHCode
import Derived.Test.YthhblhhbobnaiaaPlF39
import Derived.OwnWalk
import Derived.Laws.AppendOwn
import Derived.RegionTactic
import Derived.WalkSmall
import Derived.BigRegion
import Derived.Laws.OwnMore
namespace Go.Proofs.Ythhblhhbobnaiaa.Pl
open Go.RowKit Go.Shelf Go.Proofs.YthhblhhbobnaiaaW.PrintWords Go.Proofs.YthhblhhbobnaiaaW.PrintLast Go.Proofs.YthhblhhbobnaiaaW.PrintMore
set_option linter.unusedVariables false
set_option linter.unusedSimpArgs false

theorem two_at (w1 : World) : ∀ j u, [Value.int .i64 0, .int .u64 0][j]? = some u → ((w1.alloc (.cells #[.int .i64 0, .int .u64 0] 57)).alloc (.cells #[.int .i64 0, .int .u64 0] 57)).cell? ((⟨w1.heap.size + 1, 0, none⟩ : Addr).add j) = some u := by
  intro j u h
  have := cell_two_new (w1.alloc (.cells #[.int .i64 0, .int .u64 0] 57)) (.int .i64 0) (.int .u64 0) 57 j u h
  simpa using this

set_option maxHeartbeats 2000000 in
set_option maxRecDepth 10000 in
theorem readTotal_zero (s a b : ByteArray) (w : World) (hsz : ((s.size : Int) != 32) = false) (hs0 : (s.toList == []) = false) (hb0 : (b.toList == []) = false)
    (ha : wide_Read.f a = some (0, 0, 0)) (hb : wide_Read.f b = some (0, 0, 0))
    (h1 : ∀ W, (Instr.slice 9 (.string s) none (some (.int .i64 16)) none).run Try.prog W = .ok (.string a) W)
    (h2 : ∀ W, (Instr.slice 9 (.string s) (some (.int .i64 16)) none none).run Try.prog W = .ok (.string b) W)
    (h3 : ∀ W, (Instr.slice 9 (.string b) none (some (.int .i64 16)) none).run Try.prog W = .ok (.string b) W)
    (h4 : ∀ W, (Instr.slice 9 (.string b) (some (.int .i64 16)) none none).run Try.prog W = .ok (.string ⟨#[]⟩) W) :
    Calls Try.prog 18 #[.string s, .int .i64 1] w fun e w' => ∃ (A : Addr) (c : Nat), e = .returned (.tuple #[.agg #[.int .i64 0, .int .u64 0, .slice (some A) 1 c], .int .i64 0]) ∧ 1 ≤ c ∧ w'.cell? A = some (.int .i64 0) ∧ w'.cell? ⟨A.block, A.off + 1, none⟩ = some (.int .u64 0) ∧ Below w.heap.size w w' := by
  obtain ⟨i0, hi, hz0, hz1, hz2⟩ := info_parts info57
  have HA := Lib.hid ha
  have HB := Lib.hid hb
  clear ha hb
  go_enter Try.func18, Try.ntmps18
  go_wp2_with fail
  refine wp_loop_rounds 3 ?_
  rw [rounds_succ]
  go_wp2_with fail
  refine (wide_Read.calls _ _ _ _ _ HA.out).mono ?_
  rintro e w1 ⟨rfl, hb1⟩
  have hu57 : Try.prog.underlying 57 = _ := Try.underlying57
  go_wp2_with (at_builtin; refine wpList_append_own _ rfl _ _ 58 rfl w.heap.size 57 i0 (.agg #[.int .i64 0, .int .u64 0]) 2 16 Try.underlying58 hi hz0 hz1 hz2 rfl (by decide) (.slice none 0 0) 0 [] rfl (World.ownsRow_nil _ _ _ _) _ 1 1 [.int .i64 0, .int .u64 0] rfl rfl ?c1 ?c2 ?c3 ?c4 ?c5 ?_)
  case c1 => exact two_at _
  case c2 => simp [Value.oneCell']
  case c3 => unfold maxLen; omega
  case c4 => omega
  case c5 => have := alloc_le hb1; simp; omega
  intro v2 w2 hown2 hg2 _
  have hB1 := alloc_below hb1
  have hB2 : Below w.heap.size w w2 := ((hB1.alloc hB1.size _).alloc (by have := hB1.size; simp; omega) _).grown hg2 (by have := hB1.size; simp; omega) (by simp [Value.ownBlock])
  have hc1 : w1.heap[w.heap.size]? = some (.cells #[.int .i64 0, .int .u64 0, .slice none 0 0] 60 (0, 0)) := (hb1.block _ (by simp)).trans (heap_alloc_new w _)
  have hc2 : w2.heap[w.heap.size]? = some (.cells #[.int .i64 0, .int .u64 0, .slice none 0 0] 60 (0, 0)) := by
    have := alloc_le hb1
    rw [hg2.block _ (by simp; omega) (by simp [Value.ownBlock]), Below.heap_alloc _ _ _ (by simp; omega), Below.heap_alloc _ _ _ (by omega), hc1]
  have HC2 := Lib.hid hc2
  have HO2 := Lib.hid hown2
  have HB2 := Lib.hid hB2
  clear hc1 hc2 hown2 hg2 hb1 hB1 hB2
  go_wp2_with fail
  rw [rounds_succ]
  go_wp2_with fail
  refine (wide_Read.calls _ _ _ _ _ HB.out).mono ?_
  rintro e w3 ⟨rfl, hb3⟩
  have HO3 := HO2.out.kept (row := none) ⟨hb3.os, hb3.tape, hb3.output, hb3.size, fun k hk _ => hb3.block k hk⟩ (Classical.em _)
  go_wp2_with (at_builtin; refine wpList_append_own _ rfl _ _ 58 rfl w.heap.size 57 i0 (.agg #[.int .i64 0, .int .u64 0]) 2 16 Try.underlying58 hi hz0 hz1 hz2 rfl (by decide) v2 1 _ rfl ((HO3.alloc _).alloc _) _ 1 1 [.int .i64 0, .int .u64 0] rfl rfl ?c1 ?c2 ?c3 ?c4 ?c5 ?_)
  case c1 => exact two_at _
  case c2 => simp [Value.oneCell']
  case c3 => unfold maxLen; omega
  case c4 => omega
  case c5 => have := hb3.size; have := HB2.out.size; simp; omega
  intro v4 w4 hown4 hg4 _
  have hB3 := HB2.out.trans (hb3.mono HB2.out.size)
  have hlt : w.heap.size < w2.heap.size := by
    rcases Nat.lt_or_ge w.heap.size w2.heap.size with h | h
    · exact h
    · have := HC2.out; rw [Array.getElem?_eq_none h] at this; simp at this
  have hown_ne : v2.ownBlock ≠ some w.heap.size := by
    intro he
    obtain ⟨g, cap, hv, _, _⟩ := HO2.out.form (by omega)
    have hh := HO2.out
    rcases hh.2 with ⟨h0, _⟩ | ⟨g', cap', cur, hv', _, hcur, _⟩
    · rw [h0] at he; simp [Value.ownBlock] at he
    · rw [hv'] at he
      simp [Value.ownBlock] at he
      subst he
      rw [HC2.out] at hcur
      simp at hcur
  have hc4 : w4.heap[w.heap.size]? = some (.cells #[.int .i64 0, .int .u64 0, .slice none 0 0] 60 (0, 0)) := by
    have := hb3.size
    rw [hg4.block _ (by simp; omega) (fun h => hown_ne h.symm), Below.heap_alloc _ _ _ (by simp; omega), Below.heap_alloc _ _ _ (by omega), hb3.block _ hlt, HC2.out]
  have hB4 : Below w.heap.size w w4 := ((hB3.alloc hB3.size _).alloc (by have := hB3.size; simp; omega) _).grown hg4 (by have := hB3.size; simp; omega) (fun k hk => by
    obtain ⟨g, cap, hv, hbase, _⟩ := HO2.out.form (by omega)
    rw [hv] at hk
    simp [Value.ownBlock] at hk
    omega)
  obtain ⟨g, cap, hv4, hbg, h2cap, hgne⟩ : ∃ g cap, v4 = .slice (some ⟨g, 0, none⟩) 2 cap ∧ w.heap.size ≤ g ∧ 2 ≤ cap ∧ g ≠ w.heap.size := by
    rcases hown4.2 with ⟨h0, _⟩ | ⟨g', cap', cur, hv', hb', hcur, hle, _⟩
    · have := hown4.form (by omega)
      obtain ⟨g, cap, hv, _⟩ := this
      rw [hv] at h0
      simp at h0
    · refine ⟨g', cap', hv', hb', hle, ?_⟩
      rintro rfl
      rw [hc4] at hcur
      simp at hcur
  subst hv4
  have k0 : w4.cell? ⟨g, 0, none⟩ = some (.int .i64 0) := by have := hown4.cells (g := g) rfl 0 (.int .i64 0) rfl; simpa [Addr.add] using this
  have k1 : w4.cell? ⟨g, 1, none⟩ = some (.int .u64 0) := by have := hown4.cells (g := g) rfl 1 (.int .u64 0) rfl; simpa [Addr.add] using this
  have k2 : w4.cell? ⟨g, 2, none⟩ = some (.int .i64 0) := by have := hown4.cells (g := g) rfl 2 (.int .i64 0) rfl; simpa [Addr.add] using this
  have k3 : w4.cell? ⟨g, 3, none⟩ = some (.int .u64 0) := by have := hown4.cells (g := g) rfl 3 (.int .u64 0) rfl; simpa [Addr.add] using this
  have r0 : w4.cell? ⟨w.heap.size, 0, none⟩ = some (.int .i64 0) := by simp [World.cell?, hc4]
  have r1 : w4.cell? ⟨w.heap.size, 1, none⟩ = some (.int .u64 0) := by simp [World.cell?, hc4]
  have r2 : w4.cell? ⟨w.heap.size, 2, none⟩ = some (.slice none 0 0) := by simp [World.cell?, hc4]
  have f0 : w4.frozen? ⟨w.heap.size, 0, none⟩ = false := by simp [World.frozen?, hc4]
  have f1 : w4.frozen? ⟨w.heap.size, 1, none⟩ = false := by simp [World.frozen?, hc4]
  have f2 : w4.frozen? ⟨w.heap.size, 2, none⟩ = false := by simp [World.frozen?, hc4]
  have HB4 := Lib.hid hB4
  clear hB4 hc4 hown_ne hlt hB3 hg4 HO3 hb3 HO2 HC2 HB2 hown4 HA HB
  go_wp2_with fail
  rw [rounds_succ]
  go_wp2_with fail
  go_region
  all_goals
    go_wp2
    refine bodyPost_ret (v := .tuple #[.agg #[.int .i64 0, .int .u64 0, .slice (some ⟨g, 2, none⟩) 1 (cap - 1)], .int .i64 0]) (by simp [results, Try.results18, go_sem, r0, r1, r2]) rfl ⟨_, _, rfl, by omega, ?_, ?_, ?_⟩
    · simp [go_sem, hgne, Ne.symm hgne, k2]
    · simp [go_sem, hgne, Ne.symm hgne, k3]
    · exact (((HB4.out.setCell (by simp) _).setCell (by simp) _).setCell (by simp) _).drew
end Go.Proofs.Ythhblhhbobnaiaa.Pl
