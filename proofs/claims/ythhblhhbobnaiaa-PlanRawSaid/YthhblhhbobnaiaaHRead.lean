/- The contract of wide.get, written by hand in the form of the printed ones; no condition. The contract of sign.Read, written by hand in the form of the printed ones; no condition. -/
import Derived.Test.YthhblhhbobnaiaaHCode
import Derived.Lib.ConvBytes
import Derived.Deep.DeepCutAuto
namespace Go.Proofs.Ythhblhhbobnaiaa.Pl
open Go.RowKit Go.Shelf Go.Proofs.YthhblhhbobnaiaaW.PrintWords Go.Proofs.YthhblhhbobnaiaaW.PrintLast Go.Proofs.YthhblhhbobnaiaaW.PrintMore
set_option linter.unusedVariables false
set_option linter.unusedSimpArgs false

theorem conv_new (s : ByteArray) (w : World) : ∃ (cap : Nat) (w1 : World), (convert 9 90 (.string s)).run Try.prog w = .ok (.slice (some ⟨w.heap.size, 0, none⟩) s.size cap) w1 ∧
    Below w.heap.size w w1 ∧ w1.heap.size = w.heap.size + 1 ∧ ∀ j, j < s.size → w1.cell? ⟨w.heap.size, j, none⟩ = some (.int .u8 (s.data.toList.getD j 0).toNat) :=
  ⟨_, _, Lib.run_convert_string_bytes w 9 90 5 s Try.underlying9 Try.underlying90 Try.underlying5,
    ⟨rfl, rfl, rfl, by rw [Lib.bytesWorld_size]; omega, fun i hi => Lib.bytesWorld_at_old w 5 s i hi⟩, Lib.bytesWorld_size w 5 s, fun j hj => Lib.bytesWorld_cell w 5 s j hj⟩

def foldB : List UInt8 → Int → Int
  | [], u => u
  | b :: r, u => foldB r (Go.bits .or .u64 (IntKind.u64.wrap (u * 256)) (IntKind.u64.wrap b.toNat))

set_option maxHeartbeats 1000000 in
theorem wide_get_any (s : ByteArray) (w : World) (hs : s.size ≤ 4611686018427387904) :
    Calls Try.prog 57 #[.string s] w fun e w' => e = .returned (.int .u64 (foldB s.data.toList 0)) ∧ Below w.heap.size w w' := by
  obtain ⟨cap, w1, hrun, hbel, hsz, hcell⟩ := conv_new s w
  have HCELL := Lib.hid hcell
  clear hcell
  go_enter Try.func57, Try.ntmps57
  go_wp2
  go_loopw [3, 9] (fun u9 s9 wr => ∃ (i : Nat) (x : Int), i ≤ s.size ∧ s9 = .int .i64 i ∧ u9 = .int .u64 x ∧ Hid (foldB (s.data.toList.drop i) x = foldB s.data.toList 0) ∧ wr = w1) (fun _ t _ => s.size - (intOf t).toNat)
  case atStart => exact ⟨0, 0, by omega, rfl, rfl, Lib.hid (by rw [List.drop_zero]), rfl⟩
  case round =>
    obtain ⟨i, x, hi, rfl, rfl, HF, rfl⟩ := hrel
    by_cases hlt : i < s.size
    · have hx := HCELL.out i hlt
      obtain ⟨b, hb⟩ : ∃ b, b = s.data.toList.getD i 0 := ⟨_, rfl⟩
      rw [← hb] at hx
      have HB := Lib.hid hb
      clear hb
      go_wp2
      go_roundw
      case rel =>
        refine ⟨i + 1, _, by omega, by go_num, rfl, Lib.hid ?_, trivial⟩
        rw [← HF.out, List.drop_eq_getElem_cons (show i < s.data.toList.length by simpa using hlt), foldB]
        have : s.data.toList[i]'(by simpa using hlt) = b := by rw [HB.out]; simp [List.getD, hlt]
        rw [this]
      case measure => simp [intOf]; omega
    · have : i = s.size := by omega
      subst this
      go_wp2
      go_ret
      have := HF.out
      rw [List.drop_of_length_le (by simp)] at this
      exact ⟨by rw [← this]; rfl, hbel⟩

def wide_get.f (a0 : ByteArray) : Option Int := if a0.size ≤ 4611686018427387904 then some (foldB a0.data.toList 0) else none
theorem wide_get.calls (a0 : ByteArray) (r : Int) (w : World) (h : wide_get.f a0 = some r) :
    Calls Try.prog 57 #[.string a0] w fun e w' => e = .returned (.int .u64 r) ∧ Below w.heap.size w w' := by
  unfold wide_get.f at h
  split at h
  · obtain rfl := Option.some.inj h
    exact wide_get_any a0 w ‹_›
  · simp at h

end Go.Proofs.Ythhblhhbobnaiaa.Pl

namespace Go.Proofs.Ythhblhhbobnaiaa.Pl
open Go.RowKit Go.Shelf Go.Proofs.YthhblhhbobnaiaaW.PrintWords Go.Proofs.YthhblhhbobnaiaaW.PrintLast Go.Proofs.YthhblhhbobnaiaaW.PrintMore
set_option linter.unusedVariables false
set_option linter.unusedSimpArgs false

theorem conv_at (t : ByteArray) (W : World) : (convert 9 90 (.string t)).run Try.prog W = .ok (.slice (some ⟨W.heap.size, 0, none⟩) t.size (grownCap W t.size 0 5)) (Lib.bytesWorld W 5 t) :=
  Lib.run_convert_string_bytes W 9 90 5 t Try.underlying9 Try.underlying90 Try.underlying5

theorem read_short (s : ByteArray) (w : World) (h : ((s.size : Int) != 9) = true) :
    Calls Try.prog 45 #[.string s] w fun e w' => e = .returned (.tuple #[.agg #[.int .i64 0, .int .i64 0, .string ⟨#[]⟩], .int .i64 3]) ∧ Below w.heap.size w w' := by
  go_enter Try.func45, Try.ntmps45
  go_wp2
  exact bodyPost_ret (v := .tuple #[.agg #[.int .i64 0, .int .i64 0, .string ⟨#[]⟩], .int .i64 3]) (by simp [results, Try.results45, go_sem]) rfl ⟨rfl, (Below.refl _ _).alloc (Nat.le_refl _) _⟩

/-- What behind a call of sign.Code the two structs hold. -/
theorem two_after {w wr w2 : World} {a0 b0 : Value} {a1 a2 b1 b2 b1' : Value} (c0 : wr.cell? ⟨w.heap.size, 0, none⟩ = some a0) (c1 : wr.cell? ⟨w.heap.size, 1, none⟩ = some a1) (c2 : wr.cell? ⟨w.heap.size, 2, none⟩ = some a2)
    (d0 : wr.cell? ⟨w.heap.size + 1, 0, none⟩ = some b0) (d1 : wr.cell? ⟨w.heap.size + 1, 1, none⟩ = some b1) (d2 : wr.cell? ⟨w.heap.size + 1, 2, none⟩ = some b2)
    (hb : Below (wr.setCell ⟨w.heap.size + 1, 1, none⟩ b1').heap.size (wr.setCell ⟨w.heap.size + 1, 1, none⟩ b1') w2) :
    w2.cell? ⟨w.heap.size, 0, none⟩ = some a0 ∧ w2.cell? ⟨w.heap.size, 1, none⟩ = some a1 ∧ w2.cell? ⟨w.heap.size, 2, none⟩ = some a2 ∧
    w2.cell? ⟨w.heap.size + 1, 0, none⟩ = some b0 ∧ w2.cell? ⟨w.heap.size + 1, 1, none⟩ = some b1' ∧ w2.cell? ⟨w.heap.size + 1, 2, none⟩ = some b2 := by
  refine ⟨cell_below hb ?_, cell_below hb ?_, cell_below hb ?_, cell_below hb ?_, cell_below hb ?_, cell_below hb ?_⟩ <;> go_simp
theorem frz_after {W w2 : World} {a : Addr} {v : Value} (hb : Below W.heap.size W w2) (hc : W.cell? a = some v) (hf : W.frozen? a = false) : w2.frozen? a = false :=
  (hb.frozen (cell_lt hc)).trans hf

/-- What sign.Read hands back: the value, if its bytes are these; else none. -/
def readEnd (s : ByteArray) (k n : Int) (t rc : ByteArray) (re : Int) : Value :=
  if re = 0 ∧ rc = s then .tuple #[.agg #[.int .i64 k, .int .i64 n, .string t], .int .i64 0] else .tuple #[.agg #[.int .i64 0, .int .i64 0, .string ⟨#[]⟩], .int .i64 3]
theorem str_eq {a b : ByteArray} (h : (!(a.toList == b.toList)) = false) : a = b := by
  simp at h
  rw [ByteArray.toList_eq, ByteArray.toList_eq] at h
  exact ByteArray.ext (Array.toList_inj.1 h)
theorem str_ne {a b : ByteArray} (h : (!(a.toList == b.toList)) = true) : a ≠ b := by
  rintro rfl
  simp at h
theorem readEnd_ok {s t rc : ByteArray} {k n re : Int} (h : re = 0) (h2 : (!(rc.toList == s.toList)) = false) : readEnd s k n t rc re = .tuple #[.agg #[.int .i64 k, .int .i64 n, .string t], .int .i64 0] := by
  rw [readEnd, if_pos ⟨h, str_eq h2⟩]
theorem readEnd_ne {s t rc : ByteArray} {k n re : Int} (h2 : (!(rc.toList == s.toList)) = true) : readEnd s k n t rc re = .tuple #[.agg #[.int .i64 0, .int .i64 0, .string ⟨#[]⟩], .int .i64 3] := by
  rw [readEnd, if_neg (fun h => str_ne h2 h.2)]
theorem readEnd_err {s t rc : ByteArray} {k n re : Int} (h : ¬ re = 0) : readEnd s k n t rc re = .tuple #[.agg #[.int .i64 0, .int .i64 0, .string ⟨#[]⟩], .int .i64 3] := by
  rw [readEnd, if_neg (fun hh => h hh.1)]

set_option maxHeartbeats 2000000 in
set_option maxRecDepth 10000 in
theorem read_int (s t rc : ByteArray) (k n re : Int) (w : World) (hcode : sign_Code.f k (wrap64 (Go.bits .xor .u64 (foldB t.data.toList 0) 9223372036854775808)) ⟨#[]⟩ = some (rc, re)) (hs : ((s.size : Int) != 9) = false) (k0 : 0 ≤ k) (k1 : k ≤ 255) (n0 : 0 ≤ n) (n1 : n ≤ 255) (h1 : (k == 1) = true) (ht : t.size ≤ 9)
    (hix0 : ∀ W, (Instr.index 9 (.string s) (.int .i64 0)).run Try.prog W = .ok (.int .u8 k) W) (hix8 : ∀ W, (Instr.index 9 (.string s) (.int .i64 8)).run Try.prog W = .ok (.int .u8 n) W)
    (hsl : ∀ W, (Instr.slice 9 (.string s) (some (.int .i64 1)) none none).run Try.prog W = .ok (.string t) W) :
    Calls Try.prog 45 #[.string s] w fun e w' => e = .returned (readEnd s k (wrap64 (Go.bits .xor .u64 (foldB t.data.toList 0) 9223372036854775808)) ⟨#[]⟩ rc re) ∧ Below w.heap.size w w' := by
  have HC := Lib.hid hcode
  clear hcode
  obtain ⟨cap, w1, hrun, hbel, hsz, hcell⟩ := conv_new t ((w.alloc (.cells #[.int .i64 0, .int .i64 0, .string ⟨#[]⟩] 54)).alloc (.cells #[.int .i64 k, .int .i64 0, .string ⟨#[]⟩] 54))
  have HCELL := Lib.hid hcell
  clear hcell
  obtain ⟨hc, hf⟩ := bcell hbel
  have c00 : w1.cell? ⟨w.heap.size, 0, none⟩ = some (.int .i64 0) := (hc _ _ (by simp; omega)).trans (by go_simp)
  have c01 : w1.cell? ⟨w.heap.size, 1, none⟩ = some (.int .i64 0) := (hc _ _ (by simp; omega)).trans (by go_simp)
  have c02 : w1.cell? ⟨w.heap.size, 2, none⟩ = some (.string ⟨#[]⟩) := (hc _ _ (by simp; omega)).trans (by go_simp)
  have c10 : w1.cell? ⟨w.heap.size + 1, 0, none⟩ = some (.int .i64 k) := (hc _ _ (by simp)).trans (by go_simp)
  have c11 : w1.cell? ⟨w.heap.size + 1, 1, none⟩ = some (.int .i64 0) := (hc _ _ (by simp)).trans (by go_simp)
  have c12 : w1.cell? ⟨w.heap.size + 1, 2, none⟩ = some (.string ⟨#[]⟩) := (hc _ _ (by simp)).trans (by go_simp)
  have f00 : w1.frozen? ⟨w.heap.size, 0, none⟩ = false := (hf _ _ (by simp; omega)).trans (by go_simp)
  have f01 : w1.frozen? ⟨w.heap.size, 1, none⟩ = false := (hf _ _ (by simp; omega)).trans (by go_simp)
  have f02 : w1.frozen? ⟨w.heap.size, 2, none⟩ = false := (hf _ _ (by simp; omega)).trans (by go_simp)
  have f10 : w1.frozen? ⟨w.heap.size + 1, 0, none⟩ = false := (hf _ _ (by simp)).trans (by go_simp)
  have f11 : w1.frozen? ⟨w.heap.size + 1, 1, none⟩ = false := (hf _ _ (by simp)).trans (by go_simp)
  have f12 : w1.frozen? ⟨w.heap.size + 1, 2, none⟩ = false := (hf _ _ (by simp)).trans (by go_simp)
  clear hc hf
  go_enter Try.func45, Try.ntmps45
  go_wp2
  go_loopw [6, 30] (fun u9 s9 wr => ∃ (i : Nat) (x : Int), i ≤ t.size ∧ s9 = .int .i64 i ∧ u9 = .int .u64 x ∧ Hid (foldB (t.data.toList.drop i) x = foldB t.data.toList 0) ∧ wr = w1) (fun _ z _ => t.size - (intOf z).toNat)
  case atStart => exact ⟨0, 0, by omega, rfl, rfl, Lib.hid (by rw [List.drop_zero]), rfl⟩
  case round =>
    obtain ⟨i, x, hi, rfl, rfl, HF, rfl⟩ := hrel
    by_cases hlt : i < t.size
    · have hx := HCELL.out i hlt
      rw [show ((w.alloc (.cells #[.int .i64 0, .int .i64 0, .string ⟨#[]⟩] 54)).alloc (.cells #[.int .i64 k, .int .i64 0, .string ⟨#[]⟩] 54)).heap.size = w.heap.size + 1 + 1 from by simp] at hx
      obtain ⟨b, hb⟩ : ∃ b, b = t.data.toList.getD i 0 := ⟨_, rfl⟩
      rw [← hb] at hx
      have HB := Lib.hid hb
      clear hb
      go_wp2
      go_roundw
      case rel =>
        refine ⟨i + 1, _, by omega, by go_num, rfl, Lib.hid ?_, trivial⟩
        rw [← HF.out, List.drop_eq_getElem_cons (show i < t.data.toList.length by simpa using hlt), foldB]
        have : t.data.toList[i]'(by simpa using hlt) = b := by rw [HB.out]; simp [List.getD, hlt]
        rw [this]
      case measure => simp [intOf]; omega
    · have : i = t.size := by omega
      subst this
      have hF := HF.out
      rw [List.drop_of_length_le (by simp), foldB] at hF
      have HF2 := Lib.hid hF
      clear hF HF hlt hrun
      obtain rfl := HF2.out
      go_wp2_with fail
      refine (sign_Code.calls _ _ _ rc re _ HC.out).mono ?_
      rintro e w2 ⟨rfl, hb2⟩
      obtain ⟨d00, d01, d02, d10, d11, d12⟩ := two_after c00 c01 c02 c10 c11 c12 hb2
      have g00 : w2.frozen? ⟨w.heap.size, 0, none⟩ = false := frz_after hb2 (by go_simp; rfl) (by rw [World.frozen?_setCell]; exact f00)
      have g01 : w2.frozen? ⟨w.heap.size, 1, none⟩ = false := frz_after hb2 (by go_simp; rfl) (by rw [World.frozen?_setCell]; exact f01)
      have g02 : w2.frozen? ⟨w.heap.size, 2, none⟩ = false := frz_after hb2 (by go_simp; rfl) (by rw [World.frozen?_setCell]; exact f02)
      clear c00 c01 c02 c10 c11 c12 f00 f01 f02 f10 f11 f12
      have hA : Below w.heap.size w wr := (((Below.refl _ _).alloc (Nat.le_refl _) _).alloc (by simp) _).trans (hbel.mono (by simp; omega))
      have hB2 : Below w.heap.size w w2 := (hA.setCell (by simp) _).trans (hb2.mono (by have := hA.size; simpa using this))
      have HBB := Lib.hid hB2
      clear hA hB2 hb2 hbel hsz HCELL
      go_wp2_with fail
      · rw [readEnd_ne ‹_›]
        exact bodyPost_ret (v := .tuple #[.agg #[.int .i64 0, .int .i64 0, .string ⟨#[]⟩], .int .i64 3]) (by simp [results, Try.results45, go_sem, d00, d01, d02]) rfl ⟨rfl, ((HBB.out.setCell (by simp) _).setCell (by simp) _).setCell (by simp) _⟩
      · rw [readEnd_ok ‹_› ‹_›]
        exact bodyPost_ret (v := .tuple #[.agg #[.int .i64 k, .int .i64 (wrap64 (Go.bits .xor .u64 (foldB t.data.toList 0) 9223372036854775808)), .string ⟨#[]⟩], .int .i64 0]) (by simp [results, Try.results45, go_sem, d00, d01, d02]) rfl ⟨rfl, ((HBB.out.setCell (by simp) _).setCell (by simp) _).setCell (by simp) _⟩
      · rw [readEnd_err ‹_›]
        exact bodyPost_ret (v := .tuple #[.agg #[.int .i64 0, .int .i64 0, .string ⟨#[]⟩], .int .i64 3]) (by simp [results, Try.results45, go_sem, d00, d01, d02]) rfl ⟨rfl, ((HBB.out.setCell (by simp) _).setCell (by simp) _).setCell (by simp) _⟩

theorem two_new {w w2 : World} {a0 a1 a2 b0 b1 b2 : Value} (hb : Below ((w.alloc (.cells #[a0, a1, a2] 54)).alloc (.cells #[b0, b1, b2] 54)).heap.size ((w.alloc (.cells #[a0, a1, a2] 54)).alloc (.cells #[b0, b1, b2] 54)) w2) :
    (w2.cell? ⟨w.heap.size, 0, none⟩ = some a0 ∧ w2.cell? ⟨w.heap.size, 1, none⟩ = some a1 ∧ w2.cell? ⟨w.heap.size, 2, none⟩ = some a2) ∧
    (w2.cell? ⟨w.heap.size + 1, 0, none⟩ = some b0 ∧ w2.cell? ⟨w.heap.size + 1, 1, none⟩ = some b1 ∧ w2.cell? ⟨w.heap.size + 1, 2, none⟩ = some b2) ∧
    (w2.frozen? ⟨w.heap.size, 0, none⟩ = false ∧ w2.frozen? ⟨w.heap.size, 1, none⟩ = false ∧ w2.frozen? ⟨w.heap.size, 2, none⟩ = false) ∧ Below w.heap.size w w2 := by
  obtain ⟨hc, hf⟩ := bcell hb
  have l0 : w.heap.size < ((w.alloc (.cells #[a0, a1, a2] 54)).alloc (.cells #[b0, b1, b2] 54)).heap.size := by simp; omega
  have l1 : w.heap.size + 1 < ((w.alloc (.cells #[a0, a1, a2] 54)).alloc (.cells #[b0, b1, b2] 54)).heap.size := by simp
  exact ⟨⟨(hc _ _ l0).trans (by go_simp), (hc _ _ l0).trans (by go_simp), (hc _ _ l0).trans (by go_simp)⟩, ⟨(hc _ _ l1).trans (by go_simp), (hc _ _ l1).trans (by go_simp), (hc _ _ l1).trans (by go_simp)⟩,
    ⟨(hf _ _ l0).trans (by go_simp), (hf _ _ l0).trans (by go_simp), (hf _ _ l0).trans (by go_simp)⟩, (((Below.refl _ _).alloc (Nat.le_refl _) _).alloc (by simp) _).trans (hb.mono (by simp; omega))⟩

set_option maxHeartbeats 2000000 in
set_option maxRecDepth 10000 in
theorem read_text (s t rc : ByteArray) (k n re : Int) (w : World) (hcode : sign_Code.f k 0 t = some (rc, re)) (hs : ((s.size : Int) != 9) = false) (k0 : 0 ≤ k) (k1 : k ≤ 255) (n0 : 0 ≤ n) (n1 : n ≤ 255) (h1 : (k == 1) = false) (h2 : (k == 2) = true) (h7 : n ≤ 7)
    (hix0 : ∀ W, (Instr.index 9 (.string s) (.int .i64 0)).run Try.prog W = .ok (.int .u8 k) W) (hix8 : ∀ W, (Instr.index 9 (.string s) (.int .i64 8)).run Try.prog W = .ok (.int .u8 n) W)
    (hsl : ∀ W, (Instr.slice 9 (.string s) (some (.int .i64 1)) (some (.int .i64 (1 + n))) none).run Try.prog W = .ok (.string t) W) :
    Calls Try.prog 45 #[.string s] w fun e w' => e = .returned (readEnd s k 0 t rc re) ∧ Below w.heap.size w w' := by
  have HC := Lib.hid hcode
  clear hcode
  go_enter Try.func45, Try.ntmps45
  go_wp2_with fail
  refine (sign_Code.calls _ _ _ rc re _ HC.out).mono ?_
  rintro e w2 ⟨rfl, hb2⟩
  obtain ⟨⟨d00, d01, d02⟩, ⟨d10, d11, d12⟩, ⟨g00, g01, g02⟩, hB2⟩ := two_new hb2
  have HBB := Lib.hid hB2
  clear hB2 hb2
  go_wp2_with fail
  · rw [readEnd_ne ‹_›]
    exact bodyPost_ret (v := .tuple #[.agg #[.int .i64 0, .int .i64 0, .string ⟨#[]⟩], .int .i64 3]) (by simp [results, Try.results45, go_sem, d00, d01, d02]) rfl ⟨rfl, ((HBB.out.setCell (by simp) _).setCell (by simp) _).setCell (by simp) _⟩
  · rw [readEnd_ok ‹_› ‹_›]
    exact bodyPost_ret (v := .tuple #[.agg #[.int .i64 k, .int .i64 0, .string t], .int .i64 0]) (by simp [results, Try.results45, go_sem, d00, d01, d02]) rfl ⟨rfl, ((HBB.out.setCell (by simp) _).setCell (by simp) _).setCell (by simp) _⟩
  · rw [readEnd_err ‹_›]
    exact bodyPost_ret (v := .tuple #[.agg #[.int .i64 0, .int .i64 0, .string ⟨#[]⟩], .int .i64 3]) (by simp [results, Try.results45, go_sem, d00, d01, d02]) rfl ⟨rfl, ((HBB.out.setCell (by simp) _).setCell (by simp) _).setCell (by simp) _⟩

set_option maxHeartbeats 2000000 in
set_option maxRecDepth 10000 in
theorem read_other (s rc : ByteArray) (k n re : Int) (w : World) (hcode : sign_Code.f k 0 ⟨#[]⟩ = some (rc, re)) (hs : ((s.size : Int) != 9) = false) (k0 : 0 ≤ k) (k1 : k ≤ 255) (n0 : 0 ≤ n) (n1 : n ≤ 255) (h1 : (k == 1) = false) (h2 : (k == 2) = false ∨ ((k == 2) = true ∧ 7 < n))
    (hix0 : ∀ W, (Instr.index 9 (.string s) (.int .i64 0)).run Try.prog W = .ok (.int .u8 k) W) (hix8 : ∀ W, (Instr.index 9 (.string s) (.int .i64 8)).run Try.prog W = .ok (.int .u8 n) W) :
    Calls Try.prog 45 #[.string s] w fun e w' => e = .returned (readEnd s k 0 ⟨#[]⟩ rc re) ∧ Below w.heap.size w w' := by
  have HC := Lib.hid hcode
  clear hcode
  rcases h2 with h2 | ⟨h2, h7⟩
  all_goals
    go_enter Try.func45, Try.ntmps45
    go_wp2_with fail
    refine (sign_Code.calls _ _ _ rc re _ HC.out).mono ?_
    rintro e w2 ⟨rfl, hb2⟩
    obtain ⟨⟨d00, d01, d02⟩, ⟨d10, d11, d12⟩, ⟨g00, g01, g02⟩, hB2⟩ := two_new hb2
    have HBB := Lib.hid hB2
    clear hB2 hb2
    go_wp2_with fail
    · rw [readEnd_ne ‹_›]
      exact bodyPost_ret (v := .tuple #[.agg #[.int .i64 0, .int .i64 0, .string ⟨#[]⟩], .int .i64 3]) (by simp [results, Try.results45, go_sem, d00, d01, d02]) rfl ⟨rfl, ((HBB.out.setCell (by simp) _).setCell (by simp) _).setCell (by simp) _⟩
    · rw [readEnd_ok ‹_› ‹_›]
      exact bodyPost_ret (v := .tuple #[.agg #[.int .i64 k, .int .i64 0, .string ⟨#[]⟩], .int .i64 0]) (by simp [results, Try.results45, go_sem, d00, d01, d02]) rfl ⟨rfl, ((HBB.out.setCell (by simp) _).setCell (by simp) _).setCell (by simp) _⟩
    · rw [readEnd_err ‹_›]
      exact bodyPost_ret (v := .tuple #[.agg #[.int .i64 0, .int .i64 0, .string ⟨#[]⟩], .int .i64 3]) (by simp [results, Try.results45, go_sem, d00, d01, d02]) rfl ⟨rfl, ((HBB.out.setCell (by simp) _).setCell (by simp) _).setCell (by simp) _⟩

def byteI (s : ByteArray) (i : Nat) : Int := (s.data.toList.getD i 0).toNat
theorem byteI_0 (s : ByteArray) (i : Nat) : 0 ≤ byteI s i := by unfold byteI; omega
theorem byteI_1 (s : ByteArray) (i : Nat) : byteI s i ≤ 255 := by
  unfold byteI
  have := (s.data.toList.getD i 0).toNat_lt
  omega
theorem index_byte (s : ByteArray) (i : Nat) (h : i < s.size) (W : World) : (Instr.index 9 (.string s) (.int .i64 (i : Int))).run Try.prog W = .ok (.int .u8 (byteI s i)) W := by
  rw [run_index_string W 9 s .i64 i Try.underlying9, dif_pos ⟨by omega, by omega⟩]
  unfold byteI
  simp [List.getD, h]
  rfl
def readN (s : ByteArray) : Int := wrap64 (Go.bits .xor .u64 (foldB (s.extract 1 s.size).data.toList 0) 9223372036854775808)
def readTuple (s : ByteArray) (k n : Int) (t rc : ByteArray) (re : Int) : Int × Int × ByteArray × Int := if re = 0 ∧ rc = s then (k, n, t, 0) else (0, 0, ⟨#[]⟩, 3)
def sign_Read.f (s : ByteArray) : Option (Int × Int × ByteArray × Int) :=
  if s.size = 9 then
    if byteI s 0 = 1 then (sign_Code.f (byteI s 0) (readN s) ⟨#[]⟩).bind fun c => some (readTuple s (byteI s 0) (readN s) ⟨#[]⟩ c.1 c.2)
    else if byteI s 0 = 2 ∧ byteI s 8 ≤ 7 then (sign_Code.f (byteI s 0) 0 (s.extract 1 (1 + (byteI s 8).toNat))).bind fun c => some (readTuple s (byteI s 0) 0 (s.extract 1 (1 + (byteI s 8).toNat)) c.1 c.2)
    else (sign_Code.f (byteI s 0) 0 ⟨#[]⟩).bind fun c => some (readTuple s (byteI s 0) 0 ⟨#[]⟩ c.1 c.2)
  else some (0, 0, ⟨#[]⟩, 3)
theorem readEnd_eq (s : ByteArray) (k n : Int) (t rc : ByteArray) (re : Int) {r : Int × Int × ByteArray × Int} (h : readTuple s k n t rc re = r) : readEnd s k n t rc re = .tuple #[.agg #[.int .i64 r.1, .int .i64 r.2.1, .string r.2.2.1], .int .i64 r.2.2.2] := by
  subst h
  unfold readTuple readEnd
  split <;> rfl

theorem sign_Read.calls (a0 : ByteArray) (r1 r2 : Int) (r3 : ByteArray) (r4 : Int) (w : World) (h : sign_Read.f a0 = some (r1, r2, r3, r4)) :
    Calls Try.prog 45 #[.string a0] w fun e w' => e = .returned (.tuple #[.agg #[.int .i64 r1, .int .i64 r2, .string r3], .int .i64 r4]) ∧ Below w.heap.size w w' := by
  unfold sign_Read.f at h
  by_cases h9 : a0.size = 9
  · rw [if_pos h9] at h
    have hs : ((a0.size : Int) != 9) = false := by simp [h9]
    have hix0 : ∀ W, (Instr.index 9 (.string a0) (.int .i64 0)).run Try.prog W = .ok (.int .u8 (byteI a0 0)) W := fun W => index_byte a0 0 (by omega) W
    have hix8 : ∀ W, (Instr.index 9 (.string a0) (.int .i64 8)).run Try.prog W = .ok (.int .u8 (byteI a0 8)) W := fun W => index_byte a0 8 (by omega) W
    by_cases h1 : byteI a0 0 = 1
    · rw [if_pos h1] at h
      obtain ⟨⟨rc, re⟩, hcode, hr⟩ := Option.bind_eq_some_iff.1 h
      simp only [Option.some.injEq] at hr
      rw [← (readEnd_eq _ _ _ _ _ _ hr : readEnd a0 (byteI a0 0) (readN a0) ⟨#[]⟩ rc re = _)]
      exact read_int a0 (a0.extract 1 a0.size) rc _ _ re w hcode hs (byteI_0 _ _) (byteI_1 _ _) (byteI_0 _ _) (byteI_1 _ _) (by simp [h1]) (by simp; omega) hix0 hix8
        (fun W => by rw [run_slice_string_from_if W 9 a0 .i64 1 Try.underlying9, if_pos ⟨by omega, by omega⟩]; rfl)
    · rw [if_neg h1] at h
      by_cases h2 : byteI a0 0 = 2 ∧ byteI a0 8 ≤ 7
      · rw [if_pos h2] at h
        obtain ⟨⟨rc, re⟩, hcode, hr⟩ := Option.bind_eq_some_iff.1 h
        simp only [Option.some.injEq] at hr
        rw [← (readEnd_eq _ _ _ _ _ _ hr : readEnd a0 (byteI a0 0) 0 _ rc re = _)]
        refine read_text a0 (a0.extract 1 (1 + (byteI a0 8).toNat)) rc _ _ re w hcode hs (byteI_0 _ _) (byteI_1 _ _) (byteI_0 _ _) (byteI_1 _ _) (by simp [h1]) (by simp [h2.1]) h2.2 hix0 hix8 (fun W => ?_)
        have := byteI_0 a0 8
        have := h2.2
        rw [run_slice_string W 9 a0 .i64 .i64 1 (1 + byteI a0 8) Try.underlying9 (by omega) (by omega) (by omega)]
        rw [show (1 + byteI a0 8).toNat = 1 + (byteI a0 8).toNat from by omega]
        rfl
      · rw [if_neg h2] at h
        obtain ⟨⟨rc, re⟩, hcode, hr⟩ := Option.bind_eq_some_iff.1 h
        simp only [Option.some.injEq] at hr
        rw [← (readEnd_eq _ _ _ _ _ _ hr : readEnd a0 (byteI a0 0) 0 ⟨#[]⟩ rc re = _)]
        refine read_other a0 rc _ _ re w hcode hs (byteI_0 _ _) (byteI_1 _ _) (byteI_0 _ _) (byteI_1 _ _) (by simp [h1]) ?_ hix0 hix8
        by_cases h3 : byteI a0 0 = 2
        · exact .inr ⟨by simp [h3], by omega⟩
        · exact .inl (by simp [h3])
  · rw [if_neg h9] at h
    simp only [Option.some.injEq, Prod.mk.injEq] at h
    obtain ⟨rfl, rfl, rfl, rfl⟩ := h
    exact read_short a0 w (by simp; omega)

theorem read_some (s : ByteArray) : ∃ r, sign_Read.f s = some r := by
  unfold sign_Read.f
  split
  · split
    · obtain ⟨rc, re, h, _⟩ := code_some (byteI s 0) (readN s) ⟨#[]⟩
      rw [h]; exact ⟨_, rfl⟩
    · split
      · obtain ⟨rc, re, h, _⟩ := code_some (byteI s 0) 0 (s.extract 1 (1 + (byteI s 8).toNat))
        rw [h]; exact ⟨_, rfl⟩
      · obtain ⟨rc, re, h, _⟩ := code_some (byteI s 0) 0 ⟨#[]⟩
        rw [h]; exact ⟨_, rfl⟩
  · exact ⟨_, rfl⟩
end Go.Proofs.Ythhblhhbobnaiaa.Pl

