/- The contracts of sign.number and wide.put, written by hand; no condition. -/
import Derived.Test.YthhblhhbobnaiaaPlKinds
import Derived.WalkKit
import Derived.WalkSpells
import Derived.Lib.Hide
import Derived.Laws.Rows
import Derived.Laws.ShiftsVarLaws
import Derived.Laws.OwnMore
import Derived.Laws.MakeOwn
import Derived.Laws.BytesArg
namespace Go.Proofs.Ythhblhhbobnaiaa.Pl
open Go.RowKit Go.Proofs.YthhblhhbobnaiaaW.PrintWords
set_option linter.unusedVariables false
set_option linter.unusedSimpArgs false

/-- Byte i of a number, the lowest first. -/
def byteAt (u : Int) (i : Nat) : Int := u / 2 ^ (8 * i) % 256
/-- The eight cells, when i bytes have been written, the lowest ones last. -/
def numCells (u : Int) (i : Nat) : Array Value := ((List.range 8).map fun j => Value.int .u8 (if 7 < j + i then byteAt u (7 - j) else 0)).toArray

theorem numCells_zero (u : Int) : numCells u 0 = Array.replicate 8 (.int .u8 0) := rfl
theorem numCells_succ (u : Int) (i : Nat) (h : i < 8) : (numCells u i).setIfInBounds (7 - i) (.int .u8 (byteAt u i)) = numCells u (i + 1) := by
  match i, h with
  | 0, _ => rfl
  | 1, _ => rfl
  | 2, _ => rfl
  | 3, _ => rfl
  | 4, _ => rfl
  | 5, _ => rfl
  | 6, _ => rfl
  | 7, _ => rfl
theorem numCells_get (u : Int) (i : Nat) (h : i < 8) : ∃ v, (numCells u i)[7 - i]? = some v := by
  match i, h with
  | 0, _ => exact ⟨_, rfl⟩
  | 1, _ => exact ⟨_, rfl⟩
  | 2, _ => exact ⟨_, rfl⟩
  | 3, _ => exact ⟨_, rfl⟩
  | 4, _ => exact ⟨_, rfl⟩
  | 5, _ => exact ⟨_, rfl⟩
  | 6, _ => exact ⟨_, rfl⟩
  | 7, _ => exact ⟨_, rfl⟩

/-- The eight bytes. -/
def numL (u : Int) : List Int := (List.range 8).map fun j => byteAt u (7 - j)
def numB (u : Int) : ByteArray := strOfNums (numL u)
theorem numB_size (u : Int) : (numB u).size = 8 := rfl

theorem num_cell {u : Int} {wr : World} {B : Nat} (hb : wr.heap[B]? = some (.cells (numCells u 8) 5 (0, 0))) (i : Nat) (h8 : i < 8) : wr.cell? ⟨B, 0 + i, none⟩ = some (.int .u8 ((numL u).getD i 0)) := by
  simp only [World.cell?, hb, Nat.zero_add]
  match i, h8 with
  | 0, _ => rfl
  | 1, _ => rfl
  | 2, _ => rfl
  | 3, _ => rfl
  | 4, _ => rfl
  | 5, _ => rfl
  | 6, _ => rfl
  | 7, _ => rfl

theorem num_conv {u : Int} {wr : World} {B : Nat} (hb : wr.heap[B]? = some (.cells (numCells u 8) 5 (0, 0))) : (convert 90 9 (.slice (some ⟨B, 0, none⟩) 8 8)).run Try.prog wr = .ok (.string (numB u)) wr :=
  run_convert_bytes_arg (P := Try.prog) wr 90 5 Try.underlying90 Try.underlying5 B 0 8 8 (numL u) rfl (num_cell hb) 9 Try.underlying9

def wide_put.f (a0 : Int) : Option ByteArray := some (numB a0)
theorem wide_put.calls (a0 : Int) (r : ByteArray) (w : World) (h : wide_put.f a0 = some r) :
    Calls Try.prog 58 #[.int .u64 a0] w fun e w' => e = .returned (.string r) ∧ Below w.heap.size w w' := by
  obtain rfl := Option.some.inj h
  clear h
  generalize a0 = u
  have hmk : ∀ w, (Instr.makeSlice 90 (.int .i64 8) (.int .i64 8)).run Try.prog w = .ok (.slice (some ⟨w.heap.size, 0, none⟩) 8 8) (w.alloc (.cells (numCells u 0) 5)) := fun _ => by kernel_rfl
  go_enter Try.func58, Try.ntmps58
  go_wp2
  go_loopw [8] (fun s wr => ∃ i : Nat, i ≤ 8 ∧ s = .int .i64 i ∧ wr.heap[w.heap.size]? = some (.cells (numCells u i) 5 (0, 0)) ∧ Below w.heap.size w wr) (fun s _ => 8 - (intOf s).toNat)
  case atStart => exact ⟨0, by omega, rfl, heap_alloc_new w _, (Below.refl _ _).alloc (Nat.le_refl _) _⟩
  case round =>
    obtain ⟨i, hi, rfl, hb, hB⟩ := hrel
    by_cases h8 : i < 8
    · obtain ⟨v, hv⟩ := numCells_get u i h8
      have hcell : wr.cell? ⟨w.heap.size, 7 - i, none⟩ = some v := by simp [World.cell?, hb, hv]
      have hfr : wr.frozen? ⟨w.heap.size, 7 - i, none⟩ = false := by simp [World.frozen?, hb]
      go_wp2
      go_roundw
      case rel =>
        refine ⟨i + 1, by omega, by go_num, ?_, hB.setCell (by simp) _⟩
        simp only [World.setCell, Array.getElem?_modify, hb]
        simp [← numCells_succ u i h8, byteAt]
      case measure => simp [intOf]; omega
    · have : i = 8 := by omega
      subst this
      have hcv := num_conv hb
      clear hmk
      go_wp2
      go_ret
      exact ⟨rfl, hB⟩
def sign_number.f (a0 : Int) : Option ByteArray := some (numB (Go.bits .xor .u64 (IntKind.u64.wrap a0) 9223372036854775808))
theorem sign_number.calls (a0 : Int) (r : ByteArray) (w : World) (h : sign_number.f a0 = some r) :
    Calls Try.prog 46 #[.int .i64 a0] w fun e w' => e = .returned (.string r) ∧ Below w.heap.size w w' := by
  obtain rfl := Option.some.inj h
  clear h
  obtain ⟨u, hu⟩ : ∃ u, u = Go.bits .xor .u64 (IntKind.u64.wrap a0) 9223372036854775808 := ⟨_, rfl⟩
  rw [← hu]
  have HU := Lib.hid hu
  clear hu
  have hmk : ∀ w, (Instr.makeSlice 90 (.int .i64 8) (.int .i64 8)).run Try.prog w = .ok (.slice (some ⟨w.heap.size, 0, none⟩) 8 8) (w.alloc (.cells (numCells u 0) 5)) := fun _ => by kernel_rfl
  go_enter Try.func46, Try.ntmps46
  go_wp2
  rw [← HU.out]
  go_loopw [12] (fun s wr => ∃ i : Nat, i ≤ 8 ∧ s = .int .i64 i ∧ wr.heap[w.heap.size]? = some (.cells (numCells u i) 5 (0, 0)) ∧ Below w.heap.size w wr) (fun s _ => 8 - (intOf s).toNat)
  case atStart => exact ⟨0, by omega, rfl, heap_alloc_new w _, (Below.refl _ _).alloc (Nat.le_refl _) _⟩
  case round =>
    obtain ⟨i, hi, rfl, hb, hB⟩ := hrel
    by_cases h8 : i < 8
    · obtain ⟨v, hv⟩ := numCells_get u i h8
      have hcell : wr.cell? ⟨w.heap.size, 7 - i, none⟩ = some v := by simp [World.cell?, hb, hv]
      have hfr : wr.frozen? ⟨w.heap.size, 7 - i, none⟩ = false := by simp [World.frozen?, hb]
      go_wp2
      go_roundw
      case rel =>
        refine ⟨i + 1, by omega, by go_num, ?_, hB.setCell (by simp) _⟩
        simp only [World.setCell, Array.getElem?_modify, hb]
        simp [← numCells_succ u i h8, byteAt]
      case measure => simp [intOf]; omega
    · have : i = 8 := by omega
      subst this
      have hcv := num_conv hb
      clear hmk
      go_wp2
      go_ret
      exact ⟨rfl, hB⟩
end Go.Proofs.Ythhblhhbobnaiaa.Pl
