/- The contracts of sign.Code, sign.Row and sign.Read, written by hand in the form of the printed ones; no condition. The contract of sign.Row, written by hand in the form of the printed ones; no condition. -/
import Derived.Test.YthhblhhbobnaiaaPlF28
import Derived.Test.YthhblhhbobnaiaaHn
import Derived.Test.YthhblhhbobnaiaaShelf
import Derived.Lib.Hide
import Derived.Shelf.Strings.BuilderF
import Derived.Shelf.Strings.MapGrows
namespace Go.Proofs.Ythhblhhbobnaiaa.Pl
open Go.RowKit Go.Proofs.YthhblhhbobnaiaaW.PrintWords Go.Proofs.YthhblhhbobnaiaaW.PrintLast Go.Proofs.YthhblhhbobnaiaaW.PrintMore
set_option linter.unusedVariables false
set_option linter.unusedSimpArgs false

theorem bcell {W w1 : World} (hb : Below W.heap.size W w1) : (∀ b o, b < W.heap.size → w1.cell? ⟨b, o, none⟩ = W.cell? ⟨b, o, none⟩) ∧ (∀ b o, b < W.heap.size → w1.frozen? ⟨b, o, none⟩ = W.frozen? ⟨b, o, none⟩) :=
  ⟨fun b o h => hb.cell (p := ⟨b, o, none⟩) h, fun b o h => hb.frozen (p := ⟨b, o, none⟩) h⟩

theorem alloc_le {w w1 : World} {o : Obj} (hb : Below (w.alloc o).heap.size (w.alloc o) w1) : w.heap.size + 1 ≤ w1.heap.size := by
  have := hb.size
  rwa [show (w.alloc o).heap.size = w.heap.size + 1 from by simp] at this
theorem alloc_below {w w1 : World} {o : Obj} (hb : Below (w.alloc o).heap.size (w.alloc o) w1) : Below w.heap.size w w1 :=
  ((Below.refl _ _).alloc (Nat.le_refl _) _).trans (hb.mono (by simp))

theorem repeat0_size (n : Nat) : (⟨(Lib.repeatL [0] n).toArray⟩ : ByteArray).size = n := by
  show (Lib.repeatL [0] n).length = n
  rw [Lib.repeatL_length]
  simp
theorem rune0 : ∀ W, (convert 21 9 (.int .i32 0)).run Try.prog W = .ok (.string ⟨#[0]⟩) W := fun _ => by kernel_rfl
theorem rune1 : ∀ W, (convert 21 9 (.int .i32 1)).run Try.prog W = .ok (.string ⟨#[1]⟩) W := fun _ => by kernel_rfl
theorem rune2 : ∀ W, (convert 21 9 (.int .i32 2)).run Try.prog W = .ok (.string ⟨#[2]⟩) W := fun _ => by kernel_rfl
theorem rune3 : ∀ W, (convert 21 9 (.int .i32 3)).run Try.prog W = .ok (.string ⟨#[3]⟩) W := fun _ => by kernel_rfl
theorem rune4 : ∀ W, (convert 21 9 (.int .i32 4)).run Try.prog W = .ok (.string ⟨#[4]⟩) W := fun _ => by kernel_rfl
theorem rune5 : ∀ W, (convert 21 9 (.int .i32 5)).run Try.prog W = .ok (.string ⟨#[5]⟩) W := fun _ => by kernel_rfl
theorem rune6 : ∀ W, (convert 21 9 (.int .i32 6)).run Try.prog W = .ok (.string ⟨#[6]⟩) W := fun _ => by kernel_rfl
theorem rune7 : ∀ W, (convert 21 9 (.int .i32 7)).run Try.prog W = .ok (.string ⟨#[7]⟩) W := fun _ => by kernel_rfl
theorem rune_conv (n : Nat) (h : n ≤ 7) (W : World) : (convert 21 9 (.int .i32 (n : Int))).run Try.prog W = .ok (.string ⟨#[UInt8.ofNat n]⟩) W := by
  match n, h with
  | 0, _ => exact rune0 W
  | 1, _ => exact rune1 W
  | 2, _ => exact rune2 W
  | 3, _ => exact rune3 W
  | 4, _ => exact rune4 W
  | 5, _ => exact rune5 W
  | 6, _ => exact rune6 W
  | 7, _ => exact rune7 W
/-- The bytes of a text: a mark, the text, zeros, its length. -/
def textB (s : ByteArray) : ByteArray := (⟨#[2]⟩ : ByteArray) ++ s ++ ⟨(Lib.repeatL [0] (7 - s.size)).toArray⟩ ++ ⟨#[UInt8.ofNat s.size]⟩
/-- The bytes of a number. -/
def intB (n : Int) : ByteArray := (⟨#[1]⟩ : ByteArray) ++ numB (Go.bits .xor .u64 (IntKind.u64.wrap n) 9223372036854775808)

def sign_Code.f (a0 a1 : Int) (a2 : ByteArray) : Option (ByteArray × Int) :=
  if sign_Good.f a0 a1 a2 = some true then
    if a0 = 1 then some (intB a1, 0) else some (textB a2, 0)
  else some (⟨#[]⟩, 1)

theorem good_some (a0 a1 : Int) (a2 : ByteArray) : ∃ b, sign_Good.f a0 a1 a2 = some b := by
  unfold sign_Good.f
  split
  · exact ⟨_, rfl⟩
  · split
    · split <;> exact ⟨_, rfl⟩
    · exact ⟨_, rfl⟩

set_option maxHeartbeats 1000000 in
theorem code_bad (a0 a1 : Int) (a2 : ByteArray) (w : World) (h : sign_Good.f a0 a1 a2 = some false) :
    Calls Try.prog 27 #[.agg #[.int .i64 a0, .int .i64 a1, .string a2]] w fun e w' => e = .returned (.tuple #[.string ⟨#[]⟩, .int .i64 1]) ∧ Below w.heap.size w w' := by
  have H := Lib.hid h
  clear h
  go_enter Try.func27, Try.ntmps27
  go_wp2_with (go_at_call 28; refine (sign_Good.calls _ _ _ false _ H.out).mono ?_; rintro e w' ⟨rfl, hb⟩)
  go_ret2
  exact ⟨rfl, ((Below.refl _ _).alloc (Nat.le_refl _) _).trans (hb.mono (by simp))⟩

set_option maxHeartbeats 1000000 in
theorem code_int (a0 a1 : Int) (a2 : ByteArray) (w : World) (h : sign_Good.f a0 a1 a2 = some true) (h1 : (a0 == 1) = true) :
    Calls Try.prog 27 #[.agg #[.int .i64 a0, .int .i64 a1, .string a2]] w fun e w' => e = .returned (.tuple #[.string (intB a1), .int .i64 0]) ∧ Below w.heap.size w w' := by
  have H := Lib.hid h
  clear h
  have HN := Lib.hid (numB_size (Go.bits .xor .u64 (IntKind.u64.wrap a1) 9223372036854775808))
  go_enter Try.func27, Try.ntmps27
  go_wp2_with (first
    | (go_at_call 28; refine (sign_Good.calls _ _ _ true _ H.out).mono ?_; rintro e w1 ⟨rfl, hb⟩; obtain ⟨hc, hf⟩ := bcell hb)
    | (go_at_call 46; refine (sign_number.calls _ _ _ rfl).mono ?_; rintro e w2 ⟨rfl, hb2⟩))
  go_ret2
  exact ⟨rfl, (alloc_below hb).trans (hb2.mono (alloc_below hb).size)⟩

set_option maxHeartbeats 1000000 in
set_option maxRecDepth 10000 in
theorem code_text (a0 a1 : Int) (a2 : ByteArray) (w : World) (h : sign_Good.f a0 a1 a2 = some true) (h1 : (a0 == 1) = false) (h7 : a2.size ≤ 7) :
    Calls Try.prog 27 #[.agg #[.int .i64 a0, .int .i64 a1, .string a2]] w fun e w' => e = .returned (.tuple #[.string (textB a2), .int .i64 0]) ∧ Below w.heap.size w w' := by
  have H := Lib.hid h
  clear h
  have e7 : ((7 - a2.size : Nat) : Int) = 7 - (a2.size : Int) := by omega
  have cR := fun W => Try.strings_Repeat (⟨#[0]⟩ : ByteArray) (7 - a2.size) W (by omega) (by show 1 * _ ≤ _; omega)
  rw [e7] at cR
  clear e7
  obtain ⟨pad, hpad⟩ : ∃ pad : ByteArray, pad = ⟨(Lib.repeatL [0] (7 - a2.size)).toArray⟩ := ⟨_, rfl⟩
  have hps : pad.size ≤ 7 := by rw [hpad, repeat0_size]; omega
  rw [show (⟨#[0]⟩ : ByteArray).data.toList = [0] from rfl, ← hpad] at cR
  have HP := Lib.hid hpad
  clear hpad
  have HR := Lib.hid cR
  clear cR
  have hcv := rune_conv a2.size h7
  go_enter Try.func27, Try.ntmps27
  go_wp2_with (first
    | (go_at_call 28; refine (sign_Good.calls _ _ _ true _ H.out).mono ?_; rintro e w1 ⟨rfl, hb⟩; obtain ⟨hc, hf⟩ := bcell hb)
    | (go_at_call 47; refine (HR.out _).mono ?_; rintro e w2 ⟨rfl, hb2⟩; have hc2 : w2.cell? ⟨w.heap.size, 2, none⟩ = some (.string a2) := (hb2.cell (p := ⟨w.heap.size, 2, none⟩) (alloc_le hb)).trans ((hc _ _ (by simp)).trans (by go_simp)))
    )
  go_ret2
  exact ⟨by rw [HP.out]; rfl, (alloc_below hb).trans (hb2.mono (alloc_below hb).size)⟩

theorem good_cases {a0 a1 : Int} {a2 : ByteArray} (h : sign_Good.f a0 a1 a2 = some true) : a0 = 1 ∨ a2.size ≤ 7 := by
  unfold sign_Good.f at h
  split at h
  · exact .inl ‹_›
  · split at h
    · split at h
      · right
        simp at h
        omega
      · simp at h
    · simp at h

theorem sign_Code.calls (a0_0 a0_1 : Int) (a0_2 : ByteArray) (r1 : ByteArray) (r2 : Int) (w : World) (h : sign_Code.f a0_0 a0_1 a0_2 = some (r1, r2)) :
    Calls Try.prog 27 #[.agg #[.int .i64 a0_0, .int .i64 a0_1, .string a0_2]] w fun e w' => e = .returned (.tuple #[.string r1, .int .i64 r2]) ∧ Below w.heap.size w w' := by
  unfold sign_Code.f at h
  obtain ⟨b, hb⟩ := good_some a0_0 a0_1 a0_2
  cases b with
  | false =>
    rw [hb] at h
    simp at h
    obtain ⟨rfl, rfl⟩ := h
    exact code_bad _ _ _ w hb
  | true =>
    rw [hb] at h
    simp at h
    by_cases h1 : a0_0 = 1
    · rw [if_pos h1] at h
      simp at h
      obtain ⟨rfl, rfl⟩ := h
      exact code_int _ _ _ w hb (by simp [h1])
    · rw [if_neg h1] at h
      simp at h
      obtain ⟨rfl, rfl⟩ := h
      exact code_text _ _ _ w hb (by simp [h1]) ((good_cases hb).resolve_left h1)

theorem code_size {a0 a1 : Int} {a2 r : ByteArray} (h : sign_Code.f a0 a1 a2 = some (r, 0)) : r.size = 9 := by
  unfold sign_Code.f at h
  split at h
  · rename_i hg
    split at h
    · simp at h
      subst h
      simp [intB, numB_size]
      rfl
    · simp at h
      subst h
      have h7 := (good_cases hg).resolve_left ‹_›
      simp only [textB, ByteArray.size_append, repeat0_size]
      show 1 + a2.size + (7 - a2.size) + 1 = 9
      omega
  · simp at h

theorem code_some (a0 a1 : Int) (a2 : ByteArray) : ∃ r e, sign_Code.f a0 a1 a2 = some (r, e) ∧ (e = 0 ∨ e = 1) := by
  unfold sign_Code.f
  split
  · split
    · exact ⟨_, _, rfl, .inl rfl⟩
    · exact ⟨_, _, rfl, .inl rfl⟩
  · exact ⟨_, _, rfl, .inr rfl⟩

end Go.Proofs.Ythhblhhbobnaiaa.Pl

namespace Go.Proofs.Ythhblhhbobnaiaa.Pl
open Go.RowKit Go.Shelf Go.Proofs.YthhblhhbobnaiaaW.PrintWords Go.Proofs.YthhblhhbobnaiaaW.PrintLast Go.Proofs.YthhblhhbobnaiaaW.PrintMore
set_option linter.unusedVariables false
set_option linter.unusedSimpArgs false

theorem Builder_Write (B b : Nat) (bs : List Value) (s : ByteArray) (w : World) (h : Lib.IsBuilderF 92 5 B b bs w) (hlen : bs.length + s.size ≤ 140737488355328) (hBw : B ≤ w.heap.size) :
    Calls Try.prog 43 #[.pointer (some ⟨b, 0, none⟩), .string s] w fun e w' => e = .returned (.tuple #[.int .i64 s.size, .nilIface]) ∧ (Lib.BuilderAtF 92 5 B b (.pointer (some ⟨b, 0, none⟩)) (bs ++ Lib.strCells s) w' ∧ Below B w w') :=
  Any.Builder_WriteString_f { Try.lays105 with } Try.Builder_Extra_105 B b bs s w h hlen hBw

def rowGo : List S54 → ByteArray → Option (ByteArray × Int)
  | [], acc => some (acc, 0)
  | v :: r, acc => (sign_Code.f v.f0 v.f1 v.f2).bind fun c => if c.2 = 0 then rowGo r (acc ++ c.1) else some (⟨#[]⟩, c.2)
def sign_Row.f (l : List S54) : Option (ByteArray × Int) := if 4 < l.length then some (⟨#[]⟩, 1) else rowGo l ⟨#[]⟩

theorem cell_lt {w : World} {a : Addr} {v : Value} (h : w.cell? a = some v) : a.block < w.heap.size := by
  rcases Nat.lt_or_ge a.block w.heap.size with hlt | hge
  · exact hlt
  · simp [World.cell?, Array.getElem?_eq_none hge] at h
theorem cell_below {w w1 : World} {a : Addr} {v : Value} (hb : Below w.heap.size w w1) (h : w.cell? a = some v) : w1.cell? a = some v :=
  (hb.cell (cell_lt h)).trans h

theorem row_long (A : Option Addr) (c : Nat) (l : List S54) (w : World) (h : 4 < l.length) :
    Calls Try.prog 25 #[.slice A l.length c] w fun e w' => e = .returned (.tuple #[.string ⟨#[]⟩, .int .i64 1]) ∧ Below w.heap.size w w' := by
  go_enter Try.func25, Try.ntmps25
  go_wp2
  go_ret2
  exact ⟨rfl, Below.refl _ _⟩

theorem rowGo_step {l : List S54} {i : Nat} (h : i < l.length) (acc : ByteArray) : rowGo (l.drop i) acc = (sign_Code.f (l.getD i z54).f0 (l.getD i z54).f1 (l.getD i z54).f2).bind fun c => if c.2 = 0 then rowGo (l.drop (i + 1)) (acc ++ c.1) else some (⟨#[]⟩, c.2) := by
  rw [List.drop_eq_getElem_cons h, rowGo]
  simp [List.getD, List.getElem?_eq_getElem h]

theorem strB (acc s : ByteArray) : Lib.byteCells acc.data.toList ++ Lib.strCells s = Lib.byteCells (acc ++ s).data.toList := by
  simp [Lib.byteCells, Lib.strCells]

set_option maxHeartbeats 2000000 in
set_option maxRecDepth 100000 in
theorem row_loop (ad : Addr) (c : Nat) (l : List S54) (r1 : ByteArray) (r2 : Int) (w : World) (h : l.length ≤ 4) (hr : Kd.C k54 w (some ad) l.length l) (hgo : rowGo l ⟨#[]⟩ = some (r1, r2)) :
    Calls Try.prog 25 #[.slice (some ad) l.length c] w fun e w' => e = .returned (.tuple #[.string r1, .int .i64 r2]) ∧ Below w.heap.size w w' := by
  have HR := Lib.hid hr
  have HG := Lib.hid hgo
  clear hr hgo
  have hd : decide (4 < (l.length : Int)) = false := by simp; omega
  go_enter Try.func25, Try.ntmps25
  go_wp2
  go_loopw [14] (fun s wr => ∃ (i : Nat) (acc : ByteArray), i ≤ l.length ∧ s = .int .i64 i ∧ acc.size ≤ 9 * i ∧ Lib.IsBuilderF 92 5 w.heap.size w.heap.size (Lib.byteCells acc.data.toList) wr ∧ Below w.heap.size w wr ∧ Hid (rowGo (l.drop i) acc = some (r1, r2))) (fun s _ => l.length - (intOf s).toNat)
  case atStart => exact ⟨0, ⟨#[]⟩, by omega, rfl, Nat.le_refl 0, Lib.IsBuilderF.of (Lib.fresh_isBuilder 92 5 w), (Below.refl _ _).alloc (Nat.le_refl _) _, HG⟩
  case round =>
    obtain ⟨i, acc, hi, rfl, hacc, hB, hbel, HGo⟩ := hrel
    by_cases hlt : i < l.length
    · obtain ⟨ad', e, hx0, hx1, hx2⟩ := at_T54 HR.out (i : Int) (by omega) (by omega)
      obtain rfl := Option.some.inj e
      rw [Int.toNat_natCast] at hx0 hx1 hx2
      replace hx0 := cell_below hbel hx0
      replace hx1 := cell_below hbel hx1
      replace hx2 := cell_below hbel hx2
      obtain ⟨v, hv⟩ : ∃ v, v = rd_T54 l i := ⟨_, rfl⟩
      rw [← hv] at hx0 hx1 hx2
      have HV := Lib.hid hv
      clear hv e
      obtain ⟨rc, re, hcode, hre⟩ := code_some v.f0 v.f1 v.f2
      have HC := Lib.hid hcode
      clear hcode
      rcases hre with rfl | rfl
      · have hsz := code_size HC.out
        have hgo : rowGo (l.drop (i + 1)) (acc ++ rc) = some (r1, r2) := by
          have := HGo.out
          rw [rowGo_step hlt] at this
          have hv2 : l.getD i z54 = v := by rw [HV.out]; simp [rd_T54]
          rw [hv2, HC.out] at this
          simpa using this
        have HG2 := Lib.hid hgo
        clear hgo
        go_wp2_with (first
          | (go_at_call 27; refine (sign_Code.calls _ _ _ rc 0 _ HC.out).mono ?_; rintro e w1 ⟨rfl, hb1⟩
             have hB1 := (hB.alloc (.cells #[.int .i64 v.f0, .int .i64 v.f1, .string v.f2] 54)).below hb1)
          | (go_at_call 43; refine (Builder_Write w.heap.size w.heap.size _ rc _ hB1 ?g1 ?g2).mono ?_
             case g1 => simp [Lib.byteCells]; omega
             case g2 => have := alloc_le hb1; have := hbel.size; omega
             rintro e w2 ⟨rfl, hB2, hb2⟩))
        go_roundw
        case rel =>
          refine ⟨i + 1, acc ++ rc, by omega, by go_num, by rw [ByteArray.size_append]; omega, ?_, (hbel.trans ((alloc_below hb1).mono hbel.size)).trans hb2, HG2⟩
          rw [← strB]
          exact .inr hB2
        case measure => simp [intOf]; omega
      · have hgo : r1 = ⟨#[]⟩ ∧ r2 = 1 := by
          have := HGo.out
          rw [rowGo_step hlt] at this
          have hv2 : l.getD i z54 = v := by rw [HV.out]; simp [rd_T54]
          rw [hv2, HC.out] at this
          simp at this
          exact ⟨this.1.symm, this.2.symm⟩
        obtain ⟨rfl, rfl⟩ := hgo
        go_wp2_with (first
          | (go_at_call 27; refine (sign_Code.calls _ _ _ rc 1 _ HC.out).mono ?_; rintro e w1 ⟨rfl, hb1⟩))
        go_ret2
        exact ⟨rfl, hbel.trans ((alloc_below hb1).mono hbel.size)⟩
    · have : i = l.length := by omega
      subst this
      have hgo : r1 = acc ∧ r2 = 0 := by
        have := HGo.out
        rw [List.drop_length, rowGo] at this
        simp at this
        exact ⟨this.1.symm, this.2.symm⟩
      obtain ⟨rfl, rfl⟩ := hgo
      go_wp2_with (go_at_call 44; refine (Try.Builder_String_any_f w.heap.size w.heap.size _ _ hB hbel.size).mono ?_; rintro e w1 ⟨rfl, hB1, hb1⟩)
      go_ret2
      exact ⟨rfl, hbel.trans hb1⟩

theorem row_nil (A : Option Addr) (c : Nat) (w : World) :
    Calls Try.prog 25 #[.slice A 0 c] w fun e w' => e = .returned (.tuple #[.string ⟨#[]⟩, .int .i64 0]) ∧ Below w.heap.size w w' := by
  go_enter Try.func25, Try.ntmps25
  go_wp2
  refine wp_loop_rounds 1 ?_
  rw [rounds_succ]
  have hB : Lib.IsBuilderF 92 5 w.heap.size w.heap.size (Lib.byteCells []) (w.alloc (Obj.cells #[Value.pointer none, Value.slice none 0 0] 92)) := Lib.IsBuilderF.of (Lib.fresh_isBuilder 92 5 w)
  go_wp2_with (go_at_call 44; refine (Try.Builder_String_any_f w.heap.size w.heap.size _ _ hB (by simp)).mono ?_; rintro e w1 ⟨rfl, hB1, hb1⟩)
  go_ret2
  exact ⟨rfl, ((Below.refl _ _).alloc (Nat.le_refl _) _).trans hb1⟩

theorem sign_Row.calls (A0 : Option Addr) (c0 : Nat) (l0 : List S54) (r1 : ByteArray) (r2 : Int) (w : World) (hr0 : Kd.C k54 w A0 l0.length l0) (hc0 : l0.length ≤ c0) (h : sign_Row.f l0 = some (r1, r2)) :
    Calls Try.prog 25 #[.slice A0 l0.length c0] w fun e w' => e = .returned (.tuple #[.string r1, .int .i64 r2]) ∧ Below w.heap.size w w' := by
  unfold sign_Row.f at h
  split at h
  · simp at h
    obtain ⟨rfl, rfl⟩ := h
    exact row_long _ _ _ _ ‹_›
  · cases l0 with
    | nil =>
      simp [rowGo] at h
      obtain ⟨rfl, rfl⟩ := h
      exact row_nil _ _ _
    | cons v r =>
      obtain ⟨ad, e, _⟩ := at_T54 hr0 0 (by omega) (by simp)
      subst e
      exact row_loop ad c0 _ r1 r2 w (by omega) hr0 h

theorem rowGo_some : ∀ (l : List S54) (acc : ByteArray), ∃ r e, rowGo l acc = some (r, e) ∧ (e = 0 → r.size = acc.size + 9 * l.length) ∧ (e = 0 ∨ e = 1)
  | [], acc => ⟨acc, 0, rfl, by simp, .inl rfl⟩
  | v :: l, acc => by
    obtain ⟨rc, re, hc, hre⟩ := code_some v.f0 v.f1 v.f2
    rw [rowGo, hc]
    rcases hre with rfl | rfl
    · obtain ⟨r, e, hr, hs, he⟩ := rowGo_some l (acc ++ rc)
      refine ⟨r, e, by simpa using hr, fun h => ?_, he⟩
      rw [hs h, ByteArray.size_append, code_size hc, List.length_cons]
      omega
    · exact ⟨_, _, rfl, by simp, .inr rfl⟩
theorem row_some (l : List S54) : ∃ r e, sign_Row.f l = some (r, e) ∧ (e = 0 → r.size = 9 * l.length) ∧ (e = 0 ∨ e = 1) := by
  unfold sign_Row.f
  split
  · exact ⟨_, _, rfl, by simp, .inr rfl⟩
  · obtain ⟨r, e, h, hs, he⟩ := rowGo_some l ⟨#[]⟩
    exact ⟨r, e, h, fun h0 => by rw [hs h0]; show 0 + _ = _; omega, he⟩

end Go.Proofs.Ythhblhhbobnaiaa.Pl

