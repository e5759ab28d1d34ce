/- What the laws' arguments read as (plans, rows, entries), told in the words of the contracts; no condition. -/
import Derived.Test.YthhblhhbobnaiaaPlKinds
import Derived.Deep.Slices
import Derived.Deep.Fields
import Derived.ChangeSame
import Derived.ChangeSlices
import Derived.Lib.SmallJoins
namespace Go.Proofs.Ythhblhhbobnaiaa.Pl
open Go.RowKit Go.ChangeShapes Go.WideShapes Go.Deep Go.Joins Go.Proofs.YthhblhhbobnaiaaW.PrintWords Go.Proofs.YthhblhhbobnaiaaW.PrintLast Go.Proofs.YthhblhhbobnaiaaW.PrintMore
set_option linter.unusedVariables false
set_option linter.unusedSimpArgs false

section
variable {H : Type} {enc : TypeId × Value → H} {P : Program} {w : World} {base : Nat} {spare : Nat → Bool} {held : Bool}
theorem open_slice_fields {t e : TypeId} {fs : Array Field} {fuel : Nat} {cs : List Value} {x : DataW H × List MemPlace} (ht : P.underlying t = some (.slice e)) (he : P.underlying e = some (.struct fs))
    (hone : oneCellFields P fs = true) (hC : P.cellsOf e = fs.size) (h : DataW.trod enc P w base spare held fuel t cs = some x) :
    (cs = [.slice none 0 0] ∧ x = (.nil, [])) ∨
    ∃ (a : Addr) (len cap m : Nat) (D : Nat → DataW H) (Pl : Nat → List MemPlace), cs = [.slice (some a) len cap] ∧ base ≤ a.block ∧ len ≤ cap ∧ cap ≤ maxLen ∧ m = (if spare a.block then cap else len) ∧
      x = (.slice ((List.range len).map D) ((List.range (m - len)).map fun j => D (len + j)), MemPlace.row a (m * fs.size) ++ (List.range m).flatMap Pl) ∧
      ∀ i, i < m → ∃ (ys : List (DataW H × List MemPlace)) (n : Nat), D i = .agg (ys.map (·.1)) ∧ Pl i = ys.flatMap (·.2) ∧ ys.length = fs.size ∧
        ∀ (j : Nat) (f : Field), fs[j]? = some f → ∃ (v : Value) (y : DataW H × List MemPlace), w.cell? (a.add (i * fs.size + j)) = some v ∧ ys[j]? = some y ∧ DataW.trod enc P w base spare held n f.type [v] = some y := by
  rcases open_slice ht h with h0 | ⟨a, len, cap, m, n, D, Pl, hcs, hb, hl, hm, hmm, hx, hi⟩
  · exact .inl h0
  · refine .inr ⟨a, len, cap, m, D, Pl, hcs, hb, hl, hm, hmm, by rw [hC] at hx; exact hx, fun i him => ?_⟩
    obtain ⟨cs', hc, ht'⟩ := hi i him
    rw [hC] at hc
    obtain ⟨ys, n', hn', hy, hlen, hyl, hf⟩ := DataW.trod_struct he ht'
    obtain ⟨_, hcl, hat⟩ := World.cells?_some hc
    simp only [Prod.mk.injEq] at hy
    refine ⟨ys, n', hy.1, hy.2, hyl, fun j f hj => ?_⟩
    obtain ⟨ho, hk⟩ := hone_of hone j f hj
    have hjl : j < fs.size := (Array.getElem?_eq_some_iff.1 hj).1
    have hcell := hat j hjl
    have hv : cs'[j]? = some (cs'[j]'(by omega)) := List.getElem?_eq_getElem (by omega)
    have h1 := hf j f hj
    rw [ho, hk] at h1
    have hone' : (cs'.drop j).take 1 = [cs'[j]'(by omega)] := by
      rw [List.drop_eq_getElem_cons (by omega)]
      rfl
    rw [hone'] at h1
    have hys : ys[j]? = some (ys[j]'(by omega)) := List.getElem?_eq_getElem (by omega)
    refine ⟨_, _, ?_, hys, h1.trans hys⟩
    rw [← Go.Deep.add_add, hcell, hv]
end

/-- A list out of its members, one by one. -/
theorem list_of {α : Type} (n : Nat) (Q : Nat → α → Prop) (h : ∀ i, i < n → ∃ x, Q i x) : ∃ l : List α, l.length = n ∧ ∀ i x, l[i]? = some x → Q i x := by
  induction n with
  | zero => exact ⟨[], rfl, by simp⟩
  | succ n ih =>
    obtain ⟨l, hl, hq⟩ := ih (fun i hi => h i (by omega))
    obtain ⟨x, hx⟩ := h n (by omega)
    refine ⟨l ++ [x], by simp [hl], fun i y hy => ?_⟩
    rcases Nat.lt_or_ge i n with hi | hi
    · rw [List.getElem?_append_left (by omega)] at hy
      exact hq i y hy
    · have hil : i < n + 1 := by
        have := (List.getElem?_eq_some_iff.1 hy).1
        simp [hl] at this
        exact this
      have : i = n := by omega
      subst this
      rw [List.getElem?_append_right (by omega), hl] at hy
      simp at hy
      subst hy
      exact hx

section
variable {H : Type} {enc : TypeId × Value → H} {w : World} {spare : Nat → Bool} {held : Bool} {fuel : Nat}

theorem ints_arg {v : Value} {y : DataW H × List MemPlace} (h : DataW.trod enc Try.prog w 0 spare held fuel 38 [v] = some y) :
    ∃ (A : Option Addr) (c : Nat) (l : List Int), v = .slice A l.length c ∧ l.length ≤ c ∧ l.length ≤ 9223372036854775807 ∧ (Kd.int .i64).C w A l.length l := by
  rcases open_ints Try.underlying38 Try.underlying3 (by kernel_rfl) h with ⟨hcs, _⟩ | ⟨a, len, cap, zs, hcs, _, hl, hm, hz, _, hcell, _⟩
  · simp at hcs
    subst hcs
    exact ⟨none, 0, [], rfl, by simp, by simp, rfl, by simp, fun h => absurd h (by simp)⟩
  · simp at hcs
    subst hcs
    have hle : len ≤ zs.length := by rw [hz]; split <;> omega
    have htl : (zs.take len).length = len := by simp; omega
    unfold maxLen at hm
    refine ⟨some a, cap, zs.take len, by rw [htl], by rw [htl]; exact hl, by rw [htl]; omega, rfl, by rw [htl]; omega, fun _ => ⟨a, rfl, fun j p hp => ⟨[.int .i64 p], rfl, rfl, fun i u hu => ?_⟩⟩⟩
    have hj : j < len := by have := (List.getElem?_eq_some_iff.1 hp).1; omega
    have hpz : zs.getD j 0 = p := by
      rw [List.getElem?_take_of_lt hj] at hp
      simp [List.getD, hp]
    match i, hu with
    | 0, hu =>
      simp at hu
      subst hu
      have := hcell j (by omega)
      rw [hpz] at this
      show w.cell? (a.add (j * 1 + 0)) = _
      simpa using this
    | i + 1, hu => simp at hu

theorem int_arg {v : Value} {y : DataW H × List MemPlace} (h : DataW.trod enc Try.prog w 0 spare held fuel 3 [v] = some y) : ∃ n : Int, v = .int .i64 n ∧ y = (.lit (.int .i64 n), []) ∧ (Lit.int .i64 n).wf = true := by
  obtain ⟨n, hv, hx, hw⟩ := DataW.trod_int Try.underlying3 h
  simp at hv
  exact ⟨n, hv, hx, hw⟩
theorem string_arg {v : Value} {y : DataW H × List MemPlace} (h : DataW.trod enc Try.prog w 0 spare held fuel 9 [v] = some y) : ∃ s : ByteArray, v = .string s ∧ y = (.lit (.string s.data.toList), []) ∧ s.size ≤ maxLen := by
  obtain ⟨s, hv, hx, hw⟩ := DataW.trod_string Try.underlying9 h
  simp at hv
  exact ⟨s, hv, hx, hw⟩

theorem tables_arg {v : Value} {y : DataW H × List MemPlace} (h : DataW.trod enc Try.prog w 0 spare held fuel 22 [v] = some y) :
    ∃ (A : Option Addr) (c : Nat) (l : List S50), v = .slice A l.length c ∧ l.length ≤ c ∧ Kd.C k50 w A l.length l := by
  rcases open_slice_fields Try.underlying22 Try.underlying50 (by kernel_rfl) (by kernel_rfl) h with ⟨hcs, _⟩ | ⟨a, len, cap, m, D, Pl, hcs, _, hl, hm, hmm, _, hf⟩
  · simp at hcs
    subst hcs
    exact ⟨none, 0, [], rfl, by simp, rfl, by simp, fun h => absurd h (by simp)⟩
  · simp at hcs
    subst hcs
    have hle : len ≤ m := by rw [hmm]; split <;> omega
    obtain ⟨l, hll, hq⟩ := list_of (α := S50) len (fun i x => ∃ (A0 : Option Addr) (c0 : Nat), w.cell? (a.add (i * 1)) = some (.slice A0 x.f0.length c0) ∧ x.f0.length ≤ c0 ∧ (Kd.int .i64).C w A0 x.f0.length x.f0) (fun i hi => by
      obtain ⟨ys, n, _, _, _, hfs⟩ := hf i (by omega)
      obtain ⟨v0, y0, hc0, _, ht0⟩ := hfs 0 _ rfl
      obtain ⟨A0, c0, l0, rfl, h1, _, h2⟩ := ints_arg ht0
      exact ⟨⟨l0⟩, A0, c0, hc0, h1, h2⟩)
    unfold maxLen at hm
    refine ⟨some a, cap, l, by rw [hll], by rw [hll]; exact hl, rfl, by omega, fun _ => ⟨a, rfl, fun j p hp => ?_⟩⟩
    obtain ⟨A0, c0, h0, h1, h2⟩ := hq j p hp
    refine ⟨_, rfl, k50_mk w p h1 h2, fun i u hu => ?_⟩
    match i, hu with
    | 0, hu => simp at hu; subst hu; exact h0
    | i + 1, hu => simp at hu

theorem views_arg {v : Value} {y : DataW H × List MemPlace} (h : DataW.trod enc Try.prog w 0 spare held fuel 23 [v] = some y) :
    ∃ (A : Option Addr) (c : Nat) (l : List S52), v = .slice A l.length c ∧ l.length ≤ c ∧ Kd.C k52 w A l.length l := by
  rcases open_slice_fields Try.underlying23 Try.underlying52 (by kernel_rfl) (by kernel_rfl) h with ⟨hcs, _⟩ | ⟨a, len, cap, m, D, Pl, hcs, _, hl, hm, hmm, _, hf⟩
  · simp at hcs
    subst hcs
    exact ⟨none, 0, [], rfl, by simp, rfl, by simp, fun h => absurd h (by simp)⟩
  · simp at hcs
    subst hcs
    have hle : len ≤ m := by rw [hmm]; split <;> omega
    obtain ⟨l, hll, hq⟩ := list_of (α := S52) len (fun i x => ∃ (A2 : Option Addr) (c2 : Nat), w.cell? (a.add (i * 3)) = some (.int .i64 x.f0) ∧ w.cell? (a.add (i * 3 + 1)) = some (.int .i64 x.f1) ∧ w.cell? (a.add (i * 3 + 2)) = some (.slice A2 x.f2.length c2) ∧ x.f2.length ≤ c2 ∧ (Kd.int .i64).C w A2 x.f2.length x.f2) (fun i hi => by
      obtain ⟨ys, n, _, _, _, hfs⟩ := hf i (by omega)
      obtain ⟨v0, y0, hc0, _, ht0⟩ := hfs 0 _ rfl
      obtain ⟨v1, y1, hc1, _, ht1⟩ := hfs 1 _ rfl
      obtain ⟨v2, y2, hc2, _, ht2⟩ := hfs 2 _ rfl
      obtain ⟨n0, rfl, _⟩ := int_arg ht0
      obtain ⟨n1, rfl, _⟩ := int_arg ht1
      obtain ⟨A2, c2, l2, rfl, h1, _, h2⟩ := ints_arg ht2
      exact ⟨⟨n0, n1, l2⟩, A2, c2, hc0, hc1, hc2, h1, h2⟩)
    unfold maxLen at hm
    refine ⟨some a, cap, l, by rw [hll], by rw [hll]; exact hl, rfl, by omega, fun _ => ⟨a, rfl, fun j p hp => ?_⟩⟩
    obtain ⟨A2, c2, h0, h1, h2, h3, h4⟩ := hq j p hp
    refine ⟨_, rfl, k52_mk w p h3 h4, fun i u hu => ?_⟩
    match i, hu with
    | 0, hu => simp at hu; subst hu; exact h0
    | 1, hu => simp at hu; subst hu; exact h1
    | 2, hu => simp at hu; subst hu; exact h2
    | i + 3, hu => simp at hu

theorem values_arg {v : Value} {y : DataW H × List MemPlace} (h : DataW.trod enc Try.prog w 0 spare held fuel 26 [v] = some y) :
    ∃ (A : Option Addr) (c : Nat) (l : List S54), v = .slice A l.length c ∧ l.length ≤ c ∧ Kd.C k54 w A l.length l := by
  rcases open_slice_fields Try.underlying26 Try.underlying54 (by kernel_rfl) (by kernel_rfl) h with ⟨hcs, _⟩ | ⟨a, len, cap, m, D, Pl, hcs, _, hl, hm, hmm, _, hf⟩
  · simp at hcs
    subst hcs
    exact ⟨none, 0, [], rfl, by simp, rfl, by simp, fun h => absurd h (by simp)⟩
  · simp at hcs
    subst hcs
    have hle : len ≤ m := by rw [hmm]; split <;> omega
    obtain ⟨l, hll, hq⟩ := list_of (α := S54) len (fun i x => w.cell? (a.add (i * 3)) = some (.int .i64 x.f0) ∧ w.cell? (a.add (i * 3 + 1)) = some (.int .i64 x.f1) ∧ w.cell? (a.add (i * 3 + 2)) = some (.string x.f2)) (fun i hi => by
      obtain ⟨ys, n, _, _, _, hfs⟩ := hf i (by omega)
      obtain ⟨v0, y0, hc0, _, ht0⟩ := hfs 0 _ rfl
      obtain ⟨v1, y1, hc1, _, ht1⟩ := hfs 1 _ rfl
      obtain ⟨v2, y2, hc2, _, ht2⟩ := hfs 2 _ rfl
      obtain ⟨n0, rfl, _⟩ := int_arg ht0
      obtain ⟨n1, rfl, _⟩ := int_arg ht1
      obtain ⟨s2, rfl, _⟩ := string_arg ht2
      exact ⟨⟨n0, n1, s2⟩, hc0, hc1, hc2⟩)
    unfold maxLen at hm
    refine ⟨some a, cap, l, by rw [hll], by rw [hll]; exact hl, rfl, by omega, fun _ => ⟨a, rfl, fun j p hp => ?_⟩⟩
    obtain ⟨h0, h1, h2⟩ := hq j p hp
    refine ⟨_, rfl, k54_mk w p, fun i u hu => ?_⟩
    match i, hu with
    | 0, hu => simp at hu; subst hu; exact h0
    | 1, hu => simp at hu; subst hu; exact h1
    | 2, hu => simp at hu; subst hu; exact h2
    | i + 3, hu => simp at hu

set_option maxRecDepth 100000 in
/-- A plan. -/
theorem plan_arg {r : Reach} {b0 : Nat} {v : Value} {d : DataW H} {p : List MemPlace} (hv : Value.okWide Try.prog w r b0 25 v) (h : DataW.Trod enc Try.prog w 0 spare held 25 v d p) :
    ∃ (A : Option Addr) (c : Nat) (ts : List S50) (A1 : Option Addr) (c1 : Nat) (vs : List S52), v = .agg #[.slice A ts.length c, .slice A1 vs.length c1] ∧ ts.length ≤ c ∧ Kd.C k50 w A ts.length ts ∧ vs.length ≤ c1 ∧ Kd.C k52 w A1 vs.length vs := by
  obtain ⟨v0, v1, y0, y1, n, rfl, _, _, h0, h1⟩ := open_agg2 (P := Try.prog) Try.underlying25 (by kernel_rfl) (by kernel_rfl) hv h
  obtain ⟨A, c, ts, rfl, a1, a2⟩ := tables_arg h0
  obtain ⟨A1, c1, vs, rfl, b1, b2⟩ := views_arg h1
  exact ⟨A, c, ts, A1, c1, vs, rfl, a1, a2, b1, b2⟩
set_option maxRecDepth 100000 in
/-- An entry. -/
theorem entry_arg {r : Reach} {b0 : Nat} {v : Value} {d : DataW H} {p : List MemPlace} (hv : Value.okWide Try.prog w r b0 28 v) (h : DataW.Trod enc Try.prog w 0 spare held 28 v d p) :
    ∃ (a b : ByteArray) (g : Bool) (q : DataW H), v = .agg #[.string a, .string b, .bool g] ∧ d = .agg [.lit (.string a.data.toList), .lit (.string b.data.toList), q] := by
  obtain ⟨v0, v1, v2, y0, y1, y2, n, rfl, hd, _, h0, h1, h2⟩ := open_agg3 (P := Try.prog) Try.underlying28 (by kernel_rfl) (by kernel_rfl) hv h
  obtain ⟨a, rfl, rfl, _⟩ := string_arg h0
  obtain ⟨b, rfl, rfl, _⟩ := string_arg h1
  obtain ⟨g, hg, _⟩ := DataW.trod_bool Try.underlying4 h2
  simp at hg
  exact ⟨a, b, g, y2.1, by rw [hg], hd⟩
end
end Go.Proofs.Ythhblhhbobnaiaa.Pl
