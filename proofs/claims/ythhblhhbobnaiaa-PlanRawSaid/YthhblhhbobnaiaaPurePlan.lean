/- The plain law behind PlanRaw: whatever the lists, the printed function of PlanRaw answers true, with enough rounds; conditions: the lists' and the texts' lengths are those of things in memory. -/
import Derived.Test.YthhblhhbobnaiaaPlF3
namespace Go.Proofs.Ythhblhhbobnaiaa.Pl
open Go.RowKit Go.Proofs.YthhblhhbobnaiaaW.PrintWords Go.Proofs.YthhblhhbobnaiaaW.PrintLast Go.Proofs.YthhblhhbobnaiaaW.PrintMore
set_option linter.unusedVariables false
set_option linter.unusedSimpArgs false

theorem wrap_next {i n : Nat} (h : i < n) (hn : n ≤ 1000000) : wrap64 ((i : Int) + 1) = ((i + 1 : Nat) : Int) := by unfold wrap64; omega

theorem great_l2 (l : List S54) (hn : l.length ≤ 10) (d : Nat) : ∀ (k i : Nat), i ≤ l.length → l.length - i = d → d < k → ∃ b, gaugerlaw17_great.l2 k l (i : Int) = some b := by
  induction d with
  | zero =>
    intro k i hi hd hk
    obtain ⟨k, rfl⟩ : ∃ m, k = m + 1 := ⟨k - 1, by omega⟩
    rw [gaugerlaw17_great.l2, if_neg (by omega)]
    exact ⟨_, rfl⟩
  | succ d ih =>
    intro k i hi hd hk
    obtain ⟨k, rfl⟩ : ∃ m, k = m + 1 := ⟨k - 1, by omega⟩
    rw [gaugerlaw17_great.l2, if_pos (by omega), if_pos (by omega)]
    split
    · exact ⟨_, rfl⟩
    · rw [wrap_next (n := l.length) (by omega) (by omega)]
      exact ih k (i + 1) (by omega) (by omega) (by omega)

theorem great_l1 (ts : List S50) (vs : List S52) (l : List S54) (hn : l.length ≤ 10) (hv : vs.length ≤ 8) (d : Nat) : ∀ (k i : Nat), i ≤ vs.length → vs.length - i = d → d + 12 < k → ∃ b, gaugerlaw17_great.l1 k l (i : Int) ts vs = some b := by
  induction d with
  | zero =>
    intro k i hi hd hk
    obtain ⟨k, rfl⟩ : ∃ m, k = m + 1 := ⟨k - 1, by omega⟩
    rw [gaugerlaw17_great.l1, if_neg (by omega)]
    exact great_l2 l hn l.length k 0 (by omega) (by omega) (by omega)
  | succ d ih =>
    intro k i hi hd hk
    obtain ⟨k, rfl⟩ : ∃ m, k = m + 1 := ⟨k - 1, by omega⟩
    rw [gaugerlaw17_great.l1, if_pos (by omega), if_pos (by omega)]
    split
    · exact ⟨_, rfl⟩
    · rw [wrap_next (n := vs.length) (by omega) (by omega)]
      exact ih k (i + 1) (by omega) (by omega) (by omega)

theorem great_l0 (ts : List S50) (vs : List S52) (l : List S54) (hn : l.length ≤ 10) (hv : vs.length ≤ 8) (ht : ts.length ≤ 6) (d : Nat) : ∀ (k i : Nat), i ≤ ts.length → ts.length - i = d → d + 24 < k → ∃ b, gaugerlaw17_great.l0 k l (i : Int) ts vs = some b := by
  induction d with
  | zero =>
    intro k i hi hd hk
    obtain ⟨k, rfl⟩ : ∃ m, k = m + 1 := ⟨k - 1, by omega⟩
    rw [gaugerlaw17_great.l0, if_neg (by omega)]
    exact great_l1 ts vs l hn hv vs.length k 0 (by omega) (by omega) (by omega)
  | succ d ih =>
    intro k i hi hd hk
    obtain ⟨k, rfl⟩ : ∃ m, k = m + 1 := ⟨k - 1, by omega⟩
    rw [gaugerlaw17_great.l0, if_pos (by omega), if_pos (by omega)]
    split
    · exact ⟨_, rfl⟩
    · rw [wrap_next (n := ts.length) (by omega) (by omega)]
      exact ih k (i + 1) (by omega) (by omega) (by omega)

theorem great_some (ts : List S50) (vs : List S52) (l : List S54) (k : Nat) (hk : 50 < k) : ∃ b, gaugerlaw17_great.f k ts vs l = some b ∧ (b = false → ts.length ≤ 6 ∧ vs.length ≤ 8 ∧ l.length ≤ 10) := by
  obtain ⟨k, rfl⟩ : ∃ m, k = m + 1 := ⟨k - 1, by omega⟩
  unfold gaugerlaw17_great.f
  by_cases h1 : (ts.length : Int) > 6
  · rw [if_pos h1]
    exact ⟨true, by rw [gaugerlaw17_great.j0, if_pos rfl], by simp⟩
  · rw [if_neg h1]
    by_cases h2 : (vs.length : Int) > 8
    · rw [if_pos h2]
      exact ⟨true, by rw [gaugerlaw17_great.j0, if_pos rfl], by simp⟩
    · rw [if_neg h2]
      by_cases h3 : (l.length : Int) > 10
      · exact ⟨true, by rw [gaugerlaw17_great.j0, if_pos (by simpa using h3)], by simp⟩
      · obtain ⟨b, hb⟩ := great_l0 ts vs l (by omega) (by omega) (by omega) ts.length k 0 (by omega) (by omega) (by omega)
        exact ⟨b, by rw [gaugerlaw17_great.j0, if_neg (by simpa using h3)]; exact hb, fun _ => by omega⟩

theorem fits_l0 (ts : List S50) (vs : List S52) (n : Int) (l : List S54) (h0 : 0 ≤ n) (h1 : n < ts.length) (hl : l.length = ((rd_T50 ts n).f0).length) (hn : l.length ≤ 10) (d : Nat) :
    ∀ (k i : Nat), i ≤ l.length → l.length - i = d → d < k → ∃ r, plan_Fits.l0 k n l (l.length : Int) (i : Int) ts vs = some r ∧ (r = 0 ∨ r = 1) := by
  induction d with
  | zero =>
    intro k i hi hd hk
    obtain ⟨k, rfl⟩ : ∃ m, k = m + 1 := ⟨k - 1, by omega⟩
    rw [plan_Fits.l0, if_neg (by omega)]
    exact ⟨_, rfl, .inl rfl⟩
  | succ d ih =>
    intro k i hi hd hk
    obtain ⟨k, rfl⟩ : ∃ m, k = m + 1 := ⟨k - 1, by omega⟩
    rw [plan_Fits.l0, if_pos (by omega), if_pos (by omega), if_pos (by omega), if_pos h0, if_pos h1, if_pos (by omega)]
    split
    · obtain ⟨b, hb⟩ := good_some ((rd_T54 l i).f0) ((rd_T54 l i).f1) ((rd_T54 l i).f2)
      rw [hb]
      simp only [Option.bind_some]
      split
      · rw [wrap_next (n := l.length) (by omega) (by omega)]
        exact ih k (i + 1) (by omega) (by omega) (by omega)
      · exact ⟨_, rfl, .inr rfl⟩
    · exact ⟨_, rfl, .inr rfl⟩

theorem fits_some (ts : List S50) (vs : List S52) (n : Int) (l : List S54) (hn : l.length ≤ 10) (k : Nat) (hk : 20 < k) : ∃ r, plan_Fits.f k ts vs n l = some r ∧ (r = 0 ∨ r = 1) ∧ (n < 0 ∨ (ts.length : Int) ≤ n → r = 1) := by
  obtain ⟨k, rfl⟩ : ∃ m, k = m + 1 := ⟨k - 1, by omega⟩
  unfold plan_Fits.f
  by_cases h0 : n < 0
  · rw [if_pos h0]
    exact ⟨1, by rw [plan_Fits.j0, if_pos rfl], .inr rfl, fun _ => rfl⟩
  · rw [if_neg h0]
    by_cases h1 : n ≥ ts.length
    · rw [if_pos h1]
      exact ⟨1, by rw [plan_Fits.j0, if_pos rfl], .inr rfl, fun _ => rfl⟩
    · rw [if_neg h1, if_pos (by omega), if_pos (by omega)]
      by_cases h2 : l.length = ((rd_T50 ts n).f0).length
      · obtain ⟨r, hr, h01⟩ := fits_l0 ts vs n l (by omega) (by omega) h2 hn l.length k 0 (by omega) (by omega) (by omega)
        exact ⟨r, by rw [plan_Fits.j0, if_neg (by simp; omega)]; exact hr, h01, fun h => by omega⟩
      · exact ⟨1, by rw [plan_Fits.j0, if_pos (by simp; omega)], .inr rfl, fun _ => rfl⟩

theorem entry_some (ts : List S50) (vs : List S52) (n : Int) (l : List S54) (hn : l.length ≤ 10) (k : Nat) (hk : 20 < k) : ∃ r, plan_Entry.f k ts vs n l = some r ∧ (n < 0 ∨ (ts.length : Int) ≤ n → r.2.2.2 = 1) := by
  obtain ⟨f, hf, h01, hout⟩ := fits_some ts vs n l hn k hk
  unfold plan_Entry.f
  rw [hf]
  simp only [Option.bind_some]
  by_cases h0 : f = 0
  · rw [if_pos h0]
    obtain ⟨r, e, hr, hs, he⟩ := row_some l
    rw [hr]
    simp only [Option.bind_some]
    have hno : ¬ (n < 0 ∨ (ts.length : Int) ≤ n) := fun h => by have := hout h; omega
    by_cases h1 : e = 0
    · rw [if_pos h1]
      by_cases h2 : (l.length : Int) = 0
      · rw [if_pos h2]; exact ⟨_, rfl, fun h => absurd h hno⟩
      · have := hs h1
        rw [if_neg h2, if_pos (by omega), if_pos (by omega)]
        exact ⟨_, rfl, fun h => absurd h hno⟩
    · rw [if_neg h1]; exact ⟨_, rfl, fun h => absurd h hno⟩
  · rw [if_neg h0]
    exact ⟨_, rfl, fun _ => by show f = 1; omega⟩

theorem readRow_l0 (d : Nat) : ∀ (k : Nat) (s : ByteArray) (acc : List S54), s.size = 9 * d → d < k → acc.length + d ≤ 10 → ∃ r, sign_ReadRow.l0 k s acc = some r ∧ (r.1.length ≤ acc.length + d) := by
  induction d with
  | zero =>
    intro k s acc hs hk ha
    obtain ⟨k, rfl⟩ : ∃ m, k = m + 1 := ⟨k - 1, by omega⟩
    have h0 : s.toList = [] := by
      rw [ByteArray.toList_eq]
      have : s.data.size = 0 := by show s.size = 0; omega
      simp [Array.size_eq_zero_iff.1 this]
    rw [sign_ReadRow.l0, if_pos h0]
    exact ⟨_, rfl, by simp⟩
  | succ d ih =>
    intro k s acc hs hk ha
    obtain ⟨k, rfl⟩ : ∃ m, k = m + 1 := ⟨k - 1, by omega⟩
    have h0 : ¬ s.toList = [] := by
      rw [ByteArray.toList_eq]
      intro h
      have : s.size = 0 := by show s.data.size = 0; rw [← Array.length_toList, h]; rfl
      omega
    rw [sign_ReadRow.l0, if_neg h0, if_pos (by omega), if_pos (by omega)]
    obtain ⟨r, hr⟩ := read_some (s.extract 0 9)
    rw [hr]
    simp only [Option.bind_some]
    split
    · rw [if_pos (by omega)]
      obtain ⟨q, hq, hl⟩ := ih k (s.extract 9 s.size) (acc ++ [⟨r.1, r.2.1, r.2.2.1⟩]) (by rw [ByteArray.size_extract]; omega) (by omega) (by simp; omega)
      exact ⟨q, hq, by simp at hl; omega⟩
    · exact ⟨_, rfl, by simp⟩

theorem readRow_some (s : ByteArray) (k : Nat) (hk : 20 < k) : ∃ r, sign_ReadRow.f k s = some r ∧ r.1.length ≤ 10 := by
  obtain ⟨k, rfl⟩ : ∃ m, k = m + 1 := ⟨k - 1, by omega⟩
  unfold sign_ReadRow.f
  by_cases h0 : (s.size : Int) % 9 = 0
  · rw [if_pos h0]
    by_cases h1 : (s.size : Int) > 36
    · exact ⟨_, by rw [sign_ReadRow.j0, if_pos (by simpa using h1)], by simp⟩
    · obtain ⟨r, hr, hl⟩ := readRow_l0 (s.size / 9) k s [] (by omega) (by omega) (by simp; omega)
      exact ⟨r, by rw [sign_ReadRow.j0, if_neg (by simpa using h1)]; exact hr, by simp at hl; omega⟩
  · rw [if_neg h0]
    exact ⟨_, by rw [sign_ReadRow.j0, if_pos rfl], by simp⟩

theorem row3_some (ts : List S50) (vs : List S52) (n : Int) (a b : ByteArray) (g : Bool) (hs : a.size + b.size ≤ 9223372036854775807) (k : Nat) (hk : 20 < k) : ∃ r, plan_Row.f k ts vs n a b g = some r ∧ (n < 0 ∨ (ts.length : Int) ≤ n → r.2 = 3) := by
  unfold plan_Row.f
  rw [if_pos hs]
  obtain ⟨r, hr, hl⟩ := readRow_some (a ++ b) k hk
  rw [hr]
  simp only [Option.bind_some]
  split
  · split
    · obtain ⟨f, hf, h01, hout⟩ := fits_some ts vs n r.1 hl k hk
      rw [hf]
      simp only [Option.bind_some]
      split
      · exact ⟨_, rfl, fun h => by have := hout h; omega⟩
      · exact ⟨_, rfl, fun _ => rfl⟩
    · exact ⟨_, rfl, fun _ => rfl⟩
  · exact ⟨_, rfl, fun _ => rfl⟩

theorem group_some (ts : List S50) (vs : List S52) (n : Int) (l : List S54) (hn : l.length ≤ 10) (k : Nat) (hk : 20 < k) : ∃ r, plan_Group.f k ts vs n l = some r ∧ (n < 0 ∨ (vs.length : Int) ≤ n → r.toList = []) := by
  obtain ⟨k, rfl⟩ : ∃ m, k = m + 1 := ⟨k - 1, by omega⟩
  unfold plan_Group.f
  have e0 : (⟨#[]⟩ : ByteArray).toList = [] := by rw [ByteArray.toList_eq]
  by_cases h0 : n < 0
  · rw [if_pos h0]
    exact ⟨_, by rw [plan_Group.j0, if_pos rfl], fun _ => e0⟩
  · rw [if_neg h0]
    by_cases h1 : n ≥ vs.length
    · rw [if_pos h1]
      exact ⟨_, by rw [plan_Group.j0, if_pos rfl], fun _ => e0⟩
    · rw [if_neg h1, if_pos (by omega), if_pos (by omega)]
      obtain ⟨f, hf, h01, hout⟩ := fits_some ts vs ((rd_T52 vs n).f0) l hn (k + 1) hk
      rw [hf]
      simp only [Option.bind_some]
      have key : ∃ r, plan_Group.j0 (k + 1) n l (f != 0) ts vs = some r := by
        rw [plan_Group.j0]
        split
        · exact ⟨_, rfl⟩
        · rw [if_pos (by omega), if_pos (by omega)]
          split
          · exact ⟨_, rfl⟩
          · split
            · exact ⟨_, rfl⟩
            · rw [if_pos (by omega), if_pos (by omega)]
              obtain ⟨rc, re, hc, _⟩ := code_some ((rd_T54 l ((rd_T52 vs n).f1)).f0) ((rd_T54 l ((rd_T52 vs n).f1)).f1) ((rd_T54 l ((rd_T52 vs n).f1)).f2)
              rw [hc]
              exact ⟨_, rfl⟩
      obtain ⟨r, hr⟩ := key
      exact ⟨r, hr, fun h => by omega⟩

theorem views_l0 (vs : List S52) (n : Int) (hv : vs.length ≤ 8) (d : Nat) : ∀ (k i : Nat) (acc : List Int), i ≤ vs.length → vs.length - i = d → d < k → acc.length + d ≤ 100 → ∃ r, plan_Views.l0 k n acc vs (vs.length : Int) (i : Int) = some r := by
  induction d with
  | zero =>
    intro k i acc hi hd hk ha
    obtain ⟨k, rfl⟩ : ∃ m, k = m + 1 := ⟨k - 1, by omega⟩
    rw [plan_Views.l0, if_neg (by omega)]
    exact ⟨_, rfl⟩
  | succ d ih =>
    intro k i acc hi hd hk ha
    obtain ⟨k, rfl⟩ : ∃ m, k = m + 1 := ⟨k - 1, by omega⟩
    rw [plan_Views.l0, if_pos (by omega), if_pos (by omega), if_pos (by omega)]
    rw [wrap_next (n := vs.length) (by omega) (by omega)]
    split
    · rw [if_pos (by omega)]
      exact ih k (i + 1) _ (by omega) (by omega) (by omega) (by simp; omega)
    · exact ih k (i + 1) _ (by omega) (by omega) (by omega) (by omega)

theorem j1_true (ts : List S50) (vs : List S52) (n : Int) (s : ByteArray) (k : Nat) (hk : 20 < k) (ho : n < 0 ∨ (vs.length : Int) ≤ n → s.toList = []) : gaugerlaw17_PlanRaw.j1 k n s false ts vs = some true := by
  obtain ⟨k, rfl⟩ : ∃ m, k = m + 1 := ⟨k - 1, by omega⟩
  rw [gaugerlaw17_PlanRaw.j1, if_neg (by simp)]
  unfold plan_Trees.f
  by_cases h0 : n < 0
  · rw [if_pos h0, if_pos (ho (.inl h0))]
    simp
  · rw [if_neg h0]
    by_cases h1 : n ≥ vs.length
    · rw [if_pos h1, if_pos (ho (.inr (by omega)))]
      simp
    · rw [if_neg h1]
      simp

theorem pp_j0 (ts : List S50) (vs : List S52) (n : Int) (l : List S54) (a b : ByteArray) (g : Bool) (x : Bool) (hs : a.size + b.size ≤ 9223372036854775807) (ht : ts.length ≤ 6) (hv : vs.length ≤ 8) (hl : l.length ≤ 10) (k : Nat) (hk : 60 < k) :
    gaugerlaw17_PlanRaw.j0 k n l x ts vs a b g = some true := by
  obtain ⟨k, rfl⟩ : ∃ m, k = m + 1 := ⟨k - 1, by omega⟩
  rw [gaugerlaw17_PlanRaw.j0]
  cases x with
  | true => rw [if_pos rfl]
  | false =>
    rw [if_neg (by simp)]
    obtain ⟨e, he, heo⟩ := entry_some ts vs n l hl k (by omega)
    obtain ⟨r, hr, hro⟩ := row3_some ts vs n a b g hs k (by omega)
    obtain ⟨s, hs, hso⟩ := group_some ts vs n l hl k (by omega)
    obtain ⟨f, hf, _, hfo⟩ := fits_some ts vs n l hl k (by omega)
    obtain ⟨v, hvw⟩ := views_l0 vs n hv vs.length k 0 [] (by omega) (by omega) (by omega) (by simp; omega)
    have hvw2 : plan_Views.f k ts vs n = some v := by unfold plan_Views.f; exact hvw
    rw [he, hr, hs, hf, hvw2]
    simp only [Option.bind_some]
    have hj := j1_true ts vs n s k (by omega) hso
    by_cases h0 : n < 0
    · rw [if_pos h0, if_pos (heo (.inl h0)), if_pos (hro (.inl h0)), if_pos (hfo (.inl h0))]
      exact hj
    · rw [if_neg h0]
      by_cases h1 : n ≥ ts.length
      · rw [if_pos h1, if_pos (heo (.inr (by omega))), if_pos (hro (.inr (by omega))), if_pos (hfo (.inr (by omega)))]
        exact hj
      · rw [if_neg h1]
        exact hj

theorem pp_j0_true (ts : List S50) (vs : List S52) (n : Int) (l : List S54) (a b : ByteArray) (g : Bool) (k : Nat) : gaugerlaw17_PlanRaw.j0 (k + 1) n l true ts vs a b g = some true := by
  rw [gaugerlaw17_PlanRaw.j0, if_pos rfl]

theorem planRaw_pure (ts : List S50) (vs : List S52) (n : Int) (l : List S54) (a b : ByteArray) (g : Bool) (ha : a.size ≤ 140737488351232) (hb : b.size ≤ 140737488351232) (k : Nat) (hk : 70 < k) :
    gaugerlaw17_PlanRaw.f k ts vs n l a b g = some true := by
  obtain ⟨k, rfl⟩ : ∃ m, k = m + 1 := ⟨k - 1, by omega⟩
  unfold gaugerlaw17_PlanRaw.f gaugerlaw17_awake.f
  rw [Option.bind_some, if_pos rfl]
  obtain ⟨q, hq, hlen⟩ := great_some ts vs l (k + 1) (by omega)
  rw [hq, Option.bind_some]
  have hs : a.size + b.size ≤ 9223372036854775807 := by omega
  cases q with
  | true => rw [if_pos rfl]; exact pp_j0_true ts vs n l a b g k
  | false =>
    obtain ⟨ht, hv, hl⟩ := hlen rfl
    rw [if_neg (by simp)]
    exact pp_j0 ts vs n l a b g _ hs ht hv hl (k + 1) (by omega)

end Go.Proofs.Ythhblhhbobnaiaa.Pl
