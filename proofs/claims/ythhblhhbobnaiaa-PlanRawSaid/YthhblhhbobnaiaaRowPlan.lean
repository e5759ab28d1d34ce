/- PlanRaw: whatever the plan, the number, the row and the entry, the call returns true, and each argument reads behind it as it read before; no condition. -/
import Derived.Test.YthhblhhbobnaiaaRows
import Derived.Test.YthhblhhbobnaiaaPurePlan
import Derived.Test.YthhblhhbobnaiaaArgs
import Derived.WalkKit
import Derived.ProofKit
import Derived.OpenShut
import Derived.ShutString
import Derived.ChangeOld
import Derived.Below
import Derived.SizedLaws
namespace Go.Proofs.Ythhblhhbobnaiaa.PlanRow
open Go.ChangeShapes Go.WideShapes Go.ChangeAt Go.RowKit Go.Proofs.Ythhblhhbobnaiaa.Pl
open Go.ChangeMaps (open_string shut_string)
set_option linter.unusedVariables false

theorem own : ownKnob Try.prog.godebug = none := by kernel_rfl
theorem laidOut : laidOutB Try.prog = true := by kernel_rfl

theorem walk (A : Option Addr) (c : Nat) (ts : List S50) (A1 : Option Addr) (c1 : Nat) (vs : List S52) (n : Int) (A2 : Option Addr) (c2 : Nat) (l : List S54) (a b : ByteArray) (g : Bool) (w : World)
    (h1 : ts.length ≤ c) (h2 : Go.Proofs.YthhblhhbobnaiaaW.PrintWords.Kd.C k50 w A ts.length ts) (h3 : vs.length ≤ c1) (h4 : Go.Proofs.YthhblhhbobnaiaaW.PrintWords.Kd.C k52 w A1 vs.length vs) (h5 : l.length ≤ c2) (h6 : Go.Proofs.YthhblhhbobnaiaaW.PrintWords.Kd.C k54 w A2 l.length l)
    (ha : a.size ≤ 140737488351232) (hb : b.size ≤ 140737488351232) :
    Calls Try.prog 3 #[.agg #[.slice A ts.length c, .slice A1 vs.length c1], .int .i64 n, .slice A2 l.length c2, .agg #[.string a, .string b, .bool g]] w fun e w' => e = .returned (.bool true) ∧ Below w.heap.size w w' :=
  gaugerlaw17_PlanRaw.calls 100 A c ts A1 c1 vs n A2 c2 l a b g true w h2 h1 h4 h3 h6 h5 (planRaw_pure ts vs n l a b g ha hb 100 (by omega))

set_option maxHeartbeats 2000000 in
set_option maxRecDepth 100000 in
theorem lifted (os : Os) (started : os.Started) (H : Type) (enc : TypeId × Value → H) :
    ReturnsInHanded {} Try.checked os 3 .any (Rows.planRawSpec.pre6 enc Try.prog Try.f3 Rows.planRawRow.domain false) (Rows.planRawSpec.post enc Try.prog Try.f3 false true false false) := by
  refine returnsInHanded_of_change_sized (C := Try.checked) own started (by kernel_rfl) Try.func3
    (ChangeSpec.witness6 (enc := enc) (C := Try.checked) false ⟨#[], #[.agg #[.slice none 0 0, .slice none 0 0], .int .i64 0, .slice none 0 0, .agg #[.string ByteArray.empty, .string ByteArray.empty, .bool false]], []⟩ 8 (by kernel_rfl) (by kernel_rfl) (by kernel_rfl) (by kernel_rfl)) ?_
  intro W base args ds gs before hval0 hW hcnd hsz0 _
  have hsz : (DataW.weightsEach Try.prog (Try.f3.params.toList ++ Rows.planRawSpec.plain.varTypes Try.prog) (ds ++ gs)).all (· ≤ reachBytes) = true := hsz0
  have hval : ∀ (j : Nat) t v, Try.f3.params[j]? = some t → args[j]? = some v → Value.okWide Try.prog W .any base t v := hval0
  have hW' := hW
  obtain ⟨p, q, hA0, hV, rfl, hfz, hnd⟩ := hW
  have hA : DataW.TrodAll enc Try.prog W 0 (fun _ => true) true Try.f3.params.toList args.toList ds p := hA0
  rw [Try.params3] at hA hval hsz
  obtain ⟨v0, vs0, d0, ds0, p0, q0, hargs, rfl, rfl, h0, r0⟩ := trodAll_cons hA
  obtain ⟨v1, vs1, d1, ds1, p1, q1, rfl, rfl, rfl, h1, r1⟩ := trodAll_cons r0
  obtain ⟨v2, vs2, d2, ds2, p2, q2, rfl, rfl, rfl, h2, r2⟩ := trodAll_cons r1
  obtain ⟨v3, vs3, d3, ds3, p3, q3, rfl, rfl, rfl, h3, r3⟩ := trodAll_cons r2
  obtain ⟨rfl, rfl, rfl⟩ := trodAll_nil r3
  obtain rfl : args = #[v0, v1, v2, v3] := by cases args; simp_all
  obtain ⟨rfl, rfl⟩ := trodVars_none hV
  have k0 := h0
  have k2 := h2
  have k3 := h3
  have lt0 : ∀ x ∈ p0, x.block < W.heap.size := by obtain ⟨m, hm⟩ := k0; exact DataW.trod_lt m _ _ _ hm
  have lt2 : ∀ x ∈ p2, x.block < W.heap.size := by obtain ⟨m, hm⟩ := k2; exact DataW.trod_lt m _ _ _ hm
  have lt3 : ∀ x ∈ p3, x.block < W.heap.size := by obtain ⟨m, hm⟩ := k3; exact DataW.trod_lt m _ _ _ hm
  obtain ⟨A, c, ts, A1, c1, vs, rfl, a1, a2, a3, a4⟩ := plan_arg (hval 0 25 v0 rfl rfl) h0
  obtain ⟨n, rfl, rfl, rfl, w1⟩ := open_int Try.underlying3 (hval 1 3 v1 rfl rfl) h1
  obtain ⟨A2, len2, cap2, rfl⟩ := okWide_slice Try.underlying26 (hval 2 26 v2 rfl rfl)
  obtain ⟨a, b, g, q, rfl, rfl⟩ := entry_arg (hval 3 28 v3 rfl rfl) h3
  obtain ⟨fuel2, hf2⟩ := h2
  obtain ⟨A2', c2', l, he2, b1, b2⟩ := values_arg (show DataW.trod enc Try.prog W 0 _ _ fuel2 26 [.slice A2 len2 cap2] = _ from hf2)
  injection he2 with e1 e2 e3
  subst e1 e2 e3
  have hmem : ∀ m ∈ (DataW.agg [.lit (.string a.data.toList), .lit (.string b.data.toList), q] : DataW H).weights Try.prog 28, m ≤ 140737488351232 := fun m hm => by
    have h := List.all_eq_true.1 hsz m (DataW.weights_mem_each (j := 3) (t := 28) rfl rfl m hm)
    exact of_decide_eq_true h
  have ha : a.size ≤ 140737488351232 := by
    have := hmem a.data.toList.length (by simp [DataW.weights, DataW.weightsEach, Try.underlying28])
    simpa using this
  have hb : b.size ≤ 140737488351232 := by
    have := hmem b.data.toList.length (by simp [DataW.weights, DataW.weightsEach, Try.underlying28])
    simpa using this
  clear hA0 hval0 hsz0 hsz hmem
  refine (walk A c ts A1 c1 vs n _ _ l a b g W a1 a2 a3 a4 b1 b2 ha hb).mono fun e W' ⟨he, bel⟩ => ?_
  subst he
  exact ⟨_, rfl, _, _, _, [], _, [], hW', trodAll_mk1 (shut_bool Try.underlying4 _),
    (trodAll_cons_mk (Below.trod laidOut (by kernel_rfl) (of_decide_eq_true (by kernel_rfl)) k0 bel lt0) (trodAll_cons_mk (shut_int Try.underlying3 w1) (trodAll_cons_mk (Below.trod laidOut (by kernel_rfl) (of_decide_eq_true (by kernel_rfl)) k2 bel lt2) (trodAll_cons_mk (Below.trod laidOut (by kernel_rfl) (of_decide_eq_true (by kernel_rfl)) k3 bel lt3) trodAll_mk0)))),
    rfl, bel.frame _, fun h => by cases h⟩

theorem over : Rows.planRawRow.holds Try.pinned (OpenSpec.ofChange Rows.planRawSpec) :=
  OpenClaim.holds_of_wide 3 Try.f3 rfl rfl rfl rfl rfl rfl rfl ⟨rfl, rfl, rfl, rfl, rfl⟩ rfl rfl rfl rfl rfl (by kernel_rfl) Try.func3 (by kernel_rfl)
    (of_decide_eq_true (by kernel_rfl)) (by unfold Func.isWrapper; first | (rw [if_pos (by decide +kernel)]; kernel_rfl) | (rw [if_neg (by decide +kernel)]; exact ⟨rfl, rfl⟩))
    (fun os started H enc _ => lifted os started H enc)
end Go.Proofs.Ythhblhhbobnaiaa.PlanRow
namespace Go.Proofs.Ythhblhhbobnaiaa
/-- PlanRaw's row. -/
theorem planRaw_holds : Rows.PlanRawSaid := PlanRow.over
#print axioms planRaw_holds
end Go.Proofs.Ythhblhhbobnaiaa
