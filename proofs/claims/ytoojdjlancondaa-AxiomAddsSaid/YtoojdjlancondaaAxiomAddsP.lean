/- In a graph that is allowed, a place that additions alone write ends as the sum of all V, and no two additions read the same write: for every input, no condition. -/
import Derived.Test.YtoojdjlancondaaLB
import Derived.Test.YtoojdjlancondaaRows
import Derived.WalkKit
import Derived.ProofKit
import Derived.OpenShut
import Derived.ShutString
import Derived.ChangeOld
import Derived.Below
import Derived.SizedLaws
set_option linter.unusedVariables false
namespace Go.Proofs.Ytoojdjlancondaa.axiomAdds
open Go.V L31
open Go.ChangeShapes Go.WideShapes Go.ChangeAt Go.RowKit
theorem own : ownKnob Try.prog.godebug = none := by kernel_rfl
theorem laidOut : laidOutB Try.prog = true := by kernel_rfl
theorem byte {n : Int} (h : (Lit.int .u8 n).wf = true) : 0 ≤ n ∧ n ≤ 255 := by
  simp only [Lit.wf, decide_eq_true_eq, Bool.and_eq_true] at h
  exact h
theorem bytes {l : List Int} (h : ∀ x : Int, List.Mem x l → (CTs.one cU).ok x) : isB l := fun x hx => byte (h x hx)
theorem word {n : Int} (h : (Lit.int .i64 n).wf = true) : -9223372036854775808 ≤ n ∧ n ≤ 9223372036854775807 := by
  simp only [Lit.wf, decide_eq_true_eq, Bool.and_eq_true] at h
  exact h
theorem preOk : ∀ a b, okAS S6.args a → S6.pre a b := fun a b h => ⟨h.1.1, bytes h.1.2, bytes h.2.1.2⟩
set_option maxRecDepth 100000 in
theorem lifted (os : Os) (started : os.Started) (H : Type) (enc : TypeId × Value → H) :
    ReturnsInHanded {} Try.checked os 6 .any (Rows.axiomAddsSpec.pre6 enc Try.prog Try.f6 Rows.axiomAddsRow.domain false) (Rows.axiomAddsSpec.post enc Try.prog Try.f6 false true false false) := by
  refine returnsInHanded_of_change_sized (C := Try.checked) own started (by kernel_rfl) Try.func6
    (ChangeSpec.witness6 (enc := enc) (C := Try.checked) false ⟨#[], #[.slice none 0 0, .slice none 0 0], []⟩ 8 (by kernel_rfl) (by kernel_rfl) (by kernel_rfl) (by kernel_rfl)) ?_
  intro W base args ds gs before hval0 hW hcnd hsz0 _
  have hsz : (DataW.weightsEach Try.prog (Try.f6.params.toList ++ Rows.axiomAddsSpec.plain.varTypes Try.prog) (ds ++ gs)).all (· ≤ reachBytes) = true := hsz0
  have hval : ∀ (j : Nat) t v, Try.f6.params[j]? = some t → args[j]? = some v → Value.okWide Try.prog W .any base t v := hval0
  have hW' := hW
  obtain ⟨p, q, hA0, hV, rfl, hfz, hnd⟩ := hW
  have hA : DataW.TrodAll enc Try.prog W 0 (fun _ => true) true Try.f6.params.toList args.toList ds p := hA0
  obtain ⟨rfl, rfl⟩ := trodVars_none hV
  have hlen : ds.length = 2 := trodAll_len hA
  match ds, hlen, hA, hW', hsz with
  | [d0, d1], _, hA, hW', hsz =>
    refine (law_calls (S := S6) f6_sound preOk (fun _ _ _ => rfl) rfl (fun _ _ => rfl) (ts := Try.f6.params.toList) (by kernel_rfl) laidOut (by kernel_rfl) (b0 := base) (fun j t v ht hv => hval j t v (by simpa using ht) hv) hA hsz).mono fun e W' he => ?_
    obtain ⟨rfl, bel, hT⟩ := he
    exact ⟨_, rfl, _, _, _, _, _, _, hW', trodAll_mk1 (shut_bool Try.underlying4 _), hT, rfl, bel.frame _, fun h => by cases h⟩
theorem over : Rows.axiomAddsRow.holds Try.pinned (OpenSpec.ofChange Rows.axiomAddsSpec) :=
  OpenClaim.holds_of_wide 6 Try.f6 rfl rfl rfl rfl rfl rfl rfl ⟨rfl, rfl, rfl, rfl, rfl⟩ rfl rfl rfl rfl rfl (by kernel_rfl) Try.func6 (by kernel_rfl)
    (of_decide_eq_true (by kernel_rfl)) (by unfold Func.isWrapper; first | (rw [if_pos (by decide +kernel)]; kernel_rfl) | (rw [if_neg (by decide +kernel)]; exact ⟨rfl, rfl⟩))
    (fun os started H enc _ => lifted os started H enc)
theorem proved : Rows.AxiomAddsSaid := over
end Go.Proofs.Ytoojdjlancondaa.axiomAdds
