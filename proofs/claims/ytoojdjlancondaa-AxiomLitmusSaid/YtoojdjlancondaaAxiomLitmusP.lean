/- Message passing and store buffering with any values: for every input, no condition. -/
import Derived.Test.YtoojdjlancondaaLB
import Derived.Test.YtoojdjlancondaaRows
import Derived.WalkKit
import Derived.ProofKit
import Derived.OpenShut
import Derived.ShutString
import Derived.ChangeOld
import Derived.Below
import Derived.SizedLaws
set_option linter.unusedVariables false
namespace Go.Proofs.Ytoojdjlancondaa.axiomLitmus
open Go.V L31
open Go.ChangeShapes Go.WideShapes Go.ChangeAt Go.RowKit
theorem own : ownKnob Try.prog.godebug = none := by kernel_rfl
theorem laidOut : laidOutB Try.prog = true := by kernel_rfl
theorem byte {n : Int} (h : (Lit.int .u8 n).wf = true) : 0 ≤ n ∧ n ≤ 255 := by
  simp only [Lit.wf, decide_eq_true_eq, Bool.and_eq_true] at h
  exact h
theorem bytes {l : List Int} (h : ∀ x : Int, List.Mem x l → (CTs.one cU).ok x) : isB l := fun x hx => byte (h x hx)
theorem word {n : Int} (h : (Lit.int .i64 n).wf = true) : -9223372036854775808 ≤ n ∧ n ≤ 9223372036854775807 := by
  simp only [Lit.wf, decide_eq_true_eq, Bool.and_eq_true] at h
  exact h
theorem preOk : ∀ a b, okAS S9.args a → S9.pre a b := fun a b h => ⟨byte h.1, byte h.2.1⟩
set_option maxRecDepth 100000 in
theorem lifted (os : Os) (started : os.Started) (H : Type) (enc : TypeId × Value → H) :
    ReturnsInHanded {} Try.checked os 9 .any (Rows.axiomLitmusSpec.pre6 enc Try.prog Try.f9 Rows.axiomLitmusRow.domain false) (Rows.axiomLitmusSpec.post enc Try.prog Try.f9 false true false false) := by
  refine returnsInHanded_of_change_sized (C := Try.checked) own started (by kernel_rfl) Try.func9
    (ChangeSpec.witness6 (enc := enc) (C := Try.checked) false ⟨#[], #[.int .u8 0, .int .u8 0, .bool false], []⟩ 8 (by kernel_rfl) (by kernel_rfl) (by kernel_rfl) (by kernel_rfl)) ?_
  intro W base args ds gs before hval0 hW hcnd hsz0 _
  have hsz : (DataW.weightsEach Try.prog (Try.f9.params.toList ++ Rows.axiomLitmusSpec.plain.varTypes Try.prog) (ds ++ gs)).all (· ≤ reachBytes) = true := hsz0
  have hval : ∀ (j : Nat) t v, Try.f9.params[j]? = some t → args[j]? = some v → Value.okWide Try.prog W .any base t v := hval0
  have hW' := hW
  obtain ⟨p, q, hA0, hV, rfl, hfz, hnd⟩ := hW
  have hA : DataW.TrodAll enc Try.prog W 0 (fun _ => true) true Try.f9.params.toList args.toList ds p := hA0
  obtain ⟨rfl, rfl⟩ := trodVars_none hV
  have hlen : ds.length = 3 := trodAll_len hA
  match ds, hlen, hA, hW', hsz with
  | [d0, d1, d2], _, hA, hW', hsz =>
    refine (law_calls (S := S9) f9_sound preOk (fun _ _ _ => rfl) rfl (fun _ _ => rfl) (ts := Try.f9.params.toList) (by kernel_rfl) laidOut (by kernel_rfl) (b0 := base) (fun j t v ht hv => hval j t v (by simpa using ht) hv) hA hsz).mono fun e W' he => ?_
    obtain ⟨rfl, bel, hT⟩ := he
    exact ⟨_, rfl, _, _, _, _, _, _, hW', trodAll_mk1 (shut_bool Try.underlying4 _), hT, rfl, bel.frame _, fun h => by cases h⟩
theorem over : Rows.axiomLitmusRow.holds Try.pinned (OpenSpec.ofChange Rows.axiomLitmusSpec) :=
  OpenClaim.holds_of_wide 9 Try.f9 rfl rfl rfl rfl rfl rfl rfl ⟨rfl, rfl, rfl, rfl, rfl⟩ rfl rfl rfl rfl rfl (by kernel_rfl) Try.func9 (by kernel_rfl)
    (of_decide_eq_true (by kernel_rfl)) (by unfold Func.isWrapper; first | (rw [if_pos (by decide +kernel)]; kernel_rfl) | (rw [if_neg (by decide +kernel)]; exact ⟨rfl, rfl⟩))
    (fun os started H enc _ => lifted os started H enc)
theorem proved : Rows.AxiomLitmusSaid := over
end Go.Proofs.Ytoojdjlancondaa.axiomLitmus
