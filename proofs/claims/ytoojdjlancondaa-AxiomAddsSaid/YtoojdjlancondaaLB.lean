/- What functions compute, each proved of its own code by that logic: the conditions stand in the specifications. -/
import Derived.Test.YtoojdjlancondaaLA
import Derived.KernelRfl
set_option linter.unusedVariables false
set_option linter.unusedSimpArgs false
set_option linter.unusedSectionVars false
set_option linter.all false
open Go Go.V
namespace L31
set_option linter.unusedVariables false
set_option linter.unusedSimpArgs false

def S11 : FSpec := { args := [.cell lU], pre := fun a _ => (fun (b : List Int) => b.length ≤ 140737488351232 ∧ isB b) a.1, res := fun _ _ => .g [.c (.sl 0)], tk1 := fun a _ => [(0, .row true 49 (.one (.sl 45 rOp)) (madeF a.1))] }
def A11 : Ans := { op := fun r i => (bif Nat.beq r 1 && Nat.beq i 1 then {cl := true} else (bif Nat.beq r 13 && Nat.beq i 1 then {con := some S32} else (bif Nat.beq r 18 && Nat.beq i 0 then {dp := 0} else (bif Nat.beq r 18 && Nat.beq i 1 then {dp := 0} else (bif Nat.beq r 18 && Nat.beq i 7 then {op := true} else (bif Nat.beq r 19 && Nat.beq i 1 then {con := some S33} else (bif Nat.beq r 20 && Nat.beq i 3 then {cl := true} else {}))))))), lp := fun b => (bif Nat.beq b 0 then [(3, none), (3, some 0), (9, some 999), (10, some 999), (11, some 999), (12, some 999), (15, some 999), (16, some 999)] else (bif Nat.beq b 2 then [(3, none), (3, some 0), (9, some 999), (10, some 999), (11, some 999), (12, some 999), (15, some 999), (16, some 999), (26, some 999), (27, some 999), (28, some 999), (29, some 999), (30, some 999), (31, some 999)] else [])), rj := fun b => (bif Nat.beq b 10 then [.sbool 40] else []), cd := fun b => (bif Nat.beq b 4 then some ([(14, some 999)]) else none) }
-- VC

theorem f11_vc : ∀ (b : List Int), (b.length ≤ 140737488351232 ∧ isB b) → ∃ (J : Int → Prop), (bif decide ((0 : Int) < (↑b.length : Int)) then ((0 : Int) ≤ (0 : Int) ∧ (0 : Int) < (↑b.length : Int)) ∧ ((4 : Int) = (0 : Int) → False) ∧
  ((-9223372036854775808 : Int) ≤ (rd (0 : Int) b (0 : Int)).tmod (4 : Int) ∧ (rd (0 : Int) b (0 : Int)).tmod (4 : Int) ≤ (9223372036854775807 : Int)) ∧ ((-9223372036854775808 : Int) ≤ (1 : Int) + (rd (0 : Int) b (0 : Int)).tmod (4 :
  Int) ∧ (1 : Int) + (rd (0 : Int) b (0 : Int)).tmod (4 : Int) ≤ (9223372036854775807 : Int)) ∧ J ((1 : Int) + (rd (0 : Int) b (0 : Int)).tmod (4 : Int)) else J (1 : Int)) ∧ ∀ (g : Int), J g → ∃ (I : Int × Unit × List (List (Int ×
  Int × Int)) → Prop), ∃ (μ : Int × Unit × List (List (Int × Int × Int)) → Nat), I ((1 : Int), PUnit.unit, [[]]) ∧ ∀ (g_1 : Int × Unit × List (List (Int × Int × Int))), I g_1 → bif decide (g_1.fst < g) then (g_1.snd.2.length + (1 :
  Nat)) * (24 : Nat) ≤ (140737488355328 : Nat) ∧ ((-9223372036854775808 : Int) ≤ g_1.fst + (1 : Int) ∧ g_1.fst + (1 : Int) ≤ (9223372036854775807 : Int)) ∧ I (g_1.fst + (1 : Int), PUnit.unit, g_1.snd.2 ++ [[]]) ∧ μ (g_1.fst + (1 :
  Int), PUnit.unit, g_1.snd.2 ++ [[]]) < μ g_1 else ∃ (I : Int × Unit × List (List (Int × Int × Int)) → Prop), ∃ (μ : Int × Unit × List (List (Int × Int × Int)) → Nat), I ((1 : Int), PUnit.unit, g_1.snd.snd) ∧ ∀ (g_2 : Int × Unit ×
  List (List (Int × Int × Int))), I g_2 → ∃ (J : Bool → Prop), (((-9223372036854775808 : Int) ≤ g_2.fst + (1 : Int) ∧ g_2.fst + (1 : Int) ≤ (9223372036854775807 : Int)) ∧ bif decide (g_2.fst + (1 : Int) < (↑b.length : Int)) then J
  (decide (g_2.fst < (13 : Int))) else True ∧ J false) ∧ ∀ (g_3 : Bool), J g_3 → bif g_3 then ((0 : Int) ≤ g_2.fst ∧ g_2.fst < (↑b.length : Int)) ∧ ((4 : Int) = (0 : Int) → False) ∧ ((-9223372036854775808 : Int) ≤ (rd (0 : Int) b
  g_2.fst).tmod (4 : Int) ∧ (rd (0 : Int) b g_2.fst).tmod (4 : Int) ≤ (9223372036854775807 : Int)) ∧ ((-9223372036854775808 : Int) ≤ (1 : Int) + (rd (0 : Int) b g_2.fst).tmod (4 : Int) ∧ (1 : Int) + (rd (0 : Int) b g_2.fst).tmod (4 :
  Int) ≤ (9223372036854775807 : Int)) ∧ ((0 : Int) ≤ g_2.fst ∧ g_2.fst < (↑b.length : Int)) ∧ ((4 : Int) = (0 : Int) → False) ∧ ((-9223372036854775808 : Int) ≤ IntKind.u8.wrap ((rd (0 : Int) b g_2.fst).tdiv (4 : Int)) ∧
  IntKind.u8.wrap ((rd (0 : Int) b g_2.fst).tdiv (4 : Int)) ≤ (9223372036854775807 : Int)) ∧ ((3 : Int) = (0 : Int) → False) ∧ (SoundF Proofs.Try.prog (32 : Nat) S32 ∧ True) ∧ bif wr ((1 : Int) + (rd (0 : Int) b g_2.fst).tmod (4 :
  Int), (IntKind.u8.wrap ((rd (0 : Int) b g_2.fst).tdiv (4 : Int))).tmod (3 : Int), (0 : Int)) then ((-9223372036854775808 : Int) ≤ g_2.fst + (1 : Int) ∧ g_2.fst + (1 : Int) ≤ (9223372036854775807 : Int)) ∧ ((0 : Int) ≤ g_2.fst + (1
  : Int) ∧ g_2.fst + (1 : Int) < (↑b.length : Int)) ∧ ((4 : Int) = (0 : Int) → False) ∧ ((-9223372036854775808 : Int) ≤ IntKind.u8.wrap ((rd (0 : Int) b (g_2.fst + (1 : Int))).tdiv (4 : Int)) ∧ IntKind.u8.wrap ((rd (0 : Int) b
  (g_2.fst + (1 : Int))).tdiv (4 : Int)) ≤ (9223372036854775807 : Int)) ∧ ((9 : Int) = (0 : Int) → False) ∧ ((-9223372036854775808 : Int) ≤ (1 : Int) + (IntKind.u8.wrap ((rd (0 : Int) b (g_2.fst + (1 : Int))).tdiv (4 : Int))).tmod (9
  : Int) ∧ (1 : Int) + (IntKind.u8.wrap ((rd (0 : Int) b (g_2.fst + (1 : Int))).tdiv (4 : Int))).tmod (9 : Int) ≤ (9223372036854775807 : Int)) ∧ bif (1 : Int) + (rd (0 : Int) b g_2.fst).tmod (4 : Int) == (4 : Int) then
  ((-9223372036854775808 : Int) ≤ g_2.fst + (1 : Int) ∧ g_2.fst + (1 : Int) ≤ (9223372036854775807 : Int)) ∧ ((0 : Int) ≤ g_2.fst + (1 : Int) ∧ g_2.fst + (1 : Int) < (↑b.length : Int)) ∧ ((-9223372036854775808 : Int) ≤ rd (0 : Int) b
  (g_2.fst + (1 : Int)) ∧ rd (0 : Int) b (g_2.fst + (1 : Int)) ≤ (9223372036854775807 : Int)) ∧ (g = (0 : Int) → False) ∧ ((0 : Int) ≤ (rd (0 : Int) b (g_2.fst + (1 : Int))).tmod g ∧ (rd (0 : Int) b (g_2.fst + (1 : Int))).tmod g <
  (↑g_2.snd.snd.length : Int)) ∧ ((rd (0 : Int) b (g_2.fst + (1 : Int))).tmod g).toNat < g_2.snd.snd.length ∧ ((rd [] g_2.snd.snd (↑((rd (0 : Int) b (g_2.fst + (1 : Int))).tmod g).toNat : Int)).length + (1 : Nat)) * (24 : Nat) ≤
  (140737488355328 : Nat) ∧ ((0 : Int) ≤ (rd (0 : Int) b (g_2.fst + (1 : Int))).tmod g ∧ (rd (0 : Int) b (g_2.fst + (1 : Int))).tmod g < (↑g_2.snd.snd.length : Int)) ∧ (((rd (0 : Int) b (g_2.fst + (1 : Int))).tmod g).toNat = ((rd (0
  : Int) b (g_2.fst + (1 : Int))).tmod g).toNat ∧ ((rd (0 : Int) b (g_2.fst + (1 : Int))).tmod g).toNat < g_2.snd.snd.length) ∧ ((-9223372036854775808 : Int) ≤ g_2.fst + (2 : Int) ∧ g_2.fst + (2 : Int) ≤ (9223372036854775807 : Int))
  ∧ I (g_2.fst + (2 : Int), PUnit.unit, g_2.snd.snd.set ((rd (0 : Int) b (g_2.fst + (1 : Int))).tmod g).toNat (rd [] g_2.snd.snd (↑((rd (0 : Int) b (g_2.fst + (1 : Int))).tmod g).toNat : Int) ++ [((1 : Int) + (rd (0 : Int) b
  g_2.fst).tmod (4 : Int), (0 : Int), (1 : Int) + (IntKind.u8.wrap ((rd (0 : Int) b (g_2.fst + (1 : Int))).tdiv (4 : Int))).tmod (9 : Int))])) ∧ μ (g_2.fst + (2 : Int), PUnit.unit, g_2.snd.snd.set ((rd (0 : Int) b (g_2.fst + (1 :
  Int))).tmod g).toNat (rd [] g_2.snd.snd (↑((rd (0 : Int) b (g_2.fst + (1 : Int))).tmod g).toNat : Int) ++ [((1 : Int) + (rd (0 : Int) b g_2.fst).tmod (4 : Int), (0 : Int), (1 : Int) + (IntKind.u8.wrap ((rd (0 : Int) b (g_2.fst + (1
  : Int))).tdiv (4 : Int))).tmod (9 : Int))])) < μ g_2 else ((-9223372036854775808 : Int) ≤ g_2.fst + (1 : Int) ∧ g_2.fst + (1 : Int) ≤ (9223372036854775807 : Int)) ∧ ((0 : Int) ≤ g_2.fst + (1 : Int) ∧ g_2.fst + (1 : Int) <
  (↑b.length : Int)) ∧ ((-9223372036854775808 : Int) ≤ rd (0 : Int) b (g_2.fst + (1 : Int)) ∧ rd (0 : Int) b (g_2.fst + (1 : Int)) ≤ (9223372036854775807 : Int)) ∧ (g = (0 : Int) → False) ∧ ((0 : Int) ≤ (rd (0 : Int) b (g_2.fst + (1
  : Int))).tmod g ∧ (rd (0 : Int) b (g_2.fst + (1 : Int))).tmod g < (↑g_2.snd.snd.length : Int)) ∧ ((rd (0 : Int) b (g_2.fst + (1 : Int))).tmod g).toNat < g_2.snd.snd.length ∧ ((rd [] g_2.snd.snd (↑((rd (0 : Int) b (g_2.fst + (1 :
  Int))).tmod g).toNat : Int)).length + (1 : Nat)) * (24 : Nat) ≤ (140737488355328 : Nat) ∧ ((0 : Int) ≤ (rd (0 : Int) b (g_2.fst + (1 : Int))).tmod g ∧ (rd (0 : Int) b (g_2.fst + (1 : Int))).tmod g < (↑g_2.snd.snd.length : Int)) ∧
  (((rd (0 : Int) b (g_2.fst + (1 : Int))).tmod g).toNat = ((rd (0 : Int) b (g_2.fst + (1 : Int))).tmod g).toNat ∧ ((rd (0 : Int) b (g_2.fst + (1 : Int))).tmod g).toNat < g_2.snd.snd.length) ∧ ((-9223372036854775808 : Int) ≤ g_2.fst
  + (2 : Int) ∧ g_2.fst + (2 : Int) ≤ (9223372036854775807 : Int)) ∧ I (g_2.fst + (2 : Int), PUnit.unit, g_2.snd.snd.set ((rd (0 : Int) b (g_2.fst + (1 : Int))).tmod g).toNat (rd [] g_2.snd.snd (↑((rd (0 : Int) b (g_2.fst + (1 :
  Int))).tmod g).toNat : Int) ++ [((1 : Int) + (rd (0 : Int) b g_2.fst).tmod (4 : Int), (IntKind.u8.wrap ((rd (0 : Int) b g_2.fst).tdiv (4 : Int))).tmod (3 : Int), (1 : Int) + (IntKind.u8.wrap ((rd (0 : Int) b (g_2.fst + (1 :
  Int))).tdiv (4 : Int))).tmod (9 : Int))])) ∧ μ (g_2.fst + (2 : Int), PUnit.unit, g_2.snd.snd.set ((rd (0 : Int) b (g_2.fst + (1 : Int))).tmod g).toNat (rd [] g_2.snd.snd (↑((rd (0 : Int) b (g_2.fst + (1 : Int))).tmod g).toNat :
  Int) ++ [((1 : Int) + (rd (0 : Int) b g_2.fst).tmod (4 : Int), (IntKind.u8.wrap ((rd (0 : Int) b g_2.fst).tdiv (4 : Int))).tmod (3 : Int), (1 : Int) + (IntKind.u8.wrap ((rd (0 : Int) b (g_2.fst + (1 : Int))).tdiv (4 : Int))).tmod
  (9 : Int))])) < μ g_2 else bif (1 : Int) + (rd (0 : Int) b g_2.fst).tmod (4 : Int) == (4 : Int) then ((-9223372036854775808 : Int) ≤ g_2.fst + (1 : Int) ∧ g_2.fst + (1 : Int) ≤ (9223372036854775807 : Int)) ∧ ((0 : Int) ≤ g_2.fst +
  (1 : Int) ∧ g_2.fst + (1 : Int) < (↑b.length : Int)) ∧ ((-9223372036854775808 : Int) ≤ rd (0 : Int) b (g_2.fst + (1 : Int)) ∧ rd (0 : Int) b (g_2.fst + (1 : Int)) ≤ (9223372036854775807 : Int)) ∧ (g = (0 : Int) → False) ∧ ((0 :
  Int) ≤ (rd (0 : Int) b (g_2.fst + (1 : Int))).tmod g ∧ (rd (0 : Int) b (g_2.fst + (1 : Int))).tmod g < (↑g_2.snd.snd.length : Int)) ∧ ((rd (0 : Int) b (g_2.fst + (1 : Int))).tmod g).toNat < g_2.snd.snd.length ∧ ((rd [] g_2.snd.snd
  (↑((rd (0 : Int) b (g_2.fst + (1 : Int))).tmod g).toNat : Int)).length + (1 : Nat)) * (24 : Nat) ≤ (140737488355328 : Nat) ∧ ((0 : Int) ≤ (rd (0 : Int) b (g_2.fst + (1 : Int))).tmod g ∧ (rd (0 : Int) b (g_2.fst + (1 : Int))).tmod g
  < (↑g_2.snd.snd.length : Int)) ∧ (((rd (0 : Int) b (g_2.fst + (1 : Int))).tmod g).toNat = ((rd (0 : Int) b (g_2.fst + (1 : Int))).tmod g).toNat ∧ ((rd (0 : Int) b (g_2.fst + (1 : Int))).tmod g).toNat < g_2.snd.snd.length) ∧
  ((-9223372036854775808 : Int) ≤ g_2.fst + (2 : Int) ∧ g_2.fst + (2 : Int) ≤ (9223372036854775807 : Int)) ∧ I (g_2.fst + (2 : Int), PUnit.unit, g_2.snd.snd.set ((rd (0 : Int) b (g_2.fst + (1 : Int))).tmod g).toNat (rd [] g_2.snd.snd
  (↑((rd (0 : Int) b (g_2.fst + (1 : Int))).tmod g).toNat : Int) ++ [((1 : Int) + (rd (0 : Int) b g_2.fst).tmod (4 : Int), (0 : Int), (0 : Int))])) ∧ μ (g_2.fst + (2 : Int), PUnit.unit, g_2.snd.snd.set ((rd (0 : Int) b (g_2.fst + (1
  : Int))).tmod g).toNat (rd [] g_2.snd.snd (↑((rd (0 : Int) b (g_2.fst + (1 : Int))).tmod g).toNat : Int) ++ [((1 : Int) + (rd (0 : Int) b g_2.fst).tmod (4 : Int), (0 : Int), (0 : Int))])) < μ g_2 else ((-9223372036854775808 : Int)
  ≤ g_2.fst + (1 : Int) ∧ g_2.fst + (1 : Int) ≤ (9223372036854775807 : Int)) ∧ ((0 : Int) ≤ g_2.fst + (1 : Int) ∧ g_2.fst + (1 : Int) < (↑b.length : Int)) ∧ ((-9223372036854775808 : Int) ≤ rd (0 : Int) b (g_2.fst + (1 : Int)) ∧ rd (0
  : Int) b (g_2.fst + (1 : Int)) ≤ (9223372036854775807 : Int)) ∧ (g = (0 : Int) → False) ∧ ((0 : Int) ≤ (rd (0 : Int) b (g_2.fst + (1 : Int))).tmod g ∧ (rd (0 : Int) b (g_2.fst + (1 : Int))).tmod g < (↑g_2.snd.snd.length : Int)) ∧
  ((rd (0 : Int) b (g_2.fst + (1 : Int))).tmod g).toNat < g_2.snd.snd.length ∧ ((rd [] g_2.snd.snd (↑((rd (0 : Int) b (g_2.fst + (1 : Int))).tmod g).toNat : Int)).length + (1 : Nat)) * (24 : Nat) ≤ (140737488355328 : Nat) ∧ ((0 :
  Int) ≤ (rd (0 : Int) b (g_2.fst + (1 : Int))).tmod g ∧ (rd (0 : Int) b (g_2.fst + (1 : Int))).tmod g < (↑g_2.snd.snd.length : Int)) ∧ (((rd (0 : Int) b (g_2.fst + (1 : Int))).tmod g).toNat = ((rd (0 : Int) b (g_2.fst + (1 :
  Int))).tmod g).toNat ∧ ((rd (0 : Int) b (g_2.fst + (1 : Int))).tmod g).toNat < g_2.snd.snd.length) ∧ ((-9223372036854775808 : Int) ≤ g_2.fst + (2 : Int) ∧ g_2.fst + (2 : Int) ≤ (9223372036854775807 : Int)) ∧ I (g_2.fst + (2 : Int),
  PUnit.unit, g_2.snd.snd.set ((rd (0 : Int) b (g_2.fst + (1 : Int))).tmod g).toNat (rd [] g_2.snd.snd (↑((rd (0 : Int) b (g_2.fst + (1 : Int))).tmod g).toNat : Int) ++ [((1 : Int) + (rd (0 : Int) b g_2.fst).tmod (4 : Int),
  (IntKind.u8.wrap ((rd (0 : Int) b g_2.fst).tdiv (4 : Int))).tmod (3 : Int), (0 : Int))])) ∧ μ (g_2.fst + (2 : Int), PUnit.unit, g_2.snd.snd.set ((rd (0 : Int) b (g_2.fst + (1 : Int))).tmod g).toNat (rd [] g_2.snd.snd (↑((rd (0 :
  Int) b (g_2.fst + (1 : Int))).tmod g).toNat : Int) ++ [((1 : Int) + (rd (0 : Int) b g_2.fst).tmod (4 : Int), (IntKind.u8.wrap ((rd (0 : Int) b g_2.fst).tdiv (4 : Int))).tmod (3 : Int), (0 : Int))])) < μ g_2 else (SoundF
  Proofs.Try.prog (33 : Nat) S33 ∧ g_2.snd.snd.length ≤ (1000 : Nat) ∧ ∀ (l : List (Int × Int × Int)), List.Mem l g_2.snd.snd → l.length ≤ (1000 : Nat)) ∧ bif (↑(evs g_2.snd.snd).length : Int) == (0 : Int) then ((0 : Int) ≤ (0 : Int)
  ∧ (0 : Int) < (↑g_2.snd.snd.length : Int)) ∧ (0 : Nat) < g_2.snd.snd.length ∧ True ∧ g_2.snd.snd.set (0 : Nat) [((1 : Int), (0 : Int), (0 : Int))] = madeF b else True ∧ g_2.snd.snd = madeF b := by
  rintro b ⟨hl, hb⟩
  have hN := madeN_b hb
  refine ⟨fun q => q = madeN b, condI (fun h => ?_) (fun h => ?_), ?_⟩
  · have h := of_decide_eq_true h
    have h0 := rd_b hb 0
    rw [Int.tmod_eq_emod_of_nonneg h0.1]
    have h1 : 0 ≤ rd 0 b 0 % 4 ∧ rd 0 b 0 % 4 < 4 := ⟨Int.emod_nonneg _ (by omega), Int.emod_lt_of_pos _ (by omega)⟩
    refine ⟨by omega, fun h => by omega, by omega, by omega, ?_⟩
    unfold madeN
    rw [if_pos (by omega)]
  · have h := of_decide_eq_false h
    unfold madeN
    rw [if_neg (by omega)]
  rintro _ rfl
  generalize hn : madeN b = n at hN ⊢
  refine ⟨fun t => 1 ≤ t.1 ∧ t.1 ≤ n ∧ t.2.2 = List.replicate t.1.toNat [], fun t => (n - t.1).toNat, ⟨by simp, by dsimp only; omega, rfl⟩, ?_⟩
  rintro ⟨i, u, P⟩ ⟨i0, i1, hP⟩
  dsimp only at i0 i1 hP ⊢
  refine condI (fun h => ?_) (fun h => ?_)
  · have h := of_decide_eq_true h
    have hPl : P.length = i.toNat := by rw [hP, List.length_replicate]
    refine ⟨by omega, by omega, ⟨by omega, by omega, ?_⟩, by omega⟩
    rw [hP, show (i + 1).toNat = i.toNat + 1 by omega, List.replicate_succ']
  have h := of_decide_eq_false h
  have hin : n = i := by omega
  subst hin
  have hP0 : P = madeL b 0 := by rw [hP, ← hn]; rfl
  refine ⟨fun t => ∃ j : Nat, t.1 = 1 + 2 * j ∧ j ≤ madeK b ∧ t.2.2 = madeL b j, fun t => (13 - t.1).toNat, ⟨0, rfl, Nat.zero_le _, hP0⟩, ?_⟩
  rintro ⟨i2, u2, P2⟩ ⟨j, hi2, hj, hP2⟩
  dsimp only at hi2 hj hP2 ⊢
  have hk6 : madeK b ≤ 6 := Nat.min_le_left _ _
  have hkl : madeK b ≤ (b.length - 1) / 2 := Nat.min_le_right _ _
  have hkd : ∀ m : Nat, m < madeK b ↔ 2 + 2 * m < b.length ∧ m < 6 := fun m => by
    unfold madeK; omega
  refine ⟨fun q => q = decide (j < madeK b), ⟨by omega, condI (fun h2 => ?_) (fun h2 => ⟨trivial, ?_⟩)⟩, ?_⟩
  · have h2 := of_decide_eq_true h2
    show decide _ = decide _
    rw [decide_eq_decide, hkd]
    omega
  · have h2 := of_decide_eq_false h2
    refine fals fun h3 => ?_
    rw [hkd] at h3
    omega
  rintro _ rfl
  have hP2l : P2.length = n.toNat := by rw [hP2, madeL_len, hn]
  refine condI (fun h2 => ?_) (fun h2 => ?_)
  · have h2 := of_decide_eq_true h2
    have h3 := (hkd j).1 h2
    have bx := rd_b hb i2
    have bY := rd_b hb (i2 + 1)
    have e1 : (rd 0 b i2).tmod 4 = rd 0 b i2 % 4 := Int.tmod_eq_emod_of_nonneg bx.1
    have e2 : IntKind.u8.wrap ((rd 0 b i2).tdiv 4) = rd 0 b i2 / 4 := by
      rw [Int.tdiv_eq_ediv_of_nonneg bx.1]
      exact u8_wrap (by omega) (by omega)
    have e3 : IntKind.u8.wrap ((rd 0 b (i2 + 1)).tdiv 4) = rd 0 b (i2 + 1) / 4 := by
      rw [Int.tdiv_eq_ediv_of_nonneg bY.1]
      exact u8_wrap (by omega) (by omega)
    have e4 : (rd 0 b (i2 + 1)).tmod n = rd 0 b (i2 + 1) % n := Int.tmod_eq_emod_of_nonneg bY.1
    rw [e1, e2, e3, e4, Int.tmod_eq_emod_of_nonneg (show 0 ≤ rd 0 b i2 / 4 by omega), Int.tmod_eq_emod_of_nonneg (show 0 ≤ rd 0 b (i2 + 1) / 4 by omega)]
    have h4 : 0 ≤ rd 0 b i2 % 4 ∧ rd 0 b i2 % 4 < 4 := ⟨Int.emod_nonneg _ (by omega), Int.emod_lt_of_pos _ (by omega)⟩
    have h5 : 0 ≤ rd 0 b i2 / 4 % 3 ∧ rd 0 b i2 / 4 % 3 < 3 := ⟨Int.emod_nonneg _ (by omega), Int.emod_lt_of_pos _ (by omega)⟩
    have h6 : 0 ≤ rd 0 b (i2 + 1) / 4 % 9 ∧ rd 0 b (i2 + 1) / 4 % 9 < 9 := ⟨Int.emod_nonneg _ (by omega), Int.emod_lt_of_pos _ (by omega)⟩
    have h7 : 0 ≤ rd 0 b (i2 + 1) % n ∧ rd 0 b (i2 + 1) % n < n := ⟨Int.emod_nonneg _ (by omega), Int.emod_lt_of_pos _ (by omega)⟩
    have hrow : (rd [] P2 (rd 0 b (i2 + 1) % n)).length ≤ 6 := by
      have h8 := (madeL_evs hb j).1
      have := evs_row (P := P2) h7.1 (by omega)
      rw [hP2, h8] at this
      rw [hP2]; omega
    have hcast : (((rd 0 b (i2 + 1) % n).toNat : Nat) : Int) = rd 0 b (i2 + 1) % n := by omega
    rw [hcast]
    have hfin : ∀ o : Op, o = madeOp (rd 0 b i2) (rd 0 b (i2 + 1)) → ∃ j' : Nat, i2 + 2 = 1 + 2 * j' ∧ j' ≤ madeK b ∧ P2.set (rd 0 b (i2 + 1) % n).toNat (rd [] P2 (rd 0 b (i2 + 1) % n) ++ [o]) = madeL b j' := fun o ho => by
      refine ⟨j + 1, by omega, by omega, ?_⟩
      rw [madeL_succ, ← hP2, ho]
      unfold madeStep
      rw [hn, hi2, show (1 : Int) + 2 * j + 1 = 2 + 2 * j by omega]
    refine ⟨by omega, fun h => by omega, by omega, by omega, by omega, fun h => by omega, by omega, fun h => by omega, ⟨f32_sound, trivial⟩, condI (fun k => ?_) (fun k => ?_)⟩
    · unfold wr at k
      simp only [Bool.or_eq_true, beq_iff_eq] at k
      refine ⟨by omega, by omega, fun h => by omega, by omega, fun h => by omega, by omega, condI (fun k2 => ?_) (fun k2 => ?_)⟩
      · have k2 := eq_of_beq k2
        omega
      · have k2 := beq_eq_false_iff_ne.1 k2
        refine ⟨by omega, by omega, by omega, fun h => by omega, by omega, by omega, by omega, by omega, by omega, by omega, hfin _ ?_, by omega⟩
        unfold madeOp
        rw [if_neg k2, if_pos (by omega)]
    · unfold wr at k
      simp only [Bool.or_eq_false_iff, beq_eq_false_iff_ne] at k
      refine condI (fun k2 => ?_) (fun k2 => ?_)
      · have k2 := eq_of_beq k2
        refine ⟨by omega, by omega, by omega, fun h => by omega, by omega, by omega, by omega, by omega, by omega, by omega, hfin _ ?_, by omega⟩
        unfold madeOp
        rw [if_pos k2, if_neg (by omega)]
      · have k2 := beq_eq_false_iff_ne.1 k2
        refine ⟨by omega, by omega, by omega, fun h => by omega, by omega, by omega, by omega, by omega, by omega, by omega, hfin _ ?_, by omega⟩
        unfold madeOp
        rw [if_neg k2, if_neg (by omega)]
  have h2 := of_decide_eq_false h2
  have hjk : j = madeK b := by omega
  subst hjk
  subst hP2
  have hev := (madeL_evs hb (madeK b)).1
  refine ⟨⟨f33_sound, by omega, fun l hl => ?_⟩, condI (fun k => ⟨by omega, by omega, trivial, ?_⟩) (fun k => ⟨trivial, ?_⟩)⟩
  · obtain ⟨q, hq, rfl⟩ := List.getElem_of_mem hl
    have := evs_row (P := madeL b (madeK b)) (i := (q : Int)) (by omega) (by omega)
    have e : rd [] (madeL b (madeK b)) (q : Int) = (madeL b (madeK b))[q] := by
      unfold rd; rw [List.getD_eq_getElem?_getD, Int.toNat_natCast, List.getElem?_eq_getElem hq]; rfl
    rw [e] at this
    omega
  · have k : (evs (madeL b (madeK b))).length = 0 := by
      have := eq_of_beq k
      omega
    unfold madeF
    rw [if_pos k]
  · have k : (evs (madeL b (madeK b))).length ≠ 0 := by
      have := beq_eq_false_iff_ne.1 k
      omega
    unfold madeF
    rw [if_neg k]
theorem f11_fun : FunOk Go.Proofs.Try.prog A11 Go.Proofs.Try.f11 S11 := ⟨by
  intro a b h
  have h1 := f11_vc (a.1) h
  apply eqmp h1
  kernel_rfl⟩
theorem f11_sound : SoundF Go.Proofs.Try.prog 11 S11 := sound_of f11_fun (by kernel_rfl) (by kernel_rfl) (by kernel_rfl)
end L31

open Go Go.V
namespace L31
set_option linter.unusedVariables false
set_option linter.unusedSimpArgs false

def S23 : FSpec := { args := [.cell lI, .cell lI], pre := fun a _ => List.length (α := Int) a.1 ≤ 1000, res := fun a _ => .c (.c (.bool (List.beq (α := Int) a.1 a.2.1))) }
def A23 : Ans := {  }
-- VC

theorem f23_vc : ∀ (a b : List Int), (a.length ≤ 1000) → bif (↑a.length : Int) != (↑b.length : Int) then false = a.beq b else ∃ (I : Bool × Int → Prop), ∃ (μ : Bool × Int → Nat), I (false, (0 : Int)) ∧ ∀ (g : Bool × Int), I g → bif decide (g.snd <
  (↑a.length : Int)) then ((0 : Int) ≤ g.snd ∧ g.snd < (↑a.length : Int)) ∧ ((0 : Int) ≤ g.snd ∧ g.snd < (↑b.length : Int)) ∧ bif rd (0 : Int) a g.snd != rd (0 : Int) b g.snd then false = a.beq b else ((-9223372036854775808 : Int) ≤
  g.snd + (1 : Int) ∧ g.snd + (1 : Int) ≤ (9223372036854775807 : Int)) ∧ I (g.fst, g.snd + (1 : Int)) ∧ μ (g.fst, g.snd + (1 : Int)) < μ g else true = a.beq b := by
  rintro a b ha
  refine condI (fun h => ?_) (fun h => ?_)
  · have h := bne_iff_ne.1 h
    cases hb : a.beq b with
    | false => rfl
    | true => rw [beq_list.1 hb] at h; exact absurd rfl h
  have h := bne_eq_false_iff_eq.1 h
  refine ⟨fun t => 0 ≤ t.2 ∧ t.2 ≤ a.length ∧ ∀ j : Int, 0 ≤ j → j < t.2 → rd 0 a j = rd 0 b j, fun t => (a.length - t.2).toNat, ⟨by simp, by simp, fun j j0 j1 => absurd j0 (by dsimp only at j1; omega)⟩, ?_⟩
  rintro ⟨u, i⟩ ⟨i0, i1, hi⟩
  dsimp only at i0 i1 hi ⊢
  refine condI (fun k => ?_) (fun k => ?_)
  · have k := of_decide_eq_true k
    refine ⟨by omega, by omega, condI (fun k2 => ?_) (fun k2 => ?_)⟩
    · have k2 := bne_iff_ne.1 k2
      cases hb : a.beq b with
      | false => rfl
      | true => rw [beq_list.1 hb] at k2; exact absurd rfl k2
    · have k2 := bne_eq_false_iff_eq.1 k2
      exact ⟨by omega, ⟨by omega, by omega, all_step hi k2⟩, by omega⟩
  · have k := of_decide_eq_false k
    exact (beq_list.2 (list_ext (by omega) fun j j0 j1 => hi j j0 (by omega))).symm
theorem f23_fun : FunOk Go.Proofs.Try.prog A23 Go.Proofs.Try.f23 S23 := ⟨by
  intro a b h
  have h1 := f23_vc (a.1) (a.2.1) h
  apply eqmp h1
  kernel_rfl⟩
theorem f23_sound : SoundF Go.Proofs.Try.prog 23 S23 := sound_of f23_fun (by kernel_rfl) (by kernel_rfl) (by kernel_rfl)
end L31

open Go Go.V
namespace L31
set_option linter.unusedVariables false
set_option linter.unusedSimpArgs false

def S24 : FSpec := { args := [.agg cGraph], pre := fun a _ => (fun (g : Gr) => smallG g ∧ g.2.2.1.length = 3 ∧ ∀ l, List.Mem l g.2.2.1 → ∀ x, List.Mem x l → x < g.1.length) a.1, res := fun _ _ => .g [.c (.sl 0), .c (.sl 1)], tk1 := fun a _ => [(0, .row true 3 rI (outR (a.1.1 : List Ev))), (1, .row true 3 rI (outL a.1))] }
def A24 : Ans := { op := fun r i => (bif Nat.beq r 5 && Nat.beq i 6 then {con := some S37} else (bif Nat.beq r 13 && Nat.beq i 4 then {con := some S40} else {})), lp := fun b => (bif Nat.beq b 0 then [(3, none), (3, some 0), (7, some 999), (8, some 999), (9, some 999)] else (bif Nat.beq b 2 then [(3, none), (3, some 1), (7, some 999), (8, some 999), (9, some 999), (11, some 999), (12, some 999), (17, some 999), (18, some 999), (20, some 999), (21, some 999), (22, some 999), (24, some 999), (25, some 999), (26, some 999), (27, some 999), (29, some 999), (30, some 999), (32, some 999), (33, some 999), (34, some 999)] else [])) }
-- VC

theorem f24_vc : ∀ (g : Gr), (smallG g ∧ g.2.2.1.length = 3 ∧ ∀ l, List.Mem l g.2.2.1 → ∀ x, List.Mem x l → x < g.1.length) → ∃ (I : Int × Unit × List Int → Prop), ∃ (μ : Int × Unit × List Int → Nat), I ((0 : Int), PUnit.unit, []) ∧ ∀ (g_1 : Int ×
  Unit × List Int), I g_1 → bif decide (g_1.fst < (↑g.fst.length : Int)) then ((0 : Int) ≤ g_1.fst ∧ g_1.fst < (↑g.fst.length : Int)) ∧ (SoundF Proofs.Try.prog (37 : Nat) S37 ∧ True) ∧ bif rdd ((rd ((0 : Int), (0 : Int), (0 : Int),
  (0 : Int), (0 : Int)) g.fst g_1.fst).snd.fst, (rd ((0 : Int), (0 : Int), (0 : Int), (0 : Int), (0 : Int)) g.fst g_1.fst).snd.snd.fst, (rd ((0 : Int), (0 : Int), (0 : Int), (0 : Int), (0 : Int)) g.fst g_1.fst).snd.snd.snd.fst) then
  ((0 : Int) ≤ g_1.fst ∧ g_1.fst < (↑g.fst.length : Int)) ∧ (g_1.snd.2.length + (1 : Nat)) * (8 : Nat) ≤ (140737488355328 : Nat) ∧ ((-9223372036854775808 : Int) ≤ g_1.fst + (1 : Int) ∧ g_1.fst + (1 : Int) ≤ (9223372036854775807 :
  Int)) ∧ I (g_1.fst + (1 : Int), PUnit.unit, g_1.snd.2 ++ [(rd ((0 : Int), (0 : Int), (0 : Int), (0 : Int), (0 : Int)) g.fst g_1.fst).snd.snd.snd.snd]) ∧ μ (g_1.fst + (1 : Int), PUnit.unit, g_1.snd.2 ++ [(rd ((0 : Int), (0 : Int),
  (0 : Int), (0 : Int), (0 : Int)) g.fst g_1.fst).snd.snd.snd.snd]) < μ g_1 else ((-9223372036854775808 : Int) ≤ g_1.fst + (1 : Int) ∧ g_1.fst + (1 : Int) ≤ (9223372036854775807 : Int)) ∧ I (g_1.fst + (1 : Int), PUnit.unit,
  g_1.snd.snd) ∧ μ (g_1.fst + (1 : Int), PUnit.unit, g_1.snd.snd) < μ g_1 else ∃ (I : Int × Unit × List Int → Prop), ∃ (μ : Int × Unit × List Int → Nat), I ((0 : Int), PUnit.unit, []) ∧ ∀ (g_2 : Int × Unit × List Int), I g_2 → bif
  decide (g_2.fst < (3 : Int)) then ((0 : Int) ≤ g_2.fst ∧ g_2.fst < (↑g.snd.snd.fst.length : Int)) ∧ bif decide ((0 : Int) < (↑(rd [] g.snd.snd.fst g_2.fst).length : Int)) then ((0 : Int) ≤ g_2.fst ∧ g_2.fst < (↑g.snd.snd.fst.length
  : Int)) ∧ ((0 : Int) ≤ g_2.fst ∧ g_2.fst < (↑g.snd.snd.fst.length : Int)) ∧ ((-9223372036854775808 : Int) ≤ (↑(rd [] g.snd.snd.fst g_2.fst).length : Int) - (1 : Int) ∧ (↑(rd [] g.snd.snd.fst g_2.fst).length : Int) - (1 : Int) ≤
  (9223372036854775807 : Int)) ∧ ((0 : Int) ≤ (↑(rd [] g.snd.snd.fst g_2.fst).length : Int) - (1 : Int) ∧ (↑(rd [] g.snd.snd.fst g_2.fst).length : Int) - (1 : Int) < (↑(rd [] g.snd.snd.fst g_2.fst).length : Int)) ∧ (SoundF
  Proofs.Try.prog (40 : Nat) S40 ∧ ((↑g.fst.length : Int) - (rd (0 : Int) (rd [] g.snd.snd.fst g_2.fst) ((↑(rd [] g.snd.snd.fst g_2.fst).length : Int) - (1 : Int)) + (1 : Int))).NonNeg) ∧ (g_2.snd.2.length + (1 : Nat)) * (8 : Nat) ≤
  (140737488355328 : Nat) ∧ ((-9223372036854775808 : Int) ≤ g_2.fst + (1 : Int) ∧ g_2.fst + (1 : Int) ≤ (9223372036854775807 : Int)) ∧ I (g_2.fst + (1 : Int), PUnit.unit, g_2.snd.2 ++ [val g.fst (rd (0 : Int) (rd [] g.snd.snd.fst
  g_2.fst) ((↑(rd [] g.snd.snd.fst g_2.fst).length : Int) - (1 : Int)))]) ∧ μ (g_2.fst + (1 : Int), PUnit.unit, g_2.snd.2 ++ [val g.fst (rd (0 : Int) (rd [] g.snd.snd.fst g_2.fst) ((↑(rd [] g.snd.snd.fst g_2.fst).length : Int) - (1 :
  Int)))]) < μ g_2 else (SoundF Proofs.Try.prog (40 : Nat) S40 ∧ ((↑g.fst.length : Int) - ((-1 : Int) + (1 : Int))).NonNeg) ∧ (g_2.snd.2.length + (1 : Nat)) * (8 : Nat) ≤ (140737488355328 : Nat) ∧ ((-9223372036854775808 : Int) ≤
  g_2.fst + (1 : Int) ∧ g_2.fst + (1 : Int) ≤ (9223372036854775807 : Int)) ∧ I (g_2.fst + (1 : Int), PUnit.unit, g_2.snd.2 ++ [val g.fst (-1 : Int)]) ∧ μ (g_2.fst + (1 : Int), PUnit.unit, g_2.snd.2 ++ [val g.fst (-1 : Int)]) < μ g_2
  else True ∧ g_1.snd.snd = outR g.fst ∧ g_2.snd.snd = outL g := by
  rintro g ⟨⟨sE, sF, sM, sMl, sFo⟩, h3, hin⟩
  refine ⟨fun t => 0 ≤ t.1 ∧ t.1 ≤ g.1.length ∧ t.2.2 = outR (g.1.take t.1.toNat) ∧ t.2.2.length ≤ t.1.toNat, fun t => (g.1.length - t.1).toNat, ⟨by simp, by simp, rfl, by simp⟩, ?_⟩
  rintro ⟨i, u, o⟩ ⟨i0, i1, ho, hol⟩
  dsimp only at i0 i1 ho hol ⊢
  simp only [eop_eta]
  refine condI (fun k => ?_) (fun k => ?_)
  · have k := of_decide_eq_true k
    have hs : outR (g.1.take (i + 1).toNat) = o ++ (if rdd (eop (rd ev0 g.1 i)) then [(rd ev0 g.1 i).2.2.2.2] else []) := by
      rw [take_succ_rd ev0 g.1 i i0 k, ho]
      unfold outR
      rw [List.filter_append, List.map_append]
      congr 1
      by_cases hc : rdd (eop (rd ev0 g.1 i)) = true
      · rw [if_pos hc]; simp [hc]
      · rw [if_neg hc]; simp [hc]
    refine ⟨by omega, ⟨f37_sound, trivial⟩, condI (fun k2 => ?_) (fun k2 => ?_)⟩
    · rw [if_pos (show rdd (eop (rd ev0 g.1 i)) = true from k2)] at hs
      refine ⟨by omega, by omega, by omega, ⟨by omega, by omega, hs.symm, ?_⟩, by omega⟩
      simp only [List.length_append, List.length_cons, List.length_nil]; omega
    · rw [if_neg (by rw [show rdd (eop (rd ev0 g.1 i)) = false from k2]; simp), List.append_nil] at hs
      refine ⟨by omega, ⟨by omega, by omega, hs.symm, ?_⟩, by omega⟩
      omega
  have k := of_decide_eq_false k
  refine ⟨fun t => ∃ n : Nat, t.1 = n ∧ n ≤ 3 ∧ t.2.2 = (outL g).take n, fun t => (3 - t.1).toNat, ⟨0, rfl, by omega, rfl⟩, ?_⟩
  rintro ⟨_, u2, o2⟩ ⟨n, rfl, n1, ho2⟩
  dsimp only at ho2 ⊢
  refine condI (fun k2 => ?_) (fun k2 => ?_)
  · have k2 := of_decide_eq_true k2
    have hlen : o2.length ≤ 3 := by rw [ho2, List.length_take]; omega
    have hml : (rd [] g.2.2.1 (n : Int)).length ≤ 1000 := sMl _ (rd_memG [] _ _ (by omega) (by omega))
    have hs : (outL g).take (n + 1) = o2 ++ [val g.1 (lastOf (rd [] g.2.2.1 (n : Int)))] := by
      rw [ho2]
      match n, k2 with
      | 0, _ => rfl
      | 1, _ => rfl
      | 2, _ => rfl
    refine ⟨by omega, condI (fun k3 => ?_) (fun k3 => ?_)⟩
    · have k3 := of_decide_eq_true k3
      have hlt := hin _ (rd_memG [] g.2.2.1 (n : Int) (by omega) (by omega)) _ (rd_mem _ ((rd [] g.2.2.1 (n : Int)).length - 1) (by omega) (by omega))
      unfold lastOf at hs
      rw [if_neg (by omega)] at hs
      exact ⟨by omega, by omega, by omega, by omega, ⟨f40_sound, nonneg_of_lt hlt⟩, by omega, by omega, ⟨n + 1, rfl, by omega, hs.symm⟩, by omega⟩
    · have k3 := of_decide_eq_false k3
      unfold lastOf at hs
      rw [if_pos (by omega)] at hs
      exact ⟨⟨f40_sound, nonneg_of_lt (by omega)⟩, by omega, by omega, ⟨n + 1, rfl, by omega, hs.symm⟩, by omega⟩
  · have k2 := of_decide_eq_false k2
    have h3 : n = 3 := by omega
    subst h3
    exact ⟨trivial, by rw [ho, List.take_of_length_le (by omega)], ho2⟩
theorem f24_fun : FunOk Go.Proofs.Try.prog A24 Go.Proofs.Try.f24 S24 := ⟨by
  intro a b h
  have h1 := f24_vc (a.1) h
  apply eqmp h1
  kernel_rfl⟩
theorem f24_sound : SoundF Go.Proofs.Try.prog 24 S24 := sound_of f24_fun (by kernel_rfl) (by kernel_rfl) (by kernel_rfl)
end L31

/- One operation after the other: the graph is right and allowed. -/
open Go Go.V
namespace L31
/-- Where an element that is kept stands among the kept ones. -/
theorem idx_filter {p : Int → Bool} : ∀ {D : List Int} {a : Int}, a ∈ D → p a = true → idx (D.filter p) a = ((D.take (idx D a).toNat).filter p).length
  | [], _, h, _ => by cases h
  | x :: D, a, h, hp => by
    by_cases hx : x = a
    · subst hx
      have : idx (x :: D) x = 0 := by simp [idx]
      rw [this, List.filter_cons_of_pos hp]
      simp [idx]
    · have ha : a ∈ D := by
        rcases List.mem_cons.1 h with h | h
        · exact absurd h.symm hx
        · exact h
      have h0 := idx_in ha
      have ih := idx_filter (p := p) ha hp
      have hi : idx (x :: D) a = idx D a + 1 := by simp only [idx, if_neg hx]; rw [if_neg (by omega)]
      rw [hi, show (idx D a + 1).toNat = (idx D a).toNat + 1 by omega, List.take_succ_cons]
      by_cases hpx : p x = true
      · rw [List.filter_cons_of_pos hpx, List.filter_cons_of_pos hpx, List.length_cons]
        simp only [idx, if_neg hx]
        have hf : a ∈ D.filter p := List.mem_filter.2 ⟨ha, hp⟩
        have := idx_in hf
        rw [if_neg (by omega), ih]
        omega
      · rw [List.filter_cons_of_neg hpx, List.filter_cons_of_neg hpx, ih]
theorem idx_last {p : Int → Bool} {D : List Int} (hn : D.Nodup) (h0 : ∀ x : Int, x ∈ D → 0 ≤ x) (k : Nat) : idx (D.filter p) (lastOf ((D.take k).filter p)) = (((D.take k).filter p).length : Int) - 1 := by
  have hs : D.filter p = (D.take k).filter p ++ (D.drop k).filter p := by rw [← List.filter_append, List.take_append_drop]
  have hnf : (D.filter p).Nodup := List.Pairwise.filter _ hn
  by_cases hl : ((D.take k).filter p).length = 0
  · unfold lastOf
    rw [if_pos hl, hl]
    have : idx (D.filter p) (-1) < 0 := idx_mem.2 fun hm => by have := h0 _ (List.mem_filter.1 hm).1; omega
    have := idx_ge (l := D.filter p) (n := -1)
    omega
  · unfold lastOf
    rw [if_neg hl]
    have e : rd 0 ((D.take k).filter p) (((D.take k).filter p).length - 1) = rd 0 (D.filter p) (((D.take k).filter p).length - 1) := by
      rw [hs, rd_app_left (by omega) (by omega)]
    rw [e]
    refine idx_rd hnf (by omega) ?_
    rw [hs, List.length_append]
    omega
/-- Kept elements keep their order. -/
theorem idx_filter_lt {p : Int → Bool} {D : List Int} {a b : Int} (h0 : 0 ≤ idx (D.filter p) a) (h : idx (D.filter p) a < idx (D.filter p) b) : idx D a < idx D b := by
  have ha : a ∈ D.filter p := Classical.not_not.1 fun hn => by have := idx_mem.2 hn; omega
  have hb : b ∈ D.filter p := Classical.not_not.1 fun hn => by have := idx_mem.2 hn; omega
  obtain ⟨a1, a2⟩ := List.mem_filter.1 ha
  obtain ⟨b1, b2⟩ := List.mem_filter.1 hb
  rw [idx_filter a1 a2, idx_filter b1 b2] at h
  rcases Int.lt_or_le (idx D a) (idx D b) with h1 | h1
  · exact h1
  · exfalso
    have : ((D.take (idx D b).toNat).filter p).length ≤ ((D.take (idx D a).toNat).filter p).length := by
      have hsub : List.Sublist (D.take (idx D b).toNat) (D.take (idx D a).toNat) := by
        rw [show D.take (idx D b).toNat = (D.take (idx D a).toNat).take (idx D b).toNat by rw [List.take_take, Nat.min_eq_left (by omega)]]
        exact List.take_sublist _ _
      exact (hsub.filter p).length_le
    omega
theorem cnt_le {p : Int → Bool} {D : List Int} {j k : Nat} (h : j ≤ k) : ((D.take j).filter p).length ≤ ((D.take k).filter p).length := by
  have hsub : List.Sublist (D.take j) (D.take k) := by
    rw [show D.take j = (D.take k).take j by rw [List.take_take, Nat.min_eq_left h]]
    exact List.take_sublist _ _
  exact (hsub.filter p).length_le
theorem cnt_next {p : Int → Bool} {D : List Int} {a : Int} (ha : a ∈ D) (hp : p a = true) : ((D.take ((idx D a).toNat + 1)).filter p).length = ((D.take (idx D a).toNat).filter p).length + 1 := by
  obtain ⟨h0, h1⟩ := idx_in ha
  have hr := (idx_spec h0).2
  have := take_succ_rd 0 D (idx D a) h0 h1
  rw [hr, show (idx D a + 1).toNat = (idx D a).toNat + 1 by omega] at this
  rw [this, List.filter_append]
  simp [hp]
theorem take_before {D : List Int} {a : Int} {k : Nat} (h : a ∈ D.take k) : idx D a < k := by
  have : idx D a = idx (D.take k) a := by
    conv => lhs; rw [← List.take_append_drop k D]
    exact idx_app_in h
  rw [this]
  have := (idx_in h).2
  rw [List.length_take] at this
  omega
section
variable {P : List (List Op)} {D nx : List Int} {g : Gr}
theorem Ex.all (h : Ex P D nx g) (hl : D.length = (evs P).length) {x : Int} (x0 : 0 ≤ x) (x1 : x < (evs P).length) : x ∈ D := by
  have hp := perm_of_sub (w := D) (l := (List.range (evs P).length).map Int.ofNat) h.nd (by simp; omega) fun y hy => by
    obtain ⟨h0, h1⟩ := h.inr y hy
    simp only [List.mem_map, List.mem_range]
    exact ⟨y.toNat, by omega, by show ((y.toNat : Nat) : Int) = y; omega⟩
  rw [← hp.mem_iff]
  simp only [List.mem_map, List.mem_range]
  exact ⟨x.toNat, by omega, by show ((x.toNat : Nat) : Int) = x; omega⟩
theorem Ex.right (hv : validT P = true) (h : Ex P D nx g) (hl : D.length = (evs P).length) : rightG P g = true := by
  refine right_iff.2 ⟨hv, right_all.2 ⟨h.el, h.frl, h.mol, fun n n0 n1 => ⟨(h.ops n n0).1, (h.ops n n0).2, ?_⟩, fun n n0 n1 => ?_, fun p p0 p1 => ?_, ?_⟩⟩
  · unfold src
    rw [decide_eq_true_eq, h.fr n n0 n1]
    split
    · rename_i hc
      rcases lastW_in (e := evs P) (D := D.take (idx D n).toNat) (x := xx (evs P) n) with h1 | ⟨h1, h2⟩
      · exact .inl h1
      · obtain ⟨q0, q1⟩ := h.inr _ (List.mem_of_mem_take h1)
        unfold isW at h2
        rw [Bool.and_eq_true, decide_eq_true_eq] at h2
        exact .inr ⟨hc.2, q0, q1, h2.1, h2.2⟩
    · exact .inl rfl
  · unfold RB
    rw [h.vl n n0 n1]
    by_cases hr : rdd (eop (rd ev0 (evs P) n)) = true
    · rw [if_pos ⟨h.all hl n0 n1, hr⟩, if_pos hr]
    · rw [if_neg (fun hc => hr hc.2), if_neg hr]
  · unfold RM
    rw [h.mo p p0 p1, isPerm_want]
    refine ⟨List.Pairwise.filter _ h.nd, fun x => ?_⟩
    rw [List.mem_filter]
    constructor
    · rintro ⟨h1, h2⟩
      obtain ⟨q0, q1⟩ := h.inr x h1
      unfold isW at h2
      rw [Bool.and_eq_true, decide_eq_true_eq] at h2
      refine ⟨q0, q1, ?_⟩
      rw [Bool.and_eq_true, beq_iff_eq]
      exact h2
    · rintro ⟨q0, q1, h2⟩
      rw [Bool.and_eq_true, beq_iff_eq] at h2
      refine ⟨h.all hl q0 q1, ?_⟩
      unfold isW
      rw [Bool.and_eq_true, decide_eq_true_eq]
      exact h2
  · rw [h.fo, isPerm_want]
    refine ⟨List.Pairwise.filter _ h.nd, fun x => ?_⟩
    rw [List.mem_filter]
    exact ⟨fun ⟨h1, h2⟩ => ⟨(h.inr x h1).1, (h.inr x h1).2, h2⟩, fun ⟨q0, q1, h2⟩ => ⟨h.all hl q0 q1, h2⟩⟩
theorem Ex.bef (h : Ex P D nx g) (hl : D.length = (evs P).length) {a b : Nat} (hb : befR g a b = true) : idx D a < idx D b := by
  unfold befR at hb
  simp only [Bool.and_eq_true, decide_eq_true_eq] at hb
  obtain ⟨⟨a1, b1⟩, ho⟩ := hb
  have hel := h.el
  have ha := h.all hl (x := a) (by omega) (by omega)
  have hb := h.all hl (x := b) (by omega) (by omega)
  unfold ordB at ho
  simp only [Bool.or_eq_true, Bool.and_eq_true, decide_eq_true_eq, beq_iff_eq] at ho
  rcases ho with ⟨h1, h2⟩ | ⟨h1, h2⟩
  · refine h.ord a b ha hb ?_ h2
    rw [← (h.ops a (by omega)).1, ← (h.ops b (by omega)).1]; exact h1
  · rw [h.fo] at h1 h2
    exact idx_filter_lt h1 h2
theorem Ex.flow (h : Ex P D nx g) (hl : D.length = (evs P).length) {a b : Nat} (hf : flowR g a b = true) : idx D a < idx D b := by
  unfold flowR at hf
  rw [Bool.or_eq_true] at hf
  rcases hf with hf | hf
  · exact h.bef hl hf
  · simp only [Bool.and_eq_true, decide_eq_true_eq] at hf
    obtain ⟨⟨a1, b1⟩, he⟩ := hf
    have hel := h.el
    rw [h.fr b (by omega) (by omega)] at he
    split at he
    · rename_i hc
      rcases lastW_in (e := evs P) (D := D.take (idx D b).toNat) (x := xx (evs P) b) with h1 | ⟨h1, h2⟩
      · rw [h1] at he; omega
      · rw [he] at h1
        have := take_before h1
        have := idx_in hc.1
        omega
    · omega
theorem Ex.allowed (hv : validT P = true) (h : Ex P D nx g) (hl : D.length = (evs P).length) : AllowedS g := by
  have hel := h.el
  have hok : ∀ a : Int, 0 ≤ a → a < g.1.length → okOp (opN g a) = true := fun a a0 a1 => by
    unfold opN
    rw [(h.ops a a0).2]
    exact (valid_iff.1 hv).2 _ (rd_memG ev0 (evs P) a a0 (by omega))
  have hX : ∀ a : Int, 0 ≤ a → a < g.1.length → 0 ≤ xx g.1 a ∧ xx g.1 a < 3 := fun a a0 a1 => by
    have := hok a a0 a1
    unfold okOp at this
    rw [decide_eq_true_eq] at this
    have h1 : 0 ≤ xx g.1 a := this.1
    have h2 : xx g.1 a ≤ 2 := this.2.1
    omega
  have h00 : ∀ x : Int, x ∈ D → 0 ≤ x := fun x hx => (h.inr x hx).1
  have hxx : ∀ a : Int, 0 ≤ a → xx g.1 a = xx (evs P) a := fun a a0 => xx_of (h.ops a a0).2
  have hopn : ∀ a : Int, 0 ≤ a → opN g a = eop (rd ev0 (evs P) a) := fun a a0 => (h.ops a a0).2
  -- how many writes to its place are ahead of an event
  have hw : ∀ a : Int, 0 ≤ a → a < g.1.length → wr (opN g a) = true → wpl g a = ((D.take (idx D a).toNat).filter (isW (evs P) (xx g.1 a))).length := fun a a0 a1 hwr => by
    unfold wpl
    rw [h.mo _ (hX a a0 a1).1 (hX a a0 a1).2]
    refine idx_filter (h.all hl a0 (by omega)) ?_
    unfold isW
    rw [← hopn a a0, hwr, hxx a a0, decide_eq_true rfl]; rfl
  have hr : ∀ a : Int, 0 ≤ a → a < g.1.length → rdd (opN g a) = true → rpl g a = (((D.take (idx D a).toNat).filter (isW (evs P) (xx g.1 a))).length : Int) - 1 := fun a a0 a1 hrd => by
    unfold rpl
    rw [h.mo _ (hX a a0 a1).1 (hX a a0 a1).2, h.fr a a0 (by omega), if_pos ⟨h.all hl a0 (by omega), by rw [← hopn a a0]; exact hrd⟩, hxx a a0]
    exact idx_last h.nd h00 _
  refine allowed_all.2 ⟨fun a ha => ?_, fun a a0 a1 h3 => ?_, fun a a0 a1 b b0 b1 hab hk => ?_⟩
  · cases hc : fw (flowR g) g.1.length a a with
    | false => rfl
    | true =>
      exfalso
      have := no_circle (fun x => idx D x) (fun x y hxy => h.flow hl hxy) (fw_sound _ _ _ hc)
      omega
  · have hop3 : (opN g a).1 = 3 := h3
    have h1 : wr (opN g a) = true := by unfold wr; rw [hop3]; rfl
    have h2 : rdd (opN g a) = true := by unfold rdd; rw [hop3]; rfl
    rw [hw a a0 a1 h1, hr a a0 a1 h2]
  · obtain ⟨k1, k2, hxe⟩ := hk
    have hlt := no_circle (fun x => idx D x) (fun x y hxy => h.bef hl hxy) (fw_sound _ _ _ hab)
    simp only [show ((a.toNat : Nat) : Int) = a by omega, show ((b.toNat : Nat) : Int) = b by omega] at hlt
    have ha := h.all hl (x := a) a0 (by omega)
    have hb := h.all hl (x := b) b0 (by omega)
    have ia := idx_in ha
    have ib := idx_in hb
    have hcl := cnt_le (p := isW (evs P) (xx g.1 a)) (D := D) (show (idx D a).toNat + 1 ≤ (idx D b).toNat by omega)
    have hcl2 := cnt_le (p := isW (evs P) (xx g.1 a)) (D := D) (show (idx D a).toNat ≤ (idx D a).toNat + 1 by omega)
    have hcn : wr (opN g a) = true → ((D.take ((idx D a).toNat + 1)).filter (isW (evs P) (xx g.1 a))).length = ((D.take (idx D a).toNat).filter (isW (evs P) (xx g.1 a))).length + 1 := fun hwr => by
      refine cnt_next ha ?_
      unfold isW
      rw [← hopn a a0, hwr, hxx a a0, decide_eq_true rfl]; rfl
    have hka := kindrw (g := g) (a := a) (by
      have := hok a a0 a1
      unfold okOp at this
      rw [decide_eq_true_eq] at this
      exact ⟨this.2.2.2.2.1, this.2.2.2.2.2.1⟩) k1
    have hlow : (if wr (opN g a) = true then wpl g a else rpl g a) ≤ (((D.take ((idx D a).toNat + 1)).filter (isW (evs P) (xx g.1 a))).length : Int) - 1 := by
      split
      · rename_i hwr
        rw [hw a a0 a1 hwr, hcn hwr]
        omega
      · rename_i hwr
        have hrd := hka.resolve_right hwr
        rw [hr a a0 a1 hrd]
        omega
    unfold cohA
    rw [Bool.and_eq_true]
    refine ⟨?_, ?_⟩
    · cases hrb : rdd (opN g b) with
      | false => rfl
      | true =>
        have := hr b b0 b1 hrb
        rw [← hxe] at this
        rw [decide_eq_false (by omega)]; rfl
    · cases hwb : wr (opN g b) with
      | false => rfl
      | true =>
        have := hw b b0 b1 hwb
        rw [← hxe] at this
        rw [decide_eq_false (by omega)]; rfl
end
theorem il_allowed {P : List (List Op)} {b : List Int} (hv : validT P = true) (hb : isB b) : rightG P (ilF P b) = true ∧ allowedG P (ilF P b) = true ∧ smallG (ilF P b) := by
  obtain ⟨D, hD, h⟩ := ilS_ex hv hb (evs P).length (Nat.le_refl _)
  have hr : rightG P (ilF P b) = true := h.right hv hD
  have ha : AllowedS (ilF P b) := h.allowed hv hD
  refine ⟨hr, by unfold allowedG; rw [hr, decide_eq_true ha]; rfl, ?_⟩
  have hn := (valid_iff.1 hv).1.2.2.2
  have e1 : (ilF P b).1.length = _ := h.el
  have e2 : (ilF P b).2.1.length = _ := h.frl
  have e3 : (ilF P b).2.2.1.length = _ := h.mol
  have e4 : (ilF P b).2.2.2 = _ := h.fo
  refine ⟨by omega, by omega, by omega, fun l hl => ?_, ?_⟩
  · obtain ⟨i, i0, i1, rfl⟩ := mem_rd (d := []) hl
    have : rd [] (ilF P b).2.2.1 i = _ := h.mo i i0 (by omega)
    rw [this]
    have := List.length_filter_le (isW (evs P) i) D
    omega
  · rw [e4]
    have := List.length_filter_le (fun a => kk (evs P) a == 4) D
    omega
end L31

/- For the laws: what a graph that bytes say is handed on with; what allowed gives. -/
open Go Go.V
namespace L31
theorem graph_small {P : List (List Op)} {b : List Int} (hv : validT P = true) (hb : isB b) : smallG (graphF P b) := by
  obtain ⟨⟨_, _, _, n6⟩, _⟩ := valid_iff.1 hv
  have e1 : (graphF P b).1.length = (evs P).length := vlR_len 8
  have e2 : (graphF P b).2.1.length = (evs P).length := frF_len _
  have e3 : (graphF P b).2.2.1.length = 3 := moF_len 3
  have e4 : (graphF P b).2.2.2.length = (fns (evs P)).length := (shuf_perm _ _ _ _ hb rfl).length_eq
  have e5 : (fns (evs P)).length ≤ (evs P).length := want_len
  exact ⟨by omega, by omega, by omega, graph_mo hv hb, by omega⟩
theorem graph_pre {P : List (List Op)} {b : List Int} (hv : validT P = true) (hb : isB b) : smallP P ∧ (evs P).length ≤ 100 ∧ (∀ e ∈ evs P, okOp (eop e) = true) ∧ isB b :=
  ⟨valid_small hv, by have := (valid_iff.1 hv).1; omega, (valid_iff.1 hv).2, hb⟩
theorem allowed_iff {P : List (List Op)} {g : Gr} : allowedG P g = true ↔ rightG P g = true ∧ AllowedS g := by
  unfold allowedG
  rw [Bool.and_eq_true, decide_eq_true_eq]
theorem coh_out {g : Gr} {i k : Int} (h : cohA g i k = true) : (wr (opN g k) = true → (if wr (opN g i) = true then wpl g i else rpl g i) < wpl g k) ∧ (rdd (opN g k) = true → (if wr (opN g i) = true then wpl g i else rpl g i) ≤ rpl g k) := by
  unfold cohA at h
  rw [Bool.and_eq_true] at h
  refine ⟨fun hw => ?_, fun hr => ?_⟩
  · have := h.2
    rw [hw, Bool.true_and, Bool.not_eq_true', decide_eq_false_iff_not] at this
    omega
  · have := h.1
    rw [hr, Bool.true_and, Bool.not_eq_true', decide_eq_false_iff_not] at this
    omega
/-- Two events of a core on a place are coherent in a graph that is allowed. -/
theorem coh_core {g : Gr} (hA : AllowedS g) {i k : Int} (i0 : 0 ≤ i) (k1 : k < g.1.length) (h : i < k) (hc : (rd ev0 g.1 i).1 = (rd ev0 g.1 k).1) (hx : xx g.1 i = xx g.1 k) (hi : kk g.1 i ≠ 4) (hk : kk g.1 k ≠ 4) : cohA g i k = true := by
  refine (allowed_all.1 hA).2.2 i i0 (by omega) k (by omega) k1 (fw_base _ _ _ ?_) ⟨hi, hk, hx⟩
  unfold befR ordB
  rw [decide_eq_true (by omega), decide_eq_true (by omega), show ((i.toNat : Nat) : Int) = i by omega, show ((k.toNat : Nat) : Int) = k by omega, beq_iff_eq.2 hc, decide_eq_true h]
  rfl
theorem wr_iff {o : Op} : wr o = true ↔ o.1 = 2 ∨ o.1 = 3 := by
  unfold wr; rw [Bool.or_eq_true, beq_iff_eq, beq_iff_eq]
theorem rdd_iff {o : Op} : rdd o = true ↔ o.1 = 1 ∨ o.1 = 3 := by
  unfold rdd; rw [Bool.or_eq_true, beq_iff_eq, beq_iff_eq]
theorem opN_1 {g : Gr} {i : Int} : (opN g i).1 = kk g.1 i := rfl
theorem wpl_b {g : Gr} {a : Int} (h : (rd [] g.2.2.1 (xx g.1 a)).length ≤ 1000) : -1 ≤ wpl g a ∧ wpl g a ≤ 1000 := by
  have h1 := idx_ge (l := rd [] g.2.2.1 (xx g.1 a)) (n := a)
  refine ⟨h1, ?_⟩
  rcases Int.lt_or_le (wpl g a) 0 with h3 | h3
  · omega
  · have := (idx_spec (l := rd [] g.2.2.1 (xx g.1 a)) (n := a) h3).1
    unfold wpl; omega
end L31

/- Additions alone: the last value is the sum. -/
open Go Go.V
namespace L31
def adds (o : Op) : Op := if o.1 = 2 then (3, o.2) else o
def addP (P : List (List Op)) : List (List Op) := P.map fun l => l.map adds
theorem adds_ok {o : Op} (h : okOp o = true) : okOp (adds o) = true ∧ (adds o).1 ≠ 2 := by
  unfold adds
  split
  · rename_i h2
    refine ⟨?_, by simp⟩
    unfold okOp at h ⊢
    rw [decide_eq_true_eq] at h ⊢
    dsimp only
    omega
  · rename_i h2; exact ⟨h, h2⟩
theorem evF_addP : ∀ (P : List (List Op)) (c : Int), evF c (addP P) = (evF c P).map fun e => mkE e.1 (adds (eop e))
  | [], _ => rfl
  | l :: P, c => by
    have ih := evF_addP P (c + 1)
    unfold addP at ih ⊢
    simp only [List.map_cons, evF, List.map_append, ih, List.map_map]
    congr 1
theorem addP_valid {P : List (List Op)} (h : validT P = true) : validT (addP P) = true ∧ ∀ e ∈ evs (addP P), (eop e).1 ≠ 2 := by
  obtain ⟨⟨h1, h2, h3, h4⟩, h5⟩ := valid_iff.1 h
  have he : evs (addP P) = (evs P).map fun e => mkE e.1 (adds (eop e)) := evF_addP P 0
  have hl : (addP P).length = P.length := by simp [addP]
  refine ⟨valid_iff.2 ⟨⟨by omega, by omega, by rw [he, List.length_map]; omega, by rw [he, List.length_map]; omega⟩, fun e hm => ?_⟩, fun e hm => ?_⟩
  · rw [he] at hm
    obtain ⟨e0, h6, rfl⟩ := List.mem_map.1 hm
    exact (adds_ok (h5 e0 h6)).1
  · rw [he] at hm
    obtain ⟨e0, h6, rfl⟩ := List.mem_map.1 hm
    exact (adds_ok (h5 e0 h6)).2
/-- A row that is changed element by element. -/
def half {α : Type} (f : α → α) (l : List α) (k : Int) : List α := (l.take k.toNat).map f ++ l.drop k.toNat
theorem half_len {α : Type} {f : α → α} {l : List α} {k : Int} : (half f l k).length = l.length := by
  unfold half; simp only [List.length_append, List.length_map, List.length_take, List.length_drop]; omega
theorem half_rd {α : Type} {d : α} {f : α → α} {l : List α} {k j : Int} (j0 : 0 ≤ j) (h : j < l.length) : rd d (half f l k) j = if j < k then f (rd d l j) else rd d l j := by
  have hj : j.toNat < l.length := by omega
  unfold half rd
  rw [List.getD_eq_getElem?_getD, List.getElem?_append, List.length_map, List.length_take, List.getD_eq_getElem?_getD, List.getElem?_eq_getElem hj]
  by_cases hjk : j < k
  · rw [if_pos hjk, if_pos (by omega), List.getElem?_map, List.getElem?_take, if_pos (by omega), List.getElem?_eq_getElem hj]; rfl
  · rw [if_neg hjk, if_neg (by omega), List.getElem?_drop, show k.toNat + (j.toNat - min k.toNat l.length) = j.toNat by omega, List.getElem?_eq_getElem hj]
theorem gen_ext {α : Type} (d : α) {a b : List α} (hl : a.length = b.length) (h : ∀ j : Int, 0 ≤ j → j < a.length → rd d a j = rd d b j) : a = b := by
  refine List.ext_getElem hl fun i h1 h2 => ?_
  have := h i (by omega) (by omega)
  unfold rd at this
  rw [List.getD_eq_getElem?_getD, List.getD_eq_getElem?_getD, Int.toNat_natCast, List.getElem?_eq_getElem h1, List.getElem?_eq_getElem h2] at this
  exact this
theorem half_set {α : Type} {d : α} {f : α → α} {l : List α} {k : Int} (k0 : 0 ≤ k) (h : k < l.length) : (half f l k).set k.toNat (f (rd d l k)) = half f l (k + 1) := by
  refine gen_ext d (by rw [List.length_set, half_len, half_len]) fun j j0 j1 => ?_
  rw [List.length_set, half_len] at j1
  rw [rd_setI k0 (by rw [half_len]; exact h) j0, half_rd j0 j1, half_rd j0 j1]
  by_cases hj : j = k
  · subst hj; rw [if_pos rfl, if_pos (by omega)]
  · rw [if_neg hj]
    by_cases h2 : j < k
    · rw [if_pos h2, if_pos (by omega)]
    · rw [if_neg h2, if_neg (by omega)]
theorem half_same {α : Type} {d : α} {f : α → α} {l : List α} {k : Int} (h : k < l.length) (hf : f (rd d l k) = rd d l k) : half f l k = half f l (k + 1) := by
  refine gen_ext d (by rw [half_len, half_len]) fun j j0 j1 => ?_
  rw [half_len] at j1
  rw [half_rd j0 j1, half_rd j0 j1]
  by_cases hj : j = k
  · subst hj; rw [if_neg (by omega), if_pos (by omega), hf]
  · by_cases h2 : j < k
    · rw [if_pos h2, if_pos (by omega)]
    · rw [if_neg h2, if_neg (by omega)]
theorem half_zero {α : Type} {f : α → α} {l : List α} : half f l 0 = l := by simp [half]
theorem half_all {α : Type} {f : α → α} {l : List α} {k : Int} (h : (l.length : Int) ≤ k) : half f l k = l.map f := by
  unfold half
  rw [List.take_of_length_le (by omega), List.drop_of_length_le (by omega), List.append_nil]
theorem set_same {α : Type} (d : α) {l : List α} {k : Int} (k0 : 0 ≤ k) (h : k < l.length) : l.set k.toNat (rd d l k) = l := by
  refine gen_ext d (by rw [List.length_set]) fun j j0 j1 => ?_
  rw [rd_setI k0 h j0]
  split
  · rename_i e; rw [e]
  · rfl
/-! ### sums -/
def sumL : List Int → Int
  | [] => 0
  | x :: l => x + sumL l
theorem sumL_app : ∀ (a b : List Int), sumL (a ++ b) = sumL a + sumL b
  | [], b => by simp [sumL]
  | x :: a, b => by simp only [List.cons_append, sumL, sumL_app a b]; omega
theorem sumL_perm {a b : List Int} (h : a.Perm b) : sumL a = sumL b := by
  induction h with
  | nil => rfl
  | cons x _ ih => simp only [sumL, ih]
  | swap x y l => simp only [sumL]; omega
  | trans _ _ h1 h2 => exact h1.trans h2
def vv (e : List Ev) (i : Int) : Int := (rd ev0 e i).2.2.2.1
/-- The sum of all V at a place. -/
def sumV (e : List Ev) (x : Int) : Nat → Int
  | 0 => 0
  | n + 1 => sumV e x n + if xx e n = x then vv e n else 0
theorem sumV_want {e : List Ev} {x : Int} (h : ∀ a : Nat, a < e.length → wr (eop (rd ev0 e a)) = false → vv e a = 0) : ∀ n : Nat, n ≤ e.length → sumV e x n = sumL ((wantN e (fun o => wr o && o.2.1 == x) n).map (vv e))
  | 0, _ => rfl
  | n + 1, hn => by
    rw [wantN_succ, List.map_append, sumL_app]
    simp only [sumV, sumV_want h n (by omega)]
    congr 1
    have hx : (eop (rd ev0 e (n : Int))).2.1 = xx e n := rfl
    by_cases hxx : xx e n = x
    · rw [if_pos hxx]
      cases hw : wr (eop (rd ev0 e (n : Int))) with
      | true =>
        rw [if_pos (by rw [hx, hxx, beq_self_eq_true]; rfl)]
        simp [sumL]
      | false =>
        rw [if_neg (by simp), h n (by omega) hw]; rfl
    · rw [if_neg hxx, if_neg (by rw [hx]; simp [hxx])]; rfl
theorem sumV_b {e : List Ev} {x : Int} (h : ∀ a : Nat, a < e.length → -100 ≤ vv e a ∧ vv e a ≤ 100) : ∀ n : Nat, n ≤ e.length → -100 * (n : Int) ≤ sumV e x n ∧ sumV e x n ≤ 100 * n
  | 0, _ => by simp [sumV]
  | n + 1, hn => by
    have ih := sumV_b (x := x) h n (by omega)
    have := h n (by omega)
    simp only [sumV]
    split <;> omega
theorem vv_ok {g : Gr} (F : RightF g) {a : Int} (a0 : 0 ≤ a) (a1 : a < g.1.length) : -100 ≤ vv g.1 a ∧ vv g.1 a ≤ 100 ∧ (wr (opN g a) = false → vv g.1 a = 0) := by
  have h := F.ok a a0 a1
  unfold okOp at h
  rw [decide_eq_true_eq] at h
  have e : vv g.1 a = (opN g a).2.2 := rfl
  refine ⟨by omega, by omega, fun hw => ?_⟩
  have : ¬((opN g a).1 = 2 ∨ (opN g a).1 = 3) := fun h2 => by rw [wr_iff.2 h2] at hw; cases hw
  rw [e]
  exact h.2.2.2.2.2.2.2 (by omega)
/-- Of what an addition reads in a graph that is allowed. -/
theorem add_from {g : Gr} (F : RightF g) (hA : AllowedS g) {x j : Int} (x0 : 0 ≤ x) (x1 : x < 3) (j0 : 0 ≤ j) (j1 : j < (rd [] g.2.2.1 x).length) (hk : kk g.1 (rd 0 (rd [] g.2.2.1 x) j) = 3) :
    rd 0 g.2.1 (rd 0 (rd [] g.2.2.1 x) j) = if j = 0 then -1 else rd 0 (rd [] g.2.2.1 x) (j - 1) := by
  have hm := rd_mem (rd [] g.2.2.1 x) j j0 j1
  have hnd := F.mond x x0 x1
  generalize ha : rd 0 (rd [] g.2.2.1 x) j = a at hk hm ⊢
  obtain ⟨a0, a1, hw, hx⟩ := (F.moin x x0 x1 a).1 hm
  have hC := (allowed_all.1 hA).2.1 a a0 a1 hk
  unfold rpl wpl at hC
  rw [hx] at hC
  have hij : idx (rd [] g.2.2.1 x) a = j := by rw [← ha]; exact idx_rd hnd j0 j1
  rw [hij] at hC
  by_cases h0 : j = 0
  · rw [if_pos h0]
    rcases F.from' a a0 a1 with h1 | ⟨h1, h2, h3, h4, h5⟩
    · exact h1
    · exfalso
      have : rd 0 g.2.1 a ∈ rd [] g.2.2.1 x := (F.moin x x0 x1 _).2 ⟨h2, h3, h4, by rw [h5, hx]⟩
      have := idx_in this
      omega
  · rw [if_neg h0, ← hC]
    exact (idx_spec (by omega)).2.symm
theorem mo_want {g : Gr} (F : RightF g) {x : Int} (x0 : 0 ≤ x) (x1 : x < 3) : (rd [] g.2.2.1 x).Perm (want g.1 fun o => wr o && o.2.1 == x) := by
  refine (List.perm_ext_iff_of_nodup (F.mond x x0 x1) want_nodup).2 fun y => ?_
  rw [F.moin x x0 x1 y, want_mem]
  simp only [Bool.and_eq_true, beq_iff_eq]
  exact Iff.rfl
theorem mo_le {g : Gr} (F : RightF g) {x : Int} (x0 : 0 ≤ x) (x1 : x < 3) : (rd [] g.2.2.1 x).length ≤ g.1.length := by
  rw [(mo_want F x0 x1).length_eq]
  exact want_len
theorem adds_val {g : Gr} (F : RightF g) (hA : AllowedS g) (h2 : ∀ a : Int, 0 ≤ a → a < g.1.length → kk g.1 a ≠ 2) {x : Int} (x0 : 0 ≤ x) (x1 : x < 3) :
    ∀ j : Nat, j ≤ (rd [] g.2.2.1 x).length → (-100 * (j : Int) ≤ sumL (((rd [] g.2.2.1 x).take j).map (vv g.1)) ∧ sumL (((rd [] g.2.2.1 x).take j).map (vv g.1)) ≤ 100 * j) ∧ (if j = 0 then (0 : Int) else val g.1 (rd 0 (rd [] g.2.2.1 x) ((j : Int) - 1))) = sumL (((rd [] g.2.2.1 x).take j).map (vv g.1))
  | 0, _ => by simp [sumL]
  | j + 1, hj => by
    obtain ⟨ihb, ih⟩ := adds_val F hA h2 x0 x1 j (by omega)
    have hm := rd_mem (rd [] g.2.2.1 x) j (by omega) (by omega)
    obtain ⟨a0, a1, hw, hx⟩ := (F.moin x x0 x1 _).1 hm
    have hk : kk g.1 (rd 0 (rd [] g.2.2.1 x) j) = 3 := by
      have := wr_iff.1 hw
      rw [opN_1] at this
      exact this.resolve_left (h2 _ a0 a1)
    have hfr := add_from F hA x0 x1 (j := j) (by omega) (by omega) hk
    have hlen := mo_le F x0 x1
    have h6 := F.le6
    have ht : (rd [] g.2.2.1 x).take (j + 1) = (rd [] g.2.2.1 x).take j ++ [rd 0 (rd [] g.2.2.1 x) j] := by
      have := take_succ_rd 0 (rd [] g.2.2.1 x) j (by omega) (by omega)
      rw [Int.toNat_natCast, show ((j : Int) + 1).toNat = j + 1 by omega] at this
      exact this
    rw [ht, List.map_append, sumL_app, List.map_cons, List.map_nil]
    simp only [sumL, Int.add_zero]
    generalize hae : rd 0 (rd [] g.2.2.1 x) (j : Int) = a at *
    have hv := vv_ok F a0 a1
    refine ⟨by omega, ?_⟩
    rw [if_neg (by omega), show ((j + 1 : Nat) : Int) - 1 = j by omega, hae]
    have hR := F.val a a0 a1
    have hrd : rdd (opN g a) = true := rdd_iff.2 (.inr hk)
    rw [if_pos hrd] at hR
    have hfv : val g.1 (rd 0 g.2.1 a) = sumL (((rd [] g.2.2.1 x).take j).map (vv g.1)) := by
      rw [hfr, ← ih]
      by_cases h0 : j = 0
      · subst h0; rfl
      · rw [if_neg (by omega), if_neg h0]
    unfold val
    rw [if_neg (by omega), if_pos (show (rd (0, 0, 0, 0, 0) g.1 a).2.1 = 3 from hk), hR, hfv]
    show IntKind.i64.wrap (_ + vv g.1 a) = _
    exact fits_wrap (k := .i64) (by simp only [fits]; unfold vv at hv ihb ⊢; omega)
theorem adds_last {g : Gr} (F : RightF g) (hA : AllowedS g) (h2 : ∀ a : Int, 0 ≤ a → a < g.1.length → kk g.1 a ≠ 2) {x : Int} (x0 : 0 ≤ x) (x1 : x < 3) : val g.1 (lastOf (rd [] g.2.2.1 x)) = sumV g.1 x g.1.length := by
  have h := (adds_val F hA h2 x0 x1 (rd [] g.2.2.1 x).length (Nat.le_refl _)).2
  rw [List.take_length] at h
  have hv : val g.1 (lastOf (rd [] g.2.2.1 x)) = sumL ((rd [] g.2.2.1 x).map (vv g.1)) := by
    rw [← h]
    unfold lastOf
    by_cases h0 : (rd [] g.2.2.1 x).length = 0
    · rw [if_pos h0, if_pos h0]; rfl
    · rw [if_neg h0, if_neg h0]
  rw [hv, sumV_want (fun a ha hw => (vv_ok F (a := a) (by omega) (by omega)).2.2 hw) _ (Nat.le_refl _)]
  exact sumL_perm (List.Perm.map _ (mo_want F x0 x1))
/-- No two additions to a place read the same write. -/
theorem adds_apart {g : Gr} (F : RightF g) (hA : AllowedS g) {i k : Int} (i0 : 0 ≤ i) (i1 : i < g.1.length) (k0 : 0 ≤ k) (k1 : k < g.1.length) (hi : kk g.1 i = 3) (hk : kk g.1 k = 3) (hx : xx g.1 i = xx g.1 k) (hf : rd 0 g.2.1 i = rd 0 g.2.1 k) : i = k := by
  have hok := F.ok i i0 i1
  unfold okOp at hok
  rw [decide_eq_true_eq] at hok
  have hX : 0 ≤ xx g.1 i ∧ xx g.1 i < 3 := by
    have h1 : 0 ≤ xx g.1 i := hok.1
    have h2 : xx g.1 i ≤ 2 := hok.2.1
    omega
  have c1 := (allowed_all.1 hA).2.1 i i0 i1 hi
  have c2 := (allowed_all.1 hA).2.1 k k0 k1 hk
  unfold rpl wpl at c1 c2
  rw [← hx, ← hf] at c2
  have mi : i ∈ rd [] g.2.2.1 (xx g.1 i) := (F.moin _ hX.1 hX.2 i).2 ⟨i0, i1, wr_iff.2 (.inr hi), rfl⟩
  have mk : k ∈ rd [] g.2.2.1 (xx g.1 i) := (F.moin _ hX.1 hX.2 k).2 ⟨k0, k1, wr_iff.2 (.inr hk), hx.symm⟩
  have e1 := idx_spec (idx_in mi).1
  have e2 := idx_spec (idx_in mk).1
  rw [← e1.2, ← e2.2, show idx (rd [] g.2.2.1 (xx g.1 i)) i = idx (rd [] g.2.2.1 (xx g.1 i)) k by omega]
theorem adds_k2 {P : List (List Op)} {b : List Int} (h2 : ∀ e ∈ evs P, (eop e).1 ≠ 2) {a : Int} (a0 : 0 ≤ a) (a1 : a < (graphF P b).1.length) : kk (graphF P b).1 a ≠ 2 := by
  have e1 : (graphF P b).1.length = (evs P).length := vlR_len 8
  have e2 : eop (rd ev0 (graphF P b).1 a) = eop (rd ev0 (evs P) a) := (vlR_op a a0 8).2
  have := h2 _ (rd_memG ev0 (evs P) a a0 (by omega))
  rw [← e2] at this
  exact this
end L31

open Go Go.V
namespace L31
set_option linter.unusedVariables false
set_option linter.unusedSimpArgs false

def S6 : FSpec := { args := [.cell lU, .cell lU], pre := fun a _ => (fun (x b : List Int) => x.length ≤ 140737488351232 ∧ isB x ∧ isB b) a.1 a.2.1, res := fun _ _ => .c (.c (.bool true)) }
def A6 : Ans := { op := fun r i => (bif Nat.beq r 1 && Nat.beq i 0 then {con := some S10} else (bif Nat.beq r 4 && Nat.beq i 1 then {con := some S11} else (bif Nat.beq r 12 && Nat.beq i 4 then {op := true} else (bif Nat.beq r 12 && Nat.beq i 8 then {up := some 48} else (bif Nat.beq r 13 && Nat.beq i 2 then {con := some S12, fz := true} else (bif Nat.beq r 14 && Nat.beq i 2 then {con := some S18} else (bif Nat.beq r 20 && Nat.beq i 1 then {dp := 0} else (bif Nat.beq r 20 && Nat.beq i 2 then {dp := 0} else (bif Nat.beq r 26 && Nat.beq i 3 then {con := some S24} else (bif Nat.beq r 26 && Nat.beq i 6 then {con := some S23} else {})))))))))), lp := fun b => (bif Nat.beq b 0 then [(6, none), (6, some 0), (16, some 999), (17, some 999)] else (bif Nat.beq b 2 then [(6, none), (6, some 0), (19, some 999), (20, some 999)] else (bif Nat.beq b 4 then [(10, none), (53, some 999), (54, some 999), (55, some 999), (56, some 999), (57, some 999), (61, some 999)] else (bif Nat.beq b 6 then [(63, some 999), (64, some 999), (69, some 999), (70, some 999), (71, some 999), (73, some 999), (74, some 999), (75, some 999), (77, some 999), (79, some 999), (80, some 999), (82, some 999), (83, some 999), (84, some 999), (87, some 999)] else [])))), cd := fun b => (bif Nat.beq b 12 then some ([(6, none), (6, some 0), (44, some 999)]) else none) }
-- VC

theorem f6_vc : ∀ (x b : List Int), (x.length ≤ 140737488351232 ∧ isB x ∧ isB b) → (SoundF Proofs.Try.prog (10 : Nat) S10 ∧ True) ∧ (SoundF Proofs.Try.prog (11 : Nat) S11 ∧ x.length ≤ (140737488351232 : Nat) ∧ ∀ (x_1 : Int), List.Mem x_1 x → (0 :
  Int) ≤ x_1 ∧ x_1 ≤ (255 : Int)) ∧ ∃ (I : Int × Unit × List (List (Int × Int × Int)) → Prop), ∃ (μ : Int × Unit × List (List (Int × Int × Int)) → Nat), I ((0 : Int), PUnit.unit, madeF x) ∧ ∀ (g : Int × Unit × List (List (Int × Int ×
  Int))), I g → bif decide (g.fst < (↑g.snd.snd.length : Int)) then ∃ (I_1 : Int × Unit × List (List (Int × Int × Int)) → Prop), ∃ (μ_1 : Int × Unit × List (List (Int × Int × Int)) → Nat), I_1 ((0 : Int), PUnit.unit, g.snd.snd) ∧ ∀
  (g_1 : Int × Unit × List (List (Int × Int × Int))), I_1 g_1 → ((0 : Int) ≤ g.fst ∧ g.fst < (↑g_1.snd.snd.length : Int)) ∧ g.fst.toNat < g_1.snd.snd.length ∧ bif decide (g_1.fst < (↑(rd [] g_1.snd.snd (↑g.fst.toNat : Int)).length :
  Int)) then ((0 : Int) ≤ g.fst ∧ g.fst < (↑g_1.snd.snd.length : Int)) ∧ g.fst.toNat < g_1.snd.snd.length ∧ ((0 : Int) ≤ g_1.fst ∧ g_1.fst < (↑(rd [] g_1.snd.snd (↑g.fst.toNat : Int)).length : Int)) ∧ ∃ (J : Unit × List (List (Int ×
  Int × Int)) → Prop), (bif (rd ((0 : Int), (0 : Int), (0 : Int)) (rd [] g_1.snd.snd (↑g.fst.toNat : Int)) g_1.fst).fst == (2 : Int) then ((0 : Int) ≤ g.fst ∧ g.fst < (↑g_1.snd.snd.length : Int)) ∧ g.fst.toNat < g_1.snd.snd.length ∧
  ((0 : Int) ≤ g_1.fst ∧ g_1.fst < (↑(rd [] g_1.snd.snd (↑g.fst.toNat : Int)).length : Int)) ∧ (g_1.fst.toNat < (rd [] g_1.snd.snd (↑g.fst.toNat : Int)).length ∧ g.fst.toNat < g_1.snd.snd.length) ∧ J (PUnit.unit, g_1.snd.snd.set
  g.fst.toNat ((rd [] g_1.snd.snd (↑g.fst.toNat : Int)).set g_1.fst.toNat ((3 : Int), (rd ((0 : Int), (0 : Int), (0 : Int)) (rd [] g_1.snd.snd (↑g.fst.toNat : Int)) (↑g_1.fst.toNat : Int)).snd))) else J (PUnit.unit, g_1.snd.snd)) ∧ ∀
  (g : Unit × List (List (Int × Int × Int))), J g → ((-9223372036854775808 : Int) ≤ g_1.fst + (1 : Int) ∧ g_1.fst + (1 : Int) ≤ (9223372036854775807 : Int)) ∧ I_1 (g_1.fst + (1 : Int), PUnit.unit, g.snd) ∧ μ_1 (g_1.fst + (1 : Int),
  PUnit.unit, g.snd) < μ_1 g_1 else ((-9223372036854775808 : Int) ≤ g.fst + (1 : Int) ∧ g.fst + (1 : Int) ≤ (9223372036854775807 : Int)) ∧ I (g.fst + (1 : Int), PUnit.unit, g_1.snd.snd) ∧ μ (g.fst + (1 : Int), PUnit.unit,
  g_1.snd.snd) < μ g else (SoundF Proofs.Try.prog (12 : Nat) S12 ∧ (g.snd.snd.length ≤ (1000 : Nat) ∧ ∀ (l : List (Int × Int × Int)), List.Mem l g.snd.snd → l.length ≤ (1000 : Nat)) ∧ (evs g.snd.snd).length ≤ (100 : Nat) ∧ (∀ (e :
  Int × Int × Int × Int × Int), List.Mem e (evs g.snd.snd) → okOp (eop e) = true) ∧ ∀ (x : Int), List.Mem x b → (0 : Int) ≤ x ∧ x ≤ (255 : Int)) ∧ (SoundF Proofs.Try.prog (18 : Nat) S18 ∧ (g.snd.snd.length ≤ (1000 : Nat) ∧ ∀ (l :
  List (Int × Int × Int)), List.Mem l g.snd.snd → l.length ≤ (1000 : Nat)) ∧ (graphF g.snd.snd b).fst.length ≤ (1000 : Nat) ∧ (graphF g.snd.snd b).snd.fst.length ≤ (1000 : Nat) ∧ (3 : Nat) ≤ (1000 : Nat) ∧ (∀ (l : List Int), List.Mem
  l (graphF g.snd.snd b).snd.snd.fst → l.length ≤ (1000 : Nat)) ∧ (graphF g.snd.snd b).snd.snd.snd.length ≤ (1000 : Nat)) ∧ bif !allowedG g.snd.snd ((graphF g.snd.snd b).fst, (graphF g.snd.snd b).snd.fst, (graphF g.snd.snd
  b).snd.snd.fst, (graphF g.snd.snd b).snd.snd.snd) then true = true else ∃ (I : Bool × Int × List Int → Prop), ∃ (μ : Bool × Int × List Int → Nat), I (false, (0 : Int), [(0 : Int), (0 : Int), (0 : Int)]) ∧ ∀ (g_1 : Bool × Int × List
  Int), I g_1 → bif decide (g_1.snd.fst < (↑(graphF g.snd.snd b).fst.length : Int)) then ((0 : Int) ≤ g_1.snd.fst ∧ g_1.snd.fst < (↑(graphF g.snd.snd b).fst.length : Int)) ∧ ((0 : Int) ≤ (rd ((0 : Int), (0 : Int), (0 : Int), (0 :
  Int), (0 : Int)) (graphF g.snd.snd b).fst g_1.snd.fst).snd.snd.fst ∧ (rd ((0 : Int), (0 : Int), (0 : Int), (0 : Int), (0 : Int)) (graphF g.snd.snd b).fst g_1.snd.fst).snd.snd.fst < (↑g_1.snd.snd.length : Int)) ∧ (rd ((0 : Int), (0
  : Int), (0 : Int), (0 : Int), (0 : Int)) (graphF g.snd.snd b).fst g_1.snd.fst).snd.snd.fst.toNat < g_1.snd.snd.length ∧ ((0 : Int) ≤ g_1.snd.fst ∧ g_1.snd.fst < (↑(graphF g.snd.snd b).fst.length : Int)) ∧ ((-9223372036854775808 :
  Int) ≤ rd (0 : Int) g_1.snd.snd (↑(rd ((0 : Int), (0 : Int), (0 : Int), (0 : Int), (0 : Int)) (graphF g.snd.snd b).fst g_1.snd.fst).snd.snd.fst.toNat : Int) + (rd ((0 : Int), (0 : Int), (0 : Int), (0 : Int), (0 : Int)) (graphF
  g.snd.snd b).fst g_1.snd.fst).snd.snd.snd.fst ∧ rd (0 : Int) g_1.snd.snd (↑(rd ((0 : Int), (0 : Int), (0 : Int), (0 : Int), (0 : Int)) (graphF g.snd.snd b).fst g_1.snd.fst).snd.snd.fst.toNat : Int) + (rd ((0 : Int), (0 : Int), (0 :
  Int), (0 : Int), (0 : Int)) (graphF g.snd.snd b).fst g_1.snd.fst).snd.snd.snd.fst ≤ (9223372036854775807 : Int)) ∧ ((0 : Int) ≤ (rd ((0 : Int), (0 : Int), (0 : Int), (0 : Int), (0 : Int)) (graphF g.snd.snd b).fst
  g_1.snd.fst).snd.snd.fst ∧ (rd ((0 : Int), (0 : Int), (0 : Int), (0 : Int), (0 : Int)) (graphF g.snd.snd b).fst g_1.snd.fst).snd.snd.fst < (↑g_1.snd.snd.length : Int)) ∧ (rd ((0 : Int), (0 : Int), (0 : Int), (0 : Int), (0 : Int))
  (graphF g.snd.snd b).fst g_1.snd.fst).snd.snd.fst.toNat < g_1.snd.snd.length ∧ ∃ (I_1 : Bool × Int → Prop), ∃ (μ_1 : Bool × Int → Nat), I_1 (g_1.fst, (0 : Int)) ∧ ∀ (g_2 : Bool × Int), I_1 g_2 → bif decide (g_2.snd < g_1.snd.fst)
  then ((0 : Int) ≤ g_1.snd.fst ∧ g_1.snd.fst < (↑(graphF g.snd.snd b).fst.length : Int)) ∧ bif (rd ((0 : Int), (0 : Int), (0 : Int), (0 : Int), (0 : Int)) (graphF g.snd.snd b).fst g_1.snd.fst).snd.fst == (3 : Int) then ((0 : Int) ≤
  g_2.snd ∧ g_2.snd < (↑(graphF g.snd.snd b).fst.length : Int)) ∧ bif (rd ((0 : Int), (0 : Int), (0 : Int), (0 : Int), (0 : Int)) (graphF g.snd.snd b).fst g_2.snd).snd.fst == (3 : Int) then ((0 : Int) ≤ g_1.snd.fst ∧ g_1.snd.fst <
  (↑(graphF g.snd.snd b).fst.length : Int)) ∧ ((0 : Int) ≤ g_2.snd ∧ g_2.snd < (↑(graphF g.snd.snd b).fst.length : Int)) ∧ bif (rd ((0 : Int), (0 : Int), (0 : Int), (0 : Int), (0 : Int)) (graphF g.snd.snd b).fst
  g_1.snd.fst).snd.snd.fst == (rd ((0 : Int), (0 : Int), (0 : Int), (0 : Int), (0 : Int)) (graphF g.snd.snd b).fst g_2.snd).snd.snd.fst then ((0 : Int) ≤ g_1.snd.fst ∧ g_1.snd.fst < (↑(graphF g.snd.snd b).snd.fst.length : Int)) ∧ ((0
  : Int) ≤ g_2.snd ∧ g_2.snd < (↑(graphF g.snd.snd b).snd.fst.length : Int)) ∧ bif rd (0 : Int) (graphF g.snd.snd b).snd.fst g_1.snd.fst == rd (0 : Int) (graphF g.snd.snd b).snd.fst g_2.snd then false = true else
  ((-9223372036854775808 : Int) ≤ g_2.snd + (1 : Int) ∧ g_2.snd + (1 : Int) ≤ (9223372036854775807 : Int)) ∧ I_1 (g_2.fst, g_2.snd + (1 : Int)) ∧ μ_1 (g_2.fst, g_2.snd + (1 : Int)) < μ_1 g_2 else True ∧ ((-9223372036854775808 : Int)
  ≤ g_2.snd + (1 : Int) ∧ g_2.snd + (1 : Int) ≤ (9223372036854775807 : Int)) ∧ I_1 (g_2.fst, g_2.snd + (1 : Int)) ∧ μ_1 (g_2.fst, g_2.snd + (1 : Int)) < μ_1 g_2 else True ∧ True ∧ ((-9223372036854775808 : Int) ≤ g_2.snd + (1 : Int) ∧
  g_2.snd + (1 : Int) ≤ (9223372036854775807 : Int)) ∧ I_1 (g_2.fst, g_2.snd + (1 : Int)) ∧ μ_1 (g_2.fst, g_2.snd + (1 : Int)) < μ_1 g_2 else True ∧ True ∧ True ∧ ((-9223372036854775808 : Int) ≤ g_2.snd + (1 : Int) ∧ g_2.snd + (1 :
  Int) ≤ (9223372036854775807 : Int)) ∧ I_1 (g_2.fst, g_2.snd + (1 : Int)) ∧ μ_1 (g_2.fst, g_2.snd + (1 : Int)) < μ_1 g_2 else ((-9223372036854775808 : Int) ≤ g_1.snd.fst + (1 : Int) ∧ g_1.snd.fst + (1 : Int) ≤ (9223372036854775807 :
  Int)) ∧ I (g_2.fst, g_1.snd.fst + (1 : Int), g_1.snd.snd.set (rd ((0 : Int), (0 : Int), (0 : Int), (0 : Int), (0 : Int)) (graphF g.snd.snd b).fst g_1.snd.fst).snd.snd.fst.toNat (rd (0 : Int) g_1.snd.snd (↑(rd ((0 : Int), (0 : Int),
  (0 : Int), (0 : Int), (0 : Int)) (graphF g.snd.snd b).fst g_1.snd.fst).snd.snd.fst.toNat : Int) + (rd ((0 : Int), (0 : Int), (0 : Int), (0 : Int), (0 : Int)) (graphF g.snd.snd b).fst g_1.snd.fst).snd.snd.snd.fst)) ∧ μ (g_2.fst,
  g_1.snd.fst + (1 : Int), g_1.snd.snd.set (rd ((0 : Int), (0 : Int), (0 : Int), (0 : Int), (0 : Int)) (graphF g.snd.snd b).fst g_1.snd.fst).snd.snd.fst.toNat (rd (0 : Int) g_1.snd.snd (↑(rd ((0 : Int), (0 : Int), (0 : Int), (0 :
  Int), (0 : Int)) (graphF g.snd.snd b).fst g_1.snd.fst).snd.snd.fst.toNat : Int) + (rd ((0 : Int), (0 : Int), (0 : Int), (0 : Int), (0 : Int)) (graphF g.snd.snd b).fst g_1.snd.fst).snd.snd.snd.fst)) < μ g_1 else (SoundF
  Proofs.Try.prog (24 : Nat) S24 ∧ ((graphF g.snd.snd b).fst.length ≤ (1000 : Nat) ∧ (graphF g.snd.snd b).snd.fst.length ≤ (1000 : Nat) ∧ (3 : Nat) ≤ (1000 : Nat) ∧ (∀ (l : List Int), List.Mem l (graphF g.snd.snd b).snd.snd.fst →
  l.length ≤ (1000 : Nat)) ∧ (graphF g.snd.snd b).snd.snd.snd.length ≤ (1000 : Nat)) ∧ (3 : Nat) = (3 : Nat) ∧ ∀ (l : List Int), List.Mem l (graphF g.snd.snd b).snd.snd.fst → ∀ (x : Int), List.Mem x l → x < (↑(graphF g.snd.snd
  b).fst.length : Int)) ∧ (SoundF Proofs.Try.prog (23 : Nat) S23 ∧ (3 : Nat) ≤ (1000 : Nat)) ∧ (outL ((graphF g.snd.snd b).fst, (graphF g.snd.snd b).snd.fst, (graphF g.snd.snd b).snd.snd.fst, (graphF g.snd.snd b).snd.snd.snd)).beq
  g_1.snd.snd = true := by
  rintro x b ⟨hx, hx2, hb⟩
  have hv0 := made_valid hx2
  obtain ⟨hv, hn2⟩ := addP_valid hv0
  have hP := graph_pre hv hb
  have hs := graph_small hv hb
  simp only [gr_eta]
  refine ⟨⟨f10_sound, trivial⟩, ⟨f11_sound, hx, hx2⟩, ?_⟩
  generalize madeF x = P at hv0 hv hn2 hP hs ⊢
  have hl4 := (valid_iff.1 hv0).1
  have hrow := (valid_small hv0).2
  refine ⟨fun t => 0 ≤ t.1 ∧ t.1 ≤ P.length ∧ t.2.2 = half (List.map adds) P t.1, fun t => (P.length - t.1).toNat, ⟨by simp, by simp, half_zero.symm⟩, ?_⟩
  rintro ⟨i, u, Q⟩ ⟨i0, i1, hQ⟩
  dsimp only at i0 i1 hQ ⊢
  have hQl : Q.length = P.length := by rw [hQ, half_len]
  refine condI (fun h => ?_) (fun h => ?_)
  · have h := of_decide_eq_true h
    rw [hQl] at h
    have hii : ((i.toNat : Nat) : Int) = i := by omega
    have hr0 : rd [] Q i = rd [] P i := by rw [hQ, half_rd i0 h, if_neg (by omega)]
    have hrl : (rd [] P i).length ≤ 1000 := hrow _ (rd_memG [] P i i0 h)
    refine ⟨fun t => 0 ≤ t.1 ∧ t.1 ≤ (rd [] P i).length ∧ t.2.2 = Q.set i.toNat (half adds (rd [] P i) t.1), fun t => ((rd [] P i).length - t.1).toNat, ⟨by simp, by simp, ?_⟩, ?_⟩
    · dsimp only
      rw [half_zero, ← hr0, set_same [] i0 (by omega)]
    rintro ⟨k, u2, R⟩ ⟨k0, k1, hR⟩
    dsimp only at k0 k1 hR ⊢
    have hRl : R.length = P.length := by rw [hR, List.length_set, hQl]
    have hRr : rd [] R i = half adds (rd [] P i) k := by rw [hR, rd_setI i0 (by omega) i0, if_pos rfl]
    have hhl : (half adds (rd [] P i) k).length = (rd [] P i).length := half_len
    simp only [hii, hRr, hRl, hhl]
    refine ⟨by omega, by omega, condI (fun h2 => ?_) (fun h2 => ?_)⟩
    · have h2 := of_decide_eq_true h2
      have hkk : ((k.toNat : Nat) : Int) = k := by omega
      have hk : rd ((0 : Int), (0 : Int), (0 : Int)) (half adds (rd [] P i) k) k = rd (0, 0, 0) (rd [] P i) k := by rw [half_rd k0 h2, if_neg (by omega)]
      simp only [hkk, hk]
      refine ⟨by omega, by omega, by omega, fun t => t.2 = Q.set i.toNat (half adds (rd [] P i) (k + 1)), condI (fun h3 => ?_) (fun h3 => ?_), ?_⟩
      · have h3 := eq_of_beq h3
        refine ⟨by omega, by omega, by omega, by omega, ?_⟩
        dsimp only
        rw [hR, List.set_set, ← half_set (d := ((0 : Int), (0 : Int), (0 : Int))) k0 h2]
        congr 2
        unfold adds
        rw [if_pos h3]
      · have h3 := beq_eq_false_iff_ne.1 h3
        dsimp only
        rw [hR, ← half_same (d := ((0 : Int), (0 : Int), (0 : Int))) h2 (by unfold adds; rw [if_neg h3])]
      · rintro ⟨u3, R3⟩ h4
        dsimp only at h4 ⊢
        exact ⟨by omega, ⟨by omega, by omega, h4⟩, by omega⟩
    · have h2 := of_decide_eq_false h2
      refine ⟨by omega, ⟨by omega, by omega, ?_⟩, by omega⟩
      rw [hR, half_all (by omega), hQ, ← half_set (d := ([] : List Op)) i0 h]
  have h := of_decide_eq_false h
  have hQ2 : Q = addP P := by rw [hQ, half_all (by omega)]; rfl
  subst hQ2
  refine ⟨⟨f12_sound, hP⟩, ⟨f18_sound, hP.1, hs⟩, condI (fun _ => trivial) (fun h => ?_)⟩
  have hk2 := fun (a : Int) a0 a1 => adds_k2 (P := addP P) (b := b) hn2 (a := a) a0 a1
  rw [Bool.not_eq_false'] at h
  generalize hg : graphF (addP P) b = g at h hs hk2 ⊢
  obtain ⟨hR, hA⟩ := allowed_iff.1 h
  have F := right_facts hR
  have h6 := F.le6
  have hfr := F.fr
  have hX : ∀ a : Int, 0 ≤ a → a < g.1.length → 0 ≤ xx g.1 a ∧ xx g.1 a < 3 := fun a a0 a1 => by
    have h := F.ok a a0 a1
    unfold okOp at h
    rw [decide_eq_true_eq] at h
    have h1 : 0 ≤ xx g.1 a := h.1
    have h2 : xx g.1 a ≤ 2 := h.2.1
    omega
  refine ⟨fun t => 0 ≤ t.2.1 ∧ t.2.1 ≤ g.1.length ∧ t.2.2.length = 3 ∧ ∀ p : Int, 0 ≤ p → p < 3 → rd 0 t.2.2 p = sumV g.1 p t.2.1.toNat, fun t => (g.1.length - t.2.1).toNat, ⟨by simp, by simp, rfl, fun p p0 p1 => ?_⟩, ?_⟩
  · rcases (by omega : p = 0 ∨ p = 1 ∨ p = 2) with rfl | rfl | rfl <;> rfl
  rintro ⟨q, i, s⟩ ⟨i0, i1, hsl, hsum⟩
  dsimp only at i0 i1 hsl hsum ⊢
  refine condI (fun h2 => ?_) (fun h2 => ?_)
  · have h2 := of_decide_eq_true h2
    have hXi := hX i i0 h2
    have eX : (rd ((0 : Int), (0 : Int), (0 : Int), (0 : Int), (0 : Int)) g.1 i).2.2.1 = xx g.1 i := rfl
    have eV : (rd ((0 : Int), (0 : Int), (0 : Int), (0 : Int), (0 : Int)) g.1 i).2.2.2.1 = vv g.1 i := rfl
    have hxx : (((xx g.1 i).toNat : Nat) : Int) = xx g.1 i := by omega
    have hb1 := sumV_b (e := g.1) (x := xx g.1 i) (fun a ha => ⟨(vv_ok F (a := a) (by omega) (by omega)).1, (vv_ok F (a := a) (by omega) (by omega)).2.1⟩) i.toNat (by omega)
    have hvi := vv_ok F i0 h2
    have hsi := hsum (xx g.1 i) hXi.1 hXi.2
    simp only [eX, eV, hxx, hsl]
    refine ⟨by omega, by omega, by omega, by omega, by omega, by omega, by omega, fun t => 0 ≤ t.2 ∧ t.2 ≤ i, fun t => (i - t.2).toNat, ⟨by simp, by simpa using i0⟩, ?_⟩
    rintro ⟨q2, k⟩ ⟨k0, k1⟩
    dsimp only at k0 k1 ⊢
    refine condI (fun h3 => ?_) (fun h3 => ?_)
    · have h3 := of_decide_eq_true h3
      have st : (-9223372036854775808 ≤ k + 1 ∧ k + 1 ≤ 9223372036854775807) ∧ (0 ≤ k + 1 ∧ k + 1 ≤ i) ∧ (i - (k + 1)).toNat < (i - k).toNat := by omega
      refine ⟨by omega, condI (fun j1 => ⟨by omega, condI (fun j2 => ⟨by omega, by omega, condI (fun j3 => ⟨by omega, by omega, condI (fun j4 => ?_) (fun j4 => st)⟩) (fun j3 => ⟨trivial, st⟩)⟩) (fun j2 => ⟨trivial, trivial, st⟩)⟩) (fun j1 => ⟨trivial, trivial, trivial, st⟩)⟩
      exfalso
      have := adds_apart F hA i0 h2 k0 (by omega) (eq_of_beq j1) (eq_of_beq j2) (eq_of_beq j3) (eq_of_beq j4)
      omega
    · have h3 := of_decide_eq_false h3
      refine ⟨by omega, ⟨by omega, by omega, by rw [List.length_set]; exact hsl, fun p p0 p1 => ?_⟩, by omega⟩
      rw [rd_setI hXi.1 (by omega) p0, show (i + 1).toNat = i.toNat + 1 by omega]
      simp only [sumV, show ((i.toNat : Nat) : Int) = i by omega]
      split
      · rename_i hp; rw [if_pos hp.symm, hsi, hp]
      · rename_i hp; rw [if_neg (fun hh => hp hh.symm), hsum p p0 p1]; omega
  · have h2 := of_decide_eq_false h2
    have hi : i.toNat = g.1.length := by omega
    rw [hi] at hsum
    refine ⟨⟨f24_sound, ⟨hs.1, hs.2.1, by omega, hs.2.2.2.1, hs.2.2.2.2⟩, by trivial, fun l hl y hy => ?_⟩, ⟨f23_sound, by omega⟩, ?_⟩
    · obtain ⟨p, p1, rfl⟩ := List.getElem_of_mem hl
      have hp3 := F.mo
      have e : g.2.2.1[p] = rd [] g.2.2.1 (p : Int) := by
        unfold rd; rw [List.getD_eq_getElem?_getD, Int.toNat_natCast, List.getElem?_eq_getElem p1]; rfl
      rw [e] at hy
      exact ((F.moin p (by omega) (by omega) y).1 hy).2.1
    · refine beq_list.2 (list_ext hsl.symm fun p p0 p1 => ?_)
      have p1 : p < 3 := p1
      rw [hsum p p0 p1, ← adds_last F hA hk2 p0 p1]
      rcases (by omega : p = 0 ∨ p = 1 ∨ p = 2) with rfl | rfl | rfl <;> rfl
theorem f6_fun : FunOk Go.Proofs.Try.prog A6 Go.Proofs.Try.f6 S6 := ⟨by
  intro a b h
  have h1 := f6_vc (a.1) (a.2.1) h
  apply eqmp h1
  kernel_rfl⟩
theorem f6_sound : SoundF Go.Proofs.Try.prog 6 S6 := sound_of f6_fun (by kernel_rfl) (by kernel_rfl) (by kernel_rfl)
end L31

