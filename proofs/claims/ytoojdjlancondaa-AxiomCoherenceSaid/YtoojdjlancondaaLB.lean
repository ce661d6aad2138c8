/- What functions compute, each proved of its own code by that logic: the conditions stand in the specifications. -/
import Derived.Test.YtoojdjlancondaaLA
import Derived.KernelRfl
set_option linter.unusedVariables false
set_option linter.unusedSimpArgs false
set_option linter.unusedSectionVars false
set_option linter.all false
open Go Go.V
namespace L31
set_option linter.unusedVariables false
set_option linter.unusedSimpArgs false

def S11 : FSpec := { args := [.cell lU], pre := fun a _ => (fun (b : List Int) => b.length ≤ 140737488351232 ∧ isB b) a.1, res := fun _ _ => .g [.c (.sl 0)], tk1 := fun a _ => [(0, .row true 49 (.one (.sl 45 rOp)) (madeF a.1))] }
def A11 : Ans := { op := fun r i => (bif Nat.beq r 1 && Nat.beq i 1 then {cl := true} else (bif Nat.beq r 13 && Nat.beq i 1 then {con := some S32} else (bif Nat.beq r 18 && Nat.beq i 0 then {dp := 0} else (bif Nat.beq r 18 && Nat.beq i 1 then {dp := 0} else (bif Nat.beq r 18 && Nat.beq i 7 then {op := true} else (bif Nat.beq r 19 && Nat.beq i 1 then {con := some S33} else (bif Nat.beq r 20 && Nat.beq i 3 then {cl := true} else {}))))))), lp := fun b => (bif Nat.beq b 0 then [(3, none), (3, some 0), (9, some 999), (10, some 999), (11, some 999), (12, some 999), (15, some 999), (16, some 999)] else (bif Nat.beq b 2 then [(3, none), (3, some 0), (9, some 999), (10, some 999), (11, some 999), (12, some 999), (15, some 999), (16, some 999), (26, some 999), (27, some 999), (28, some 999), (29, some 999), (30, some 999), (31, some 999)] else [])), rj := fun b => (bif Nat.beq b 10 then [.sbool 40] else []), cd := fun b => (bif Nat.beq b 4 then some ([(14, some 999)]) else none) }
-- VC

theorem f11_vc : ∀ (b : List Int), (b.length ≤ 140737488351232 ∧ isB b) → ∃ (J : Int → Prop), (bif decide ((0 : Int) < (↑b.length : Int)) then ((0 : Int) ≤ (0 : Int) ∧ (0 : Int) < (↑b.length : Int)) ∧ ((4 : Int) = (0 : Int) → False) ∧
  ((-9223372036854775808 : Int) ≤ (rd (0 : Int) b (0 : Int)).tmod (4 : Int) ∧ (rd (0 : Int) b (0 : Int)).tmod (4 : Int) ≤ (9223372036854775807 : Int)) ∧ ((-9223372036854775808 : Int) ≤ (1 : Int) + (rd (0 : Int) b (0 : Int)).tmod (4 :
  Int) ∧ (1 : Int) + (rd (0 : Int) b (0 : Int)).tmod (4 : Int) ≤ (9223372036854775807 : Int)) ∧ J ((1 : Int) + (rd (0 : Int) b (0 : Int)).tmod (4 : Int)) else J (1 : Int)) ∧ ∀ (g : Int), J g → ∃ (I : Int × Unit × List (List (Int ×
  Int × Int)) → Prop), ∃ (μ : Int × Unit × List (List (Int × Int × Int)) → Nat), I ((1 : Int), PUnit.unit, [[]]) ∧ ∀ (g_1 : Int × Unit × List (List (Int × Int × Int))), I g_1 → bif decide (g_1.fst < g) then (g_1.snd.2.length + (1 :
  Nat)) * (24 : Nat) ≤ (140737488355328 : Nat) ∧ ((-9223372036854775808 : Int) ≤ g_1.fst + (1 : Int) ∧ g_1.fst + (1 : Int) ≤ (9223372036854775807 : Int)) ∧ I (g_1.fst + (1 : Int), PUnit.unit, g_1.snd.2 ++ [[]]) ∧ μ (g_1.fst + (1 :
  Int), PUnit.unit, g_1.snd.2 ++ [[]]) < μ g_1 else ∃ (I : Int × Unit × List (List (Int × Int × Int)) → Prop), ∃ (μ : Int × Unit × List (List (Int × Int × Int)) → Nat), I ((1 : Int), PUnit.unit, g_1.snd.snd) ∧ ∀ (g_2 : Int × Unit ×
  List (List (Int × Int × Int))), I g_2 → ∃ (J : Bool → Prop), (((-9223372036854775808 : Int) ≤ g_2.fst + (1 : Int) ∧ g_2.fst + (1 : Int) ≤ (9223372036854775807 : Int)) ∧ bif decide (g_2.fst + (1 : Int) < (↑b.length : Int)) then J
  (decide (g_2.fst < (13 : Int))) else True ∧ J false) ∧ ∀ (g_3 : Bool), J g_3 → bif g_3 then ((0 : Int) ≤ g_2.fst ∧ g_2.fst < (↑b.length : Int)) ∧ ((4 : Int) = (0 : Int) → False) ∧ ((-9223372036854775808 : Int) ≤ (rd (0 : Int) b
  g_2.fst).tmod (4 : Int) ∧ (rd (0 : Int) b g_2.fst).tmod (4 : Int) ≤ (9223372036854775807 : Int)) ∧ ((-9223372036854775808 : Int) ≤ (1 : Int) + (rd (0 : Int) b g_2.fst).tmod (4 : Int) ∧ (1 : Int) + (rd (0 : Int) b g_2.fst).tmod (4 :
  Int) ≤ (9223372036854775807 : Int)) ∧ ((0 : Int) ≤ g_2.fst ∧ g_2.fst < (↑b.length : Int)) ∧ ((4 : Int) = (0 : Int) → False) ∧ ((-9223372036854775808 : Int) ≤ IntKind.u8.wrap ((rd (0 : Int) b g_2.fst).tdiv (4 : Int)) ∧
  IntKind.u8.wrap ((rd (0 : Int) b g_2.fst).tdiv (4 : Int)) ≤ (9223372036854775807 : Int)) ∧ ((3 : Int) = (0 : Int) → False) ∧ (SoundF Proofs.Try.prog (32 : Nat) S32 ∧ True) ∧ bif wr ((1 : Int) + (rd (0 : Int) b g_2.fst).tmod (4 :
  Int), (IntKind.u8.wrap ((rd (0 : Int) b g_2.fst).tdiv (4 : Int))).tmod (3 : Int), (0 : Int)) then ((-9223372036854775808 : Int) ≤ g_2.fst + (1 : Int) ∧ g_2.fst + (1 : Int) ≤ (9223372036854775807 : Int)) ∧ ((0 : Int) ≤ g_2.fst + (1
  : Int) ∧ g_2.fst + (1 : Int) < (↑b.length : Int)) ∧ ((4 : Int) = (0 : Int) → False) ∧ ((-9223372036854775808 : Int) ≤ IntKind.u8.wrap ((rd (0 : Int) b (g_2.fst + (1 : Int))).tdiv (4 : Int)) ∧ IntKind.u8.wrap ((rd (0 : Int) b
  (g_2.fst + (1 : Int))).tdiv (4 : Int)) ≤ (9223372036854775807 : Int)) ∧ ((9 : Int) = (0 : Int) → False) ∧ ((-9223372036854775808 : Int) ≤ (1 : Int) + (IntKind.u8.wrap ((rd (0 : Int) b (g_2.fst + (1 : Int))).tdiv (4 : Int))).tmod (9
  : Int) ∧ (1 : Int) + (IntKind.u8.wrap ((rd (0 : Int) b (g_2.fst + (1 : Int))).tdiv (4 : Int))).tmod (9 : Int) ≤ (9223372036854775807 : Int)) ∧ bif (1 : Int) + (rd (0 : Int) b g_2.fst).tmod (4 : Int) == (4 : Int) then
  ((-9223372036854775808 : Int) ≤ g_2.fst + (1 : Int) ∧ g_2.fst + (1 : Int) ≤ (9223372036854775807 : Int)) ∧ ((0 : Int) ≤ g_2.fst + (1 : Int) ∧ g_2.fst + (1 : Int) < (↑b.length : Int)) ∧ ((-9223372036854775808 : Int) ≤ rd (0 : Int) b
  (g_2.fst + (1 : Int)) ∧ rd (0 : Int) b (g_2.fst + (1 : Int)) ≤ (9223372036854775807 : Int)) ∧ (g = (0 : Int) → False) ∧ ((0 : Int) ≤ (rd (0 : Int) b (g_2.fst + (1 : Int))).tmod g ∧ (rd (0 : Int) b (g_2.fst + (1 : Int))).tmod g <
  (↑g_2.snd.snd.length : Int)) ∧ ((rd (0 : Int) b (g_2.fst + (1 : Int))).tmod g).toNat < g_2.snd.snd.length ∧ ((rd [] g_2.snd.snd (↑((rd (0 : Int) b (g_2.fst + (1 : Int))).tmod g).toNat : Int)).length + (1 : Nat)) * (24 : Nat) ≤
  (140737488355328 : Nat) ∧ ((0 : Int) ≤ (rd (0 : Int) b (g_2.fst + (1 : Int))).tmod g ∧ (rd (0 : Int) b (g_2.fst + (1 : Int))).tmod g < (↑g_2.snd.snd.length : Int)) ∧ (((rd (0 : Int) b (g_2.fst + (1 : Int))).tmod g).toNat = ((rd (0
  : Int) b (g_2.fst + (1 : Int))).tmod g).toNat ∧ ((rd (0 : Int) b (g_2.fst + (1 : Int))).tmod g).toNat < g_2.snd.snd.length) ∧ ((-9223372036854775808 : Int) ≤ g_2.fst + (2 : Int) ∧ g_2.fst + (2 : Int) ≤ (9223372036854775807 : Int))
  ∧ I (g_2.fst + (2 : Int), PUnit.unit, g_2.snd.snd.set ((rd (0 : Int) b (g_2.fst + (1 : Int))).tmod g).toNat (rd [] g_2.snd.snd (↑((rd (0 : Int) b (g_2.fst + (1 : Int))).tmod g).toNat : Int) ++ [((1 : Int) + (rd (0 : Int) b
  g_2.fst).tmod (4 : Int), (0 : Int), (1 : Int) + (IntKind.u8.wrap ((rd (0 : Int) b (g_2.fst + (1 : Int))).tdiv (4 : Int))).tmod (9 : Int))])) ∧ μ (g_2.fst + (2 : Int), PUnit.unit, g_2.snd.snd.set ((rd (0 : Int) b (g_2.fst + (1 :
  Int))).tmod g).toNat (rd [] g_2.snd.snd (↑((rd (0 : Int) b (g_2.fst + (1 : Int))).tmod g).toNat : Int) ++ [((1 : Int) + (rd (0 : Int) b g_2.fst).tmod (4 : Int), (0 : Int), (1 : Int) + (IntKind.u8.wrap ((rd (0 : Int) b (g_2.fst + (1
  : Int))).tdiv (4 : Int))).tmod (9 : Int))])) < μ g_2 else ((-9223372036854775808 : Int) ≤ g_2.fst + (1 : Int) ∧ g_2.fst + (1 : Int) ≤ (9223372036854775807 : Int)) ∧ ((0 : Int) ≤ g_2.fst + (1 : Int) ∧ g_2.fst + (1 : Int) <
  (↑b.length : Int)) ∧ ((-9223372036854775808 : Int) ≤ rd (0 : Int) b (g_2.fst + (1 : Int)) ∧ rd (0 : Int) b (g_2.fst + (1 : Int)) ≤ (9223372036854775807 : Int)) ∧ (g = (0 : Int) → False) ∧ ((0 : Int) ≤ (rd (0 : Int) b (g_2.fst + (1
  : Int))).tmod g ∧ (rd (0 : Int) b (g_2.fst + (1 : Int))).tmod g < (↑g_2.snd.snd.length : Int)) ∧ ((rd (0 : Int) b (g_2.fst + (1 : Int))).tmod g).toNat < g_2.snd.snd.length ∧ ((rd [] g_2.snd.snd (↑((rd (0 : Int) b (g_2.fst + (1 :
  Int))).tmod g).toNat : Int)).length + (1 : Nat)) * (24 : Nat) ≤ (140737488355328 : Nat) ∧ ((0 : Int) ≤ (rd (0 : Int) b (g_2.fst + (1 : Int))).tmod g ∧ (rd (0 : Int) b (g_2.fst + (1 : Int))).tmod g < (↑g_2.snd.snd.length : Int)) ∧
  (((rd (0 : Int) b (g_2.fst + (1 : Int))).tmod g).toNat = ((rd (0 : Int) b (g_2.fst + (1 : Int))).tmod g).toNat ∧ ((rd (0 : Int) b (g_2.fst + (1 : Int))).tmod g).toNat < g_2.snd.snd.length) ∧ ((-9223372036854775808 : Int) ≤ g_2.fst
  + (2 : Int) ∧ g_2.fst + (2 : Int) ≤ (9223372036854775807 : Int)) ∧ I (g_2.fst + (2 : Int), PUnit.unit, g_2.snd.snd.set ((rd (0 : Int) b (g_2.fst + (1 : Int))).tmod g).toNat (rd [] g_2.snd.snd (↑((rd (0 : Int) b (g_2.fst + (1 :
  Int))).tmod g).toNat : Int) ++ [((1 : Int) + (rd (0 : Int) b g_2.fst).tmod (4 : Int), (IntKind.u8.wrap ((rd (0 : Int) b g_2.fst).tdiv (4 : Int))).tmod (3 : Int), (1 : Int) + (IntKind.u8.wrap ((rd (0 : Int) b (g_2.fst + (1 :
  Int))).tdiv (4 : Int))).tmod (9 : Int))])) ∧ μ (g_2.fst + (2 : Int), PUnit.unit, g_2.snd.snd.set ((rd (0 : Int) b (g_2.fst + (1 : Int))).tmod g).toNat (rd [] g_2.snd.snd (↑((rd (0 : Int) b (g_2.fst + (1 : Int))).tmod g).toNat :
  Int) ++ [((1 : Int) + (rd (0 : Int) b g_2.fst).tmod (4 : Int), (IntKind.u8.wrap ((rd (0 : Int) b g_2.fst).tdiv (4 : Int))).tmod (3 : Int), (1 : Int) + (IntKind.u8.wrap ((rd (0 : Int) b (g_2.fst + (1 : Int))).tdiv (4 : Int))).tmod
  (9 : Int))])) < μ g_2 else bif (1 : Int) + (rd (0 : Int) b g_2.fst).tmod (4 : Int) == (4 : Int) then ((-9223372036854775808 : Int) ≤ g_2.fst + (1 : Int) ∧ g_2.fst + (1 : Int) ≤ (9223372036854775807 : Int)) ∧ ((0 : Int) ≤ g_2.fst +
  (1 : Int) ∧ g_2.fst + (1 : Int) < (↑b.length : Int)) ∧ ((-9223372036854775808 : Int) ≤ rd (0 : Int) b (g_2.fst + (1 : Int)) ∧ rd (0 : Int) b (g_2.fst + (1 : Int)) ≤ (9223372036854775807 : Int)) ∧ (g = (0 : Int) → False) ∧ ((0 :
  Int) ≤ (rd (0 : Int) b (g_2.fst + (1 : Int))).tmod g ∧ (rd (0 : Int) b (g_2.fst + (1 : Int))).tmod g < (↑g_2.snd.snd.length : Int)) ∧ ((rd (0 : Int) b (g_2.fst + (1 : Int))).tmod g).toNat < g_2.snd.snd.length ∧ ((rd [] g_2.snd.snd
  (↑((rd (0 : Int) b (g_2.fst + (1 : Int))).tmod g).toNat : Int)).length + (1 : Nat)) * (24 : Nat) ≤ (140737488355328 : Nat) ∧ ((0 : Int) ≤ (rd (0 : Int) b (g_2.fst + (1 : Int))).tmod g ∧ (rd (0 : Int) b (g_2.fst + (1 : Int))).tmod g
  < (↑g_2.snd.snd.length : Int)) ∧ (((rd (0 : Int) b (g_2.fst + (1 : Int))).tmod g).toNat = ((rd (0 : Int) b (g_2.fst + (1 : Int))).tmod g).toNat ∧ ((rd (0 : Int) b (g_2.fst + (1 : Int))).tmod g).toNat < g_2.snd.snd.length) ∧
  ((-9223372036854775808 : Int) ≤ g_2.fst + (2 : Int) ∧ g_2.fst + (2 : Int) ≤ (9223372036854775807 : Int)) ∧ I (g_2.fst + (2 : Int), PUnit.unit, g_2.snd.snd.set ((rd (0 : Int) b (g_2.fst + (1 : Int))).tmod g).toNat (rd [] g_2.snd.snd
  (↑((rd (0 : Int) b (g_2.fst + (1 : Int))).tmod g).toNat : Int) ++ [((1 : Int) + (rd (0 : Int) b g_2.fst).tmod (4 : Int), (0 : Int), (0 : Int))])) ∧ μ (g_2.fst + (2 : Int), PUnit.unit, g_2.snd.snd.set ((rd (0 : Int) b (g_2.fst + (1
  : Int))).tmod g).toNat (rd [] g_2.snd.snd (↑((rd (0 : Int) b (g_2.fst + (1 : Int))).tmod g).toNat : Int) ++ [((1 : Int) + (rd (0 : Int) b g_2.fst).tmod (4 : Int), (0 : Int), (0 : Int))])) < μ g_2 else ((-9223372036854775808 : Int)
  ≤ g_2.fst + (1 : Int) ∧ g_2.fst + (1 : Int) ≤ (9223372036854775807 : Int)) ∧ ((0 : Int) ≤ g_2.fst + (1 : Int) ∧ g_2.fst + (1 : Int) < (↑b.length : Int)) ∧ ((-9223372036854775808 : Int) ≤ rd (0 : Int) b (g_2.fst + (1 : Int)) ∧ rd (0
  : Int) b (g_2.fst + (1 : Int)) ≤ (9223372036854775807 : Int)) ∧ (g = (0 : Int) → False) ∧ ((0 : Int) ≤ (rd (0 : Int) b (g_2.fst + (1 : Int))).tmod g ∧ (rd (0 : Int) b (g_2.fst + (1 : Int))).tmod g < (↑g_2.snd.snd.length : Int)) ∧
  ((rd (0 : Int) b (g_2.fst + (1 : Int))).tmod g).toNat < g_2.snd.snd.length ∧ ((rd [] g_2.snd.snd (↑((rd (0 : Int) b (g_2.fst + (1 : Int))).tmod g).toNat : Int)).length + (1 : Nat)) * (24 : Nat) ≤ (140737488355328 : Nat) ∧ ((0 :
  Int) ≤ (rd (0 : Int) b (g_2.fst + (1 : Int))).tmod g ∧ (rd (0 : Int) b (g_2.fst + (1 : Int))).tmod g < (↑g_2.snd.snd.length : Int)) ∧ (((rd (0 : Int) b (g_2.fst + (1 : Int))).tmod g).toNat = ((rd (0 : Int) b (g_2.fst + (1 :
  Int))).tmod g).toNat ∧ ((rd (0 : Int) b (g_2.fst + (1 : Int))).tmod g).toNat < g_2.snd.snd.length) ∧ ((-9223372036854775808 : Int) ≤ g_2.fst + (2 : Int) ∧ g_2.fst + (2 : Int) ≤ (9223372036854775807 : Int)) ∧ I (g_2.fst + (2 : Int),
  PUnit.unit, g_2.snd.snd.set ((rd (0 : Int) b (g_2.fst + (1 : Int))).tmod g).toNat (rd [] g_2.snd.snd (↑((rd (0 : Int) b (g_2.fst + (1 : Int))).tmod g).toNat : Int) ++ [((1 : Int) + (rd (0 : Int) b g_2.fst).tmod (4 : Int),
  (IntKind.u8.wrap ((rd (0 : Int) b g_2.fst).tdiv (4 : Int))).tmod (3 : Int), (0 : Int))])) ∧ μ (g_2.fst + (2 : Int), PUnit.unit, g_2.snd.snd.set ((rd (0 : Int) b (g_2.fst + (1 : Int))).tmod g).toNat (rd [] g_2.snd.snd (↑((rd (0 :
  Int) b (g_2.fst + (1 : Int))).tmod g).toNat : Int) ++ [((1 : Int) + (rd (0 : Int) b g_2.fst).tmod (4 : Int), (IntKind.u8.wrap ((rd (0 : Int) b g_2.fst).tdiv (4 : Int))).tmod (3 : Int), (0 : Int))])) < μ g_2 else (SoundF
  Proofs.Try.prog (33 : Nat) S33 ∧ g_2.snd.snd.length ≤ (1000 : Nat) ∧ ∀ (l : List (Int × Int × Int)), List.Mem l g_2.snd.snd → l.length ≤ (1000 : Nat)) ∧ bif (↑(evs g_2.snd.snd).length : Int) == (0 : Int) then ((0 : Int) ≤ (0 : Int)
  ∧ (0 : Int) < (↑g_2.snd.snd.length : Int)) ∧ (0 : Nat) < g_2.snd.snd.length ∧ True ∧ g_2.snd.snd.set (0 : Nat) [((1 : Int), (0 : Int), (0 : Int))] = madeF b else True ∧ g_2.snd.snd = madeF b := by
  rintro b ⟨hl, hb⟩
  have hN := madeN_b hb
  refine ⟨fun q => q = madeN b, condI (fun h => ?_) (fun h => ?_), ?_⟩
  · have h := of_decide_eq_true h
    have h0 := rd_b hb 0
    rw [Int.tmod_eq_emod_of_nonneg h0.1]
    have h1 : 0 ≤ rd 0 b 0 % 4 ∧ rd 0 b 0 % 4 < 4 := ⟨Int.emod_nonneg _ (by omega), Int.emod_lt_of_pos _ (by omega)⟩
    refine ⟨by omega, fun h => by omega, by omega, by omega, ?_⟩
    unfold madeN
    rw [if_pos (by omega)]
  · have h := of_decide_eq_false h
    unfold madeN
    rw [if_neg (by omega)]
  rintro _ rfl
  generalize hn : madeN b = n at hN ⊢
  refine ⟨fun t => 1 ≤ t.1 ∧ t.1 ≤ n ∧ t.2.2 = List.replicate t.1.toNat [], fun t => (n - t.1).toNat, ⟨by simp, by dsimp only; omega, rfl⟩, ?_⟩
  rintro ⟨i, u, P⟩ ⟨i0, i1, hP⟩
  dsimp only at i0 i1 hP ⊢
  refine condI (fun h => ?_) (fun h => ?_)
  · have h := of_decide_eq_true h
    have hPl : P.length = i.toNat := by rw [hP, List.length_replicate]
    refine ⟨by omega, by omega, ⟨by omega, by omega, ?_⟩, by omega⟩
    rw [hP, show (i + 1).toNat = i.toNat + 1 by omega, List.replicate_succ']
  have h := of_decide_eq_false h
  have hin : n = i := by omega
  subst hin
  have hP0 : P = madeL b 0 := by rw [hP, ← hn]; rfl
  refine ⟨fun t => ∃ j : Nat, t.1 = 1 + 2 * j ∧ j ≤ madeK b ∧ t.2.2 = madeL b j, fun t => (13 - t.1).toNat, ⟨0, rfl, Nat.zero_le _, hP0⟩, ?_⟩
  rintro ⟨i2, u2, P2⟩ ⟨j, hi2, hj, hP2⟩
  dsimp only at hi2 hj hP2 ⊢
  have hk6 : madeK b ≤ 6 := Nat.min_le_left _ _
  have hkl : madeK b ≤ (b.length - 1) / 2 := Nat.min_le_right _ _
  have hkd : ∀ m : Nat, m < madeK b ↔ 2 + 2 * m < b.length ∧ m < 6 := fun m => by
    unfold madeK; omega
  refine ⟨fun q => q = decide (j < madeK b), ⟨by omega, condI (fun h2 => ?_) (fun h2 => ⟨trivial, ?_⟩)⟩, ?_⟩
  · have h2 := of_decide_eq_true h2
    show decide _ = decide _
    rw [decide_eq_decide, hkd]
    omega
  · have h2 := of_decide_eq_false h2
    refine fals fun h3 => ?_
    rw [hkd] at h3
    omega
  rintro _ rfl
  have hP2l : P2.length = n.toNat := by rw [hP2, madeL_len, hn]
  refine condI (fun h2 => ?_) (fun h2 => ?_)
  · have h2 := of_decide_eq_true h2
    have h3 := (hkd j).1 h2
    have bx := rd_b hb i2
    have bY := rd_b hb (i2 + 1)
    have e1 : (rd 0 b i2).tmod 4 = rd 0 b i2 % 4 := Int.tmod_eq_emod_of_nonneg bx.1
    have e2 : IntKind.u8.wrap ((rd 0 b i2).tdiv 4) = rd 0 b i2 / 4 := by
      rw [Int.tdiv_eq_ediv_of_nonneg bx.1]
      exact u8_wrap (by omega) (by omega)
    have e3 : IntKind.u8.wrap ((rd 0 b (i2 + 1)).tdiv 4) = rd 0 b (i2 + 1) / 4 := by
      rw [Int.tdiv_eq_ediv_of_nonneg bY.1]
      exact u8_wrap (by omega) (by omega)
    have e4 : (rd 0 b (i2 + 1)).tmod n = rd 0 b (i2 + 1) % n := Int.tmod_eq_emod_of_nonneg bY.1
    rw [e1, e2, e3, e4, Int.tmod_eq_emod_of_nonneg (show 0 ≤ rd 0 b i2 / 4 by omega), Int.tmod_eq_emod_of_nonneg (show 0 ≤ rd 0 b (i2 + 1) / 4 by omega)]
    have h4 : 0 ≤ rd 0 b i2 % 4 ∧ rd 0 b i2 % 4 < 4 := ⟨Int.emod_nonneg _ (by omega), Int.emod_lt_of_pos _ (by omega)⟩
    have h5 : 0 ≤ rd 0 b i2 / 4 % 3 ∧ rd 0 b i2 / 4 % 3 < 3 := ⟨Int.emod_nonneg _ (by omega), Int.emod_lt_of_pos _ (by omega)⟩
    have h6 : 0 ≤ rd 0 b (i2 + 1) / 4 % 9 ∧ rd 0 b (i2 + 1) / 4 % 9 < 9 := ⟨Int.emod_nonneg _ (by omega), Int.emod_lt_of_pos _ (by omega)⟩
    have h7 : 0 ≤ rd 0 b (i2 + 1) % n ∧ rd 0 b (i2 + 1) % n < n := ⟨Int.emod_nonneg _ (by omega), Int.emod_lt_of_pos _ (by omega)⟩
    have hrow : (rd [] P2 (rd 0 b (i2 + 1) % n)).length ≤ 6 := by
      have h8 := (madeL_evs hb j).1
      have := evs_row (P := P2) h7.1 (by omega)
      rw [hP2, h8] at this
      rw [hP2]; omega
    have hcast : (((rd 0 b (i2 + 1) % n).toNat : Nat) : Int) = rd 0 b (i2 + 1) % n := by omega
    rw [hcast]
    have hfin : ∀ o : Op, o = madeOp (rd 0 b i2) (rd 0 b (i2 + 1)) → ∃ j' : Nat, i2 + 2 = 1 + 2 * j' ∧ j' ≤ madeK b ∧ P2.set (rd 0 b (i2 + 1) % n).toNat (rd [] P2 (rd 0 b (i2 + 1) % n) ++ [o]) = madeL b j' := fun o ho => by
      refine ⟨j + 1, by omega, by omega, ?_⟩
      rw [madeL_succ, ← hP2, ho]
      unfold madeStep
      rw [hn, hi2, show (1 : Int) + 2 * j + 1 = 2 + 2 * j by omega]
    refine ⟨by omega, fun h => by omega, by omega, by omega, by omega, fun h => by omega, by omega, fun h => by omega, ⟨f32_sound, trivial⟩, condI (fun k => ?_) (fun k => ?_)⟩
    · unfold wr at k
      simp only [Bool.or_eq_true, beq_iff_eq] at k
      refine ⟨by omega, by omega, fun h => by omega, by omega, fun h => by omega, by omega, condI (fun k2 => ?_) (fun k2 => ?_)⟩
      · have k2 := eq_of_beq k2
        omega
      · have k2 := beq_eq_false_iff_ne.1 k2
        refine ⟨by omega, by omega, by omega, fun h => by omega, by omega, by omega, by omega, by omega, by omega, by omega, hfin _ ?_, by omega⟩
        unfold madeOp
        rw [if_neg k2, if_pos (by omega)]
    · unfold wr at k
      simp only [Bool.or_eq_false_iff, beq_eq_false_iff_ne] at k
      refine condI (fun k2 => ?_) (fun k2 => ?_)
      · have k2 := eq_of_beq k2
        refine ⟨by omega, by omega, by omega, fun h => by omega, by omega, by omega, by omega, by omega, by omega, by omega, hfin _ ?_, by omega⟩
        unfold madeOp
        rw [if_pos k2, if_neg (by omega)]
      · have k2 := beq_eq_false_iff_ne.1 k2
        refine ⟨by omega, by omega, by omega, fun h => by omega, by omega, by omega, by omega, by omega, by omega, by omega, hfin _ ?_, by omega⟩
        unfold madeOp
        rw [if_neg k2, if_neg (by omega)]
  have h2 := of_decide_eq_false h2
  have hjk : j = madeK b := by omega
  subst hjk
  subst hP2
  have hev := (madeL_evs hb (madeK b)).1
  refine ⟨⟨f33_sound, by omega, fun l hl => ?_⟩, condI (fun k => ⟨by omega, by omega, trivial, ?_⟩) (fun k => ⟨trivial, ?_⟩)⟩
  · obtain ⟨q, hq, rfl⟩ := List.getElem_of_mem hl
    have := evs_row (P := madeL b (madeK b)) (i := (q : Int)) (by omega) (by omega)
    have e : rd [] (madeL b (madeK b)) (q : Int) = (madeL b (madeK b))[q] := by
      unfold rd; rw [List.getD_eq_getElem?_getD, Int.toNat_natCast, List.getElem?_eq_getElem hq]; rfl
    rw [e] at this
    omega
  · have k : (evs (madeL b (madeK b))).length = 0 := by
      have := eq_of_beq k
      omega
    unfold madeF
    rw [if_pos k]
  · have k : (evs (madeL b (madeK b))).length ≠ 0 := by
      have := beq_eq_false_iff_ne.1 k
      omega
    unfold madeF
    rw [if_neg k]
theorem f11_fun : FunOk Go.Proofs.Try.prog A11 Go.Proofs.Try.f11 S11 := ⟨by
  intro a b h
  have h1 := f11_vc (a.1) h
  apply eqmp h1
  kernel_rfl⟩
theorem f11_sound : SoundF Go.Proofs.Try.prog 11 S11 := sound_of f11_fun (by kernel_rfl) (by kernel_rfl) (by kernel_rfl)
end L31

open Go Go.V
namespace L31
set_option linter.unusedVariables false
set_option linter.unusedSimpArgs false

def S22 : FSpec := { args := [.cell lI, .cell cI], pre := fun a _ => a.1.length ≤ 1000, res := fun a _ => .c (.c (.int .i64 (idx a.1 a.2.1))) }
def A22 : Ans := {  }
-- VC

theorem f22_vc : ∀ (l : List Int) (n : Int), l.length ≤ 1000 → ∃ (I : Int × Int → Prop), ∃ (μ : Int × Int → Nat), I ((0 : Int), (0 : Int)) ∧ ∀ (g : Int × Int), I g → bif decide (g.snd < (↑l.length : Int)) then ((0 : Int) ≤ g.snd ∧ g.snd <
  (↑l.length : Int)) ∧ bif rd (0 : Int) l g.snd == n then g.snd = idx l n else ((-9223372036854775808 : Int) ≤ g.snd + (1 : Int) ∧ g.snd + (1 : Int) ≤ (9223372036854775807 : Int)) ∧ I (g.fst, g.snd + (1 : Int)) ∧ μ (g.fst, g.snd + (1
  : Int)) < μ g else (-1 : Int) = idx l n := by
  intro l n hl
  refine ⟨fun g => 0 ≤ g.2 ∧ g.2 ≤ l.length ∧ ∀ j : Nat, j < g.2.toNat → l.getD j 0 ≠ n, fun g => (l.length - g.2).toNat, ⟨by simp, by simp, fun j hj => by simp at hj⟩, ?_⟩
  rintro ⟨_, i⟩ ⟨h0, h1, h2⟩
  dsimp only at *
  refine condI (fun h => ?_) (fun h => ?_)
  · have h := of_decide_eq_true h
    refine ⟨⟨h0, h⟩, condI (fun h3 => ?_) (fun h3 => ?_)⟩
    · have h3 := eq_of_beq h3
      rw [idx_app l n i.toNat (by omega) h2 (by simpa [rd] using h3)]
      omega
    · have h3 := ne_of_beq_false h3
      refine ⟨by omega, ⟨by omega, by omega, fun j hj => ?_⟩, by omega⟩
      by_cases hj2 : j < i.toNat
      · exact h2 j hj2
      · have : j = i.toNat := by omega
        subst this
        simpa [rd] using h3
  · have h := of_decide_eq_false h
    rw [idx_none l n fun j hj => h2 j (by omega)]
theorem f22_fun : FunOk Go.Proofs.Try.prog A22 Go.Proofs.Try.f22 S22 := ⟨by
  intro a b h
  have h1 := f22_vc (a.1) (a.2.1) h
  apply eqmp h1
  kernel_rfl⟩
theorem f22_sound : SoundF Go.Proofs.Try.prog 22 S22 := sound_of f22_fun (by kernel_rfl) (by kernel_rfl) (by kernel_rfl)
end L31

/- One operation after the other: the graph is right and allowed. -/
open Go Go.V
namespace L31
/-- Where an element that is kept stands among the kept ones. -/
theorem idx_filter {p : Int → Bool} : ∀ {D : List Int} {a : Int}, a ∈ D → p a = true → idx (D.filter p) a = ((D.take (idx D a).toNat).filter p).length
  | [], _, h, _ => by cases h
  | x :: D, a, h, hp => by
    by_cases hx : x = a
    · subst hx
      have : idx (x :: D) x = 0 := by simp [idx]
      rw [this, List.filter_cons_of_pos hp]
      simp [idx]
    · have ha : a ∈ D := by
        rcases List.mem_cons.1 h with h | h
        · exact absurd h.symm hx
        · exact h
      have h0 := idx_in ha
      have ih := idx_filter (p := p) ha hp
      have hi : idx (x :: D) a = idx D a + 1 := by simp only [idx, if_neg hx]; rw [if_neg (by omega)]
      rw [hi, show (idx D a + 1).toNat = (idx D a).toNat + 1 by omega, List.take_succ_cons]
      by_cases hpx : p x = true
      · rw [List.filter_cons_of_pos hpx, List.filter_cons_of_pos hpx, List.length_cons]
        simp only [idx, if_neg hx]
        have hf : a ∈ D.filter p := List.mem_filter.2 ⟨ha, hp⟩
        have := idx_in hf
        rw [if_neg (by omega), ih]
        omega
      · rw [List.filter_cons_of_neg hpx, List.filter_cons_of_neg hpx, ih]
theorem idx_last {p : Int → Bool} {D : List Int} (hn : D.Nodup) (h0 : ∀ x : Int, x ∈ D → 0 ≤ x) (k : Nat) : idx (D.filter p) (lastOf ((D.take k).filter p)) = (((D.take k).filter p).length : Int) - 1 := by
  have hs : D.filter p = (D.take k).filter p ++ (D.drop k).filter p := by rw [← List.filter_append, List.take_append_drop]
  have hnf : (D.filter p).Nodup := List.Pairwise.filter _ hn
  by_cases hl : ((D.take k).filter p).length = 0
  · unfold lastOf
    rw [if_pos hl, hl]
    have : idx (D.filter p) (-1) < 0 := idx_mem.2 fun hm => by have := h0 _ (List.mem_filter.1 hm).1; omega
    have := idx_ge (l := D.filter p) (n := -1)
    omega
  · unfold lastOf
    rw [if_neg hl]
    have e : rd 0 ((D.take k).filter p) (((D.take k).filter p).length - 1) = rd 0 (D.filter p) (((D.take k).filter p).length - 1) := by
      rw [hs, rd_app_left (by omega) (by omega)]
    rw [e]
    refine idx_rd hnf (by omega) ?_
    rw [hs, List.length_append]
    omega
/-- Kept elements keep their order. -/
theorem idx_filter_lt {p : Int → Bool} {D : List Int} {a b : Int} (h0 : 0 ≤ idx (D.filter p) a) (h : idx (D.filter p) a < idx (D.filter p) b) : idx D a < idx D b := by
  have ha : a ∈ D.filter p := Classical.not_not.1 fun hn => by have := idx_mem.2 hn; omega
  have hb : b ∈ D.filter p := Classical.not_not.1 fun hn => by have := idx_mem.2 hn; omega
  obtain ⟨a1, a2⟩ := List.mem_filter.1 ha
  obtain ⟨b1, b2⟩ := List.mem_filter.1 hb
  rw [idx_filter a1 a2, idx_filter b1 b2] at h
  rcases Int.lt_or_le (idx D a) (idx D b) with h1 | h1
  · exact h1
  · exfalso
    have : ((D.take (idx D b).toNat).filter p).length ≤ ((D.take (idx D a).toNat).filter p).length := by
      have hsub : List.Sublist (D.take (idx D b).toNat) (D.take (idx D a).toNat) := by
        rw [show D.take (idx D b).toNat = (D.take (idx D a).toNat).take (idx D b).toNat by rw [List.take_take, Nat.min_eq_left (by omega)]]
        exact List.take_sublist _ _
      exact (hsub.filter p).length_le
    omega
theorem cnt_le {p : Int → Bool} {D : List Int} {j k : Nat} (h : j ≤ k) : ((D.take j).filter p).length ≤ ((D.take k).filter p).length := by
  have hsub : List.Sublist (D.take j) (D.take k) := by
    rw [show D.take j = (D.take k).take j by rw [List.take_take, Nat.min_eq_left h]]
    exact List.take_sublist _ _
  exact (hsub.filter p).length_le
theorem cnt_next {p : Int → Bool} {D : List Int} {a : Int} (ha : a ∈ D) (hp : p a = true) : ((D.take ((idx D a).toNat + 1)).filter p).length = ((D.take (idx D a).toNat).filter p).length + 1 := by
  obtain ⟨h0, h1⟩ := idx_in ha
  have hr := (idx_spec h0).2
  have := take_succ_rd 0 D (idx D a) h0 h1
  rw [hr, show (idx D a + 1).toNat = (idx D a).toNat + 1 by omega] at this
  rw [this, List.filter_append]
  simp [hp]
theorem take_before {D : List Int} {a : Int} {k : Nat} (h : a ∈ D.take k) : idx D a < k := by
  have : idx D a = idx (D.take k) a := by
    conv => lhs; rw [← List.take_append_drop k D]
    exact idx_app_in h
  rw [this]
  have := (idx_in h).2
  rw [List.length_take] at this
  omega
section
variable {P : List (List Op)} {D nx : List Int} {g : Gr}
theorem Ex.all (h : Ex P D nx g) (hl : D.length = (evs P).length) {x : Int} (x0 : 0 ≤ x) (x1 : x < (evs P).length) : x ∈ D := by
  have hp := perm_of_sub (w := D) (l := (List.range (evs P).length).map Int.ofNat) h.nd (by simp; omega) fun y hy => by
    obtain ⟨h0, h1⟩ := h.inr y hy
    simp only [List.mem_map, List.mem_range]
    exact ⟨y.toNat, by omega, by show ((y.toNat : Nat) : Int) = y; omega⟩
  rw [← hp.mem_iff]
  simp only [List.mem_map, List.mem_range]
  exact ⟨x.toNat, by omega, by show ((x.toNat : Nat) : Int) = x; omega⟩
theorem Ex.right (hv : validT P = true) (h : Ex P D nx g) (hl : D.length = (evs P).length) : rightG P g = true := by
  refine right_iff.2 ⟨hv, right_all.2 ⟨h.el, h.frl, h.mol, fun n n0 n1 => ⟨(h.ops n n0).1, (h.ops n n0).2, ?_⟩, fun n n0 n1 => ?_, fun p p0 p1 => ?_, ?_⟩⟩
  · unfold src
    rw [decide_eq_true_eq, h.fr n n0 n1]
    split
    · rename_i hc
      rcases lastW_in (e := evs P) (D := D.take (idx D n).toNat) (x := xx (evs P) n) with h1 | ⟨h1, h2⟩
      · exact .inl h1
      · obtain ⟨q0, q1⟩ := h.inr _ (List.mem_of_mem_take h1)
        unfold isW at h2
        rw [Bool.and_eq_true, decide_eq_true_eq] at h2
        exact .inr ⟨hc.2, q0, q1, h2.1, h2.2⟩
    · exact .inl rfl
  · unfold RB
    rw [h.vl n n0 n1]
    by_cases hr : rdd (eop (rd ev0 (evs P) n)) = true
    · rw [if_pos ⟨h.all hl n0 n1, hr⟩, if_pos hr]
    · rw [if_neg (fun hc => hr hc.2), if_neg hr]
  · unfold RM
    rw [h.mo p p0 p1, isPerm_want]
    refine ⟨List.Pairwise.filter _ h.nd, fun x => ?_⟩
    rw [List.mem_filter]
    constructor
    · rintro ⟨h1, h2⟩
      obtain ⟨q0, q1⟩ := h.inr x h1
      unfold isW at h2
      rw [Bool.and_eq_true, decide_eq_true_eq] at h2
      refine ⟨q0, q1, ?_⟩
      rw [Bool.and_eq_true, beq_iff_eq]
      exact h2
    · rintro ⟨q0, q1, h2⟩
      rw [Bool.and_eq_true, beq_iff_eq] at h2
      refine ⟨h.all hl q0 q1, ?_⟩
      unfold isW
      rw [Bool.and_eq_true, decide_eq_true_eq]
      exact h2
  · rw [h.fo, isPerm_want]
    refine ⟨List.Pairwise.filter _ h.nd, fun x => ?_⟩
    rw [List.mem_filter]
    exact ⟨fun ⟨h1, h2⟩ => ⟨(h.inr x h1).1, (h.inr x h1).2, h2⟩, fun ⟨q0, q1, h2⟩ => ⟨h.all hl q0 q1, h2⟩⟩
theorem Ex.bef (h : Ex P D nx g) (hl : D.length = (evs P).length) {a b : Nat} (hb : befR g a b = true) : idx D a < idx D b := by
  unfold befR at hb
  simp only [Bool.and_eq_true, decide_eq_true_eq] at hb
  obtain ⟨⟨a1, b1⟩, ho⟩ := hb
  have hel := h.el
  have ha := h.all hl (x := a) (by omega) (by omega)
  have hb := h.all hl (x := b) (by omega) (by omega)
  unfold ordB at ho
  simp only [Bool.or_eq_true, Bool.and_eq_true, decide_eq_true_eq, beq_iff_eq] at ho
  rcases ho with ⟨h1, h2⟩ | ⟨h1, h2⟩
  · refine h.ord a b ha hb ?_ h2
    rw [← (h.ops a (by omega)).1, ← (h.ops b (by omega)).1]; exact h1
  · rw [h.fo] at h1 h2
    exact idx_filter_lt h1 h2
theorem Ex.flow (h : Ex P D nx g) (hl : D.length = (evs P).length) {a b : Nat} (hf : flowR g a b = true) : idx D a < idx D b := by
  unfold flowR at hf
  rw [Bool.or_eq_true] at hf
  rcases hf with hf | hf
  · exact h.bef hl hf
  · simp only [Bool.and_eq_true, decide_eq_true_eq] at hf
    obtain ⟨⟨a1, b1⟩, he⟩ := hf
    have hel := h.el
    rw [h.fr b (by omega) (by omega)] at he
    split at he
    · rename_i hc
      rcases lastW_in (e := evs P) (D := D.take (idx D b).toNat) (x := xx (evs P) b) with h1 | ⟨h1, h2⟩
      · rw [h1] at he; omega
      · rw [he] at h1
        have := take_before h1
        have := idx_in hc.1
        omega
    · omega
theorem Ex.allowed (hv : validT P = true) (h : Ex P D nx g) (hl : D.length = (evs P).length) : AllowedS g := by
  have hel := h.el
  have hok : ∀ a : Int, 0 ≤ a → a < g.1.length → okOp (opN g a) = true := fun a a0 a1 => by
    unfold opN
    rw [(h.ops a a0).2]
    exact (valid_iff.1 hv).2 _ (rd_memG ev0 (evs P) a a0 (by omega))
  have hX : ∀ a : Int, 0 ≤ a → a < g.1.length → 0 ≤ xx g.1 a ∧ xx g.1 a < 3 := fun a a0 a1 => by
    have := hok a a0 a1
    unfold okOp at this
    rw [decide_eq_true_eq] at this
    have h1 : 0 ≤ xx g.1 a := this.1
    have h2 : xx g.1 a ≤ 2 := this.2.1
    omega
  have h00 : ∀ x : Int, x ∈ D → 0 ≤ x := fun x hx => (h.inr x hx).1
  have hxx : ∀ a : Int, 0 ≤ a → xx g.1 a = xx (evs P) a := fun a a0 => xx_of (h.ops a a0).2
  have hopn : ∀ a : Int, 0 ≤ a → opN g a = eop (rd ev0 (evs P) a) := fun a a0 => (h.ops a a0).2
  -- how many writes to its place are ahead of an event
  have hw : ∀ a : Int, 0 ≤ a → a < g.1.length → wr (opN g a) = true → wpl g a = ((D.take (idx D a).toNat).filter (isW (evs P) (xx g.1 a))).length := fun a a0 a1 hwr => by
    unfold wpl
    rw [h.mo _ (hX a a0 a1).1 (hX a a0 a1).2]
    refine idx_filter (h.all hl a0 (by omega)) ?_
    unfold isW
    rw [← hopn a a0, hwr, hxx a a0, decide_eq_true rfl]; rfl
  have hr : ∀ a : Int, 0 ≤ a → a < g.1.length → rdd (opN g a) = true → rpl g a = (((D.take (idx D a).toNat).filter (isW (evs P) (xx g.1 a))).length : Int) - 1 := fun a a0 a1 hrd => by
    unfold rpl
    rw [h.mo _ (hX a a0 a1).1 (hX a a0 a1).2, h.fr a a0 (by omega), if_pos ⟨h.all hl a0 (by omega), by rw [← hopn a a0]; exact hrd⟩, hxx a a0]
    exact idx_last h.nd h00 _
  refine allowed_all.2 ⟨fun a ha => ?_, fun a a0 a1 h3 => ?_, fun a a0 a1 b b0 b1 hab hk => ?_⟩
  · cases hc : fw (flowR g) g.1.length a a with
    | false => rfl
    | true =>
      exfalso
      have := no_circle (fun x => idx D x) (fun x y hxy => h.flow hl hxy) (fw_sound _ _ _ hc)
      omega
  · have hop3 : (opN g a).1 = 3 := h3
    have h1 : wr (opN g a) = true := by unfold wr; rw [hop3]; rfl
    have h2 : rdd (opN g a) = true := by unfold rdd; rw [hop3]; rfl
    rw [hw a a0 a1 h1, hr a a0 a1 h2]
  · obtain ⟨k1, k2, hxe⟩ := hk
    have hlt := no_circle (fun x => idx D x) (fun x y hxy => h.bef hl hxy) (fw_sound _ _ _ hab)
    simp only [show ((a.toNat : Nat) : Int) = a by omega, show ((b.toNat : Nat) : Int) = b by omega] at hlt
    have ha := h.all hl (x := a) a0 (by omega)
    have hb := h.all hl (x := b) b0 (by omega)
    have ia := idx_in ha
    have ib := idx_in hb
    have hcl := cnt_le (p := isW (evs P) (xx g.1 a)) (D := D) (show (idx D a).toNat + 1 ≤ (idx D b).toNat by omega)
    have hcl2 := cnt_le (p := isW (evs P) (xx g.1 a)) (D := D) (show (idx D a).toNat ≤ (idx D a).toNat + 1 by omega)
    have hcn : wr (opN g a) = true → ((D.take ((idx D a).toNat + 1)).filter (isW (evs P) (xx g.1 a))).length = ((D.take (idx D a).toNat).filter (isW (evs P) (xx g.1 a))).length + 1 := fun hwr => by
      refine cnt_next ha ?_
      unfold isW
      rw [← hopn a a0, hwr, hxx a a0, decide_eq_true rfl]; rfl
    have hka := kindrw (g := g) (a := a) (by
      have := hok a a0 a1
      unfold okOp at this
      rw [decide_eq_true_eq] at this
      exact ⟨this.2.2.2.2.1, this.2.2.2.2.2.1⟩) k1
    have hlow : (if wr (opN g a) = true then wpl g a else rpl g a) ≤ (((D.take ((idx D a).toNat + 1)).filter (isW (evs P) (xx g.1 a))).length : Int) - 1 := by
      split
      · rename_i hwr
        rw [hw a a0 a1 hwr, hcn hwr]
        omega
      · rename_i hwr
        have hrd := hka.resolve_right hwr
        rw [hr a a0 a1 hrd]
        omega
    unfold cohA
    rw [Bool.and_eq_true]
    refine ⟨?_, ?_⟩
    · cases hrb : rdd (opN g b) with
      | false => rfl
      | true =>
        have := hr b b0 b1 hrb
        rw [← hxe] at this
        rw [decide_eq_false (by omega)]; rfl
    · cases hwb : wr (opN g b) with
      | false => rfl
      | true =>
        have := hw b b0 b1 hwb
        rw [← hxe] at this
        rw [decide_eq_false (by omega)]; rfl
end
theorem il_allowed {P : List (List Op)} {b : List Int} (hv : validT P = true) (hb : isB b) : rightG P (ilF P b) = true ∧ allowedG P (ilF P b) = true ∧ smallG (ilF P b) := by
  obtain ⟨D, hD, h⟩ := ilS_ex hv hb (evs P).length (Nat.le_refl _)
  have hr : rightG P (ilF P b) = true := h.right hv hD
  have ha : AllowedS (ilF P b) := h.allowed hv hD
  refine ⟨hr, by unfold allowedG; rw [hr, decide_eq_true ha]; rfl, ?_⟩
  have hn := (valid_iff.1 hv).1.2.2.2
  have e1 : (ilF P b).1.length = _ := h.el
  have e2 : (ilF P b).2.1.length = _ := h.frl
  have e3 : (ilF P b).2.2.1.length = _ := h.mol
  have e4 : (ilF P b).2.2.2 = _ := h.fo
  refine ⟨by omega, by omega, by omega, fun l hl => ?_, ?_⟩
  · obtain ⟨i, i0, i1, rfl⟩ := mem_rd (d := []) hl
    have : rd [] (ilF P b).2.2.1 i = _ := h.mo i i0 (by omega)
    rw [this]
    have := List.length_filter_le (isW (evs P) i) D
    omega
  · rw [e4]
    have := List.length_filter_le (fun a => kk (evs P) a == 4) D
    omega
end L31

/- For the laws: what a graph that bytes say is handed on with; what allowed gives. -/
open Go Go.V
namespace L31
theorem graph_small {P : List (List Op)} {b : List Int} (hv : validT P = true) (hb : isB b) : smallG (graphF P b) := by
  obtain ⟨⟨_, _, _, n6⟩, _⟩ := valid_iff.1 hv
  have e1 : (graphF P b).1.length = (evs P).length := vlR_len 8
  have e2 : (graphF P b).2.1.length = (evs P).length := frF_len _
  have e3 : (graphF P b).2.2.1.length = 3 := moF_len 3
  have e4 : (graphF P b).2.2.2.length = (fns (evs P)).length := (shuf_perm _ _ _ _ hb rfl).length_eq
  have e5 : (fns (evs P)).length ≤ (evs P).length := want_len
  exact ⟨by omega, by omega, by omega, graph_mo hv hb, by omega⟩
theorem graph_pre {P : List (List Op)} {b : List Int} (hv : validT P = true) (hb : isB b) : smallP P ∧ (evs P).length ≤ 100 ∧ (∀ e ∈ evs P, okOp (eop e) = true) ∧ isB b :=
  ⟨valid_small hv, by have := (valid_iff.1 hv).1; omega, (valid_iff.1 hv).2, hb⟩
theorem allowed_iff {P : List (List Op)} {g : Gr} : allowedG P g = true ↔ rightG P g = true ∧ AllowedS g := by
  unfold allowedG
  rw [Bool.and_eq_true, decide_eq_true_eq]
theorem coh_out {g : Gr} {i k : Int} (h : cohA g i k = true) : (wr (opN g k) = true → (if wr (opN g i) = true then wpl g i else rpl g i) < wpl g k) ∧ (rdd (opN g k) = true → (if wr (opN g i) = true then wpl g i else rpl g i) ≤ rpl g k) := by
  unfold cohA at h
  rw [Bool.and_eq_true] at h
  refine ⟨fun hw => ?_, fun hr => ?_⟩
  · have := h.2
    rw [hw, Bool.true_and, Bool.not_eq_true', decide_eq_false_iff_not] at this
    omega
  · have := h.1
    rw [hr, Bool.true_and, Bool.not_eq_true', decide_eq_false_iff_not] at this
    omega
/-- Two events of a core on a place are coherent in a graph that is allowed. -/
theorem coh_core {g : Gr} (hA : AllowedS g) {i k : Int} (i0 : 0 ≤ i) (k1 : k < g.1.length) (h : i < k) (hc : (rd ev0 g.1 i).1 = (rd ev0 g.1 k).1) (hx : xx g.1 i = xx g.1 k) (hi : kk g.1 i ≠ 4) (hk : kk g.1 k ≠ 4) : cohA g i k = true := by
  refine (allowed_all.1 hA).2.2 i i0 (by omega) k (by omega) k1 (fw_base _ _ _ ?_) ⟨hi, hk, hx⟩
  unfold befR ordB
  rw [decide_eq_true (by omega), decide_eq_true (by omega), show ((i.toNat : Nat) : Int) = i by omega, show ((k.toNat : Nat) : Int) = k by omega, beq_iff_eq.2 hc, decide_eq_true h]
  rfl
theorem wr_iff {o : Op} : wr o = true ↔ o.1 = 2 ∨ o.1 = 3 := by
  unfold wr; rw [Bool.or_eq_true, beq_iff_eq, beq_iff_eq]
theorem rdd_iff {o : Op} : rdd o = true ↔ o.1 = 1 ∨ o.1 = 3 := by
  unfold rdd; rw [Bool.or_eq_true, beq_iff_eq, beq_iff_eq]
theorem opN_1 {g : Gr} {i : Int} : (opN g i).1 = kk g.1 i := rfl
theorem wpl_b {g : Gr} {a : Int} (h : (rd [] g.2.2.1 (xx g.1 a)).length ≤ 1000) : -1 ≤ wpl g a ∧ wpl g a ≤ 1000 := by
  have h1 := idx_ge (l := rd [] g.2.2.1 (xx g.1 a)) (n := a)
  refine ⟨h1, ?_⟩
  rcases Int.lt_or_le (wpl g a) 0 with h3 | h3
  · omega
  · have := (idx_spec (l := rd [] g.2.2.1 (xx g.1 a)) (n := a) h3).1
    unfold wpl; omega
end L31

open Go Go.V
namespace L31
set_option linter.unusedVariables false
set_option linter.unusedSimpArgs false

def S5 : FSpec := { args := [.cell lU, .cell lU], pre := fun a _ => (fun (x b : List Int) => x.length ≤ 140737488351232 ∧ isB x ∧ isB b) a.1 a.2.1, res := fun _ _ => .c (.c (.bool true)) }
def A5 : Ans := { op := fun r i => (bif Nat.beq r 1 && Nat.beq i 0 then {con := some S10} else (bif Nat.beq r 4 && Nat.beq i 1 then {con := some S11, fz := true} else (bif Nat.beq r 5 && Nat.beq i 2 then {con := some S12, fz := true} else (bif Nat.beq r 6 && Nat.beq i 2 then {con := some S18} else (bif Nat.beq r 18 && Nat.beq i 6 then {con := some S22} else (bif Nat.beq r 20 && Nat.beq i 2 then {con := some S22} else (bif Nat.beq r 21 && Nat.beq i 6 then {con := some S22} else (bif Nat.beq r 23 && Nat.beq i 2 then {con := some S22} else {})))))))), rj := fun b => (bif Nat.beq b 16 then [.sbool 79] else []) }
-- VC

theorem f5_vc : ∀ (x b : List Int), (x.length ≤ 140737488351232 ∧ isB x ∧ isB b) → (SoundF Proofs.Try.prog (10 : Nat) S10 ∧ True) ∧ (SoundF Proofs.Try.prog (11 : Nat) S11 ∧ x.length ≤ (140737488351232 : Nat) ∧ ∀ (x_1 : Int), List.Mem x_1 x → (0 :
  Int) ≤ x_1 ∧ x_1 ≤ (255 : Int)) ∧ (SoundF Proofs.Try.prog (12 : Nat) S12 ∧ ((madeF x).length ≤ (1000 : Nat) ∧ ∀ (l : List (Int × Int × Int)), List.Mem l (madeF x) → l.length ≤ (1000 : Nat)) ∧ (evs (madeF x)).length ≤ (100 : Nat) ∧
  (∀ (e : Int × Int × Int × Int × Int), List.Mem e (evs (madeF x)) → okOp (eop e) = true) ∧ ∀ (x : Int), List.Mem x b → (0 : Int) ≤ x ∧ x ≤ (255 : Int)) ∧ (SoundF Proofs.Try.prog (18 : Nat) S18 ∧ ((madeF x).length ≤ (1000 : Nat) ∧ ∀
  (l : List (Int × Int × Int)), List.Mem l (madeF x) → l.length ≤ (1000 : Nat)) ∧ (graphF (madeF x) b).fst.length ≤ (1000 : Nat) ∧ (graphF (madeF x) b).snd.fst.length ≤ (1000 : Nat) ∧ (3 : Nat) ≤ (1000 : Nat) ∧ (∀ (l : List Int),
  List.Mem l (graphF (madeF x) b).snd.snd.fst → l.length ≤ (1000 : Nat)) ∧ (graphF (madeF x) b).snd.snd.snd.length ≤ (1000 : Nat)) ∧ bif !allowedG (madeF x) ((graphF (madeF x) b).fst, (graphF (madeF x) b).snd.fst, (graphF (madeF x)
  b).snd.snd.fst, (graphF (madeF x) b).snd.snd.snd) then true = true else ∃ (I : Bool × Int → Prop), ∃ (μ : Bool × Int → Nat), I (false, (0 : Int)) ∧ ∀ (g : Bool × Int), I g → bif decide (g.snd < (↑(graphF (madeF x) b).fst.length :
  Int)) then ((-9223372036854775808 : Int) ≤ g.snd + (1 : Int) ∧ g.snd + (1 : Int) ≤ (9223372036854775807 : Int)) ∧ ∃ (I_1 : Bool × Int → Prop), ∃ (μ_1 : Bool × Int → Nat), I_1 (g.fst, g.snd + (1 : Int)) ∧ ∀ (g_1 : Bool × Int), I_1
  g_1 → bif decide (g_1.snd < (↑(graphF (madeF x) b).fst.length : Int)) then ((0 : Int) ≤ g.snd ∧ g.snd < (↑(graphF (madeF x) b).fst.length : Int)) ∧ ((0 : Int) ≤ g_1.snd ∧ g_1.snd < (↑(graphF (madeF x) b).fst.length : Int)) ∧ ∃ (J :
  Bool → Prop), (bif (rd ((0 : Int), (0 : Int), (0 : Int), (0 : Int), (0 : Int)) (graphF (madeF x) b).fst g.snd).fst != (rd ((0 : Int), (0 : Int), (0 : Int), (0 : Int), (0 : Int)) (graphF (madeF x) b).fst g_1.snd).fst then True ∧
  True ∧ True ∧ J true else bif (rd ((0 : Int), (0 : Int), (0 : Int), (0 : Int), (0 : Int)) (graphF (madeF x) b).fst g.snd).snd.snd.fst != (rd ((0 : Int), (0 : Int), (0 : Int), (0 : Int), (0 : Int)) (graphF (madeF x) b).fst
  g_1.snd).snd.snd.fst then True ∧ True ∧ J true else bif (rd ((0 : Int), (0 : Int), (0 : Int), (0 : Int), (0 : Int)) (graphF (madeF x) b).fst g.snd).snd.fst == (4 : Int) then True ∧ J true else J ((rd ((0 : Int), (0 : Int), (0 :
  Int), (0 : Int), (0 : Int)) (graphF (madeF x) b).fst g_1.snd).snd.fst == (4 : Int))) ∧ ∀ (g_2 : Bool), J g_2 → bif g_2 then ((-9223372036854775808 : Int) ≤ g_1.snd + (1 : Int) ∧ g_1.snd + (1 : Int) ≤ (9223372036854775807 : Int)) ∧
  I_1 (g_1.fst, g_1.snd + (1 : Int)) ∧ μ_1 (g_1.fst, g_1.snd + (1 : Int)) < μ_1 g_1 else ((0 : Int) ≤ (rd ((0 : Int), (0 : Int), (0 : Int), (0 : Int), (0 : Int)) (graphF (madeF x) b).fst g.snd).snd.snd.fst ∧ (rd ((0 : Int), (0 :
  Int), (0 : Int), (0 : Int), (0 : Int)) (graphF (madeF x) b).fst g.snd).snd.snd.fst < (↑(3 : Nat) : Int)) ∧ ((0 : Int) ≤ g.snd ∧ g.snd < (↑(graphF (madeF x) b).snd.fst.length : Int)) ∧ (SoundF Proofs.Try.prog (22 : Nat) S22 ∧ (rd []
  (graphF (madeF x) b).snd.snd.fst (rd ((0 : Int), (0 : Int), (0 : Int), (0 : Int), (0 : Int)) (graphF (madeF x) b).fst g.snd).snd.snd.fst).length ≤ (1000 : Nat)) ∧ bif (rd ((0 : Int), (0 : Int), (0 : Int), (0 : Int), (0 : Int))
  (graphF (madeF x) b).fst g.snd).snd.fst != (1 : Int) then (SoundF Proofs.Try.prog (22 : Nat) S22 ∧ (rd [] (graphF (madeF x) b).snd.snd.fst (rd ((0 : Int), (0 : Int), (0 : Int), (0 : Int), (0 : Int)) (graphF (madeF x) b).fst
  g.snd).snd.snd.fst).length ≤ (1000 : Nat)) ∧ ((0 : Int) ≤ g_1.snd ∧ g_1.snd < (↑(graphF (madeF x) b).snd.fst.length : Int)) ∧ (SoundF Proofs.Try.prog (22 : Nat) S22 ∧ (rd [] (graphF (madeF x) b).snd.snd.fst (rd ((0 : Int), (0 :
  Int), (0 : Int), (0 : Int), (0 : Int)) (graphF (madeF x) b).fst g.snd).snd.snd.fst).length ≤ (1000 : Nat)) ∧ bif (rd ((0 : Int), (0 : Int), (0 : Int), (0 : Int), (0 : Int)) (graphF (madeF x) b).fst g_1.snd).snd.fst == (2 : Int)
  then (SoundF Proofs.Try.prog (22 : Nat) S22 ∧ (rd [] (graphF (madeF x) b).snd.snd.fst (rd ((0 : Int), (0 : Int), (0 : Int), (0 : Int), (0 : Int)) (graphF (madeF x) b).fst g.snd).snd.snd.fst).length ≤ (1000 : Nat)) ∧
  ((-9223372036854775808 : Int) ≤ idx (rd [] (graphF (madeF x) b).snd.snd.fst (rd ((0 : Int), (0 : Int), (0 : Int), (0 : Int), (0 : Int)) (graphF (madeF x) b).fst g.snd).snd.snd.fst) g_1.snd - (1 : Int) ∧ idx (rd [] (graphF (madeF x)
  b).snd.snd.fst (rd ((0 : Int), (0 : Int), (0 : Int), (0 : Int), (0 : Int)) (graphF (madeF x) b).fst g.snd).snd.snd.fst) g_1.snd - (1 : Int) ≤ (9223372036854775807 : Int)) ∧ bif decide (idx (rd [] (graphF (madeF x) b).snd.snd.fst
  (rd ((0 : Int), (0 : Int), (0 : Int), (0 : Int), (0 : Int)) (graphF (madeF x) b).fst g.snd).snd.snd.fst) g_1.snd - (1 : Int) < idx (rd [] (graphF (madeF x) b).snd.snd.fst (rd ((0 : Int), (0 : Int), (0 : Int), (0 : Int), (0 : Int))
  (graphF (madeF x) b).fst g.snd).snd.snd.fst) g.snd) then false = true else ((-9223372036854775808 : Int) ≤ g_1.snd + (1 : Int) ∧ g_1.snd + (1 : Int) ≤ (9223372036854775807 : Int)) ∧ I_1 (g_1.fst, g_1.snd + (1 : Int)) ∧ μ_1
  (g_1.fst, g_1.snd + (1 : Int)) < μ_1 g_1 else bif decide (idx (rd [] (graphF (madeF x) b).snd.snd.fst (rd ((0 : Int), (0 : Int), (0 : Int), (0 : Int), (0 : Int)) (graphF (madeF x) b).fst g.snd).snd.snd.fst) (rd (0 : Int) (graphF
  (madeF x) b).snd.fst g_1.snd) < idx (rd [] (graphF (madeF x) b).snd.snd.fst (rd ((0 : Int), (0 : Int), (0 : Int), (0 : Int), (0 : Int)) (graphF (madeF x) b).fst g.snd).snd.snd.fst) g.snd) then false = true else
  ((-9223372036854775808 : Int) ≤ g_1.snd + (1 : Int) ∧ g_1.snd + (1 : Int) ≤ (9223372036854775807 : Int)) ∧ I_1 (g_1.fst, g_1.snd + (1 : Int)) ∧ μ_1 (g_1.fst, g_1.snd + (1 : Int)) < μ_1 g_1 else ((0 : Int) ≤ g_1.snd ∧ g_1.snd <
  (↑(graphF (madeF x) b).snd.fst.length : Int)) ∧ (SoundF Proofs.Try.prog (22 : Nat) S22 ∧ (rd [] (graphF (madeF x) b).snd.snd.fst (rd ((0 : Int), (0 : Int), (0 : Int), (0 : Int), (0 : Int)) (graphF (madeF x) b).fst
  g.snd).snd.snd.fst).length ≤ (1000 : Nat)) ∧ bif (rd ((0 : Int), (0 : Int), (0 : Int), (0 : Int), (0 : Int)) (graphF (madeF x) b).fst g_1.snd).snd.fst == (2 : Int) then (SoundF Proofs.Try.prog (22 : Nat) S22 ∧ (rd [] (graphF (madeF
  x) b).snd.snd.fst (rd ((0 : Int), (0 : Int), (0 : Int), (0 : Int), (0 : Int)) (graphF (madeF x) b).fst g.snd).snd.snd.fst).length ≤ (1000 : Nat)) ∧ ((-9223372036854775808 : Int) ≤ idx (rd [] (graphF (madeF x) b).snd.snd.fst (rd ((0
  : Int), (0 : Int), (0 : Int), (0 : Int), (0 : Int)) (graphF (madeF x) b).fst g.snd).snd.snd.fst) g_1.snd - (1 : Int) ∧ idx (rd [] (graphF (madeF x) b).snd.snd.fst (rd ((0 : Int), (0 : Int), (0 : Int), (0 : Int), (0 : Int)) (graphF
  (madeF x) b).fst g.snd).snd.snd.fst) g_1.snd - (1 : Int) ≤ (9223372036854775807 : Int)) ∧ bif decide (idx (rd [] (graphF (madeF x) b).snd.snd.fst (rd ((0 : Int), (0 : Int), (0 : Int), (0 : Int), (0 : Int)) (graphF (madeF x) b).fst
  g.snd).snd.snd.fst) g_1.snd - (1 : Int) < idx (rd [] (graphF (madeF x) b).snd.snd.fst (rd ((0 : Int), (0 : Int), (0 : Int), (0 : Int), (0 : Int)) (graphF (madeF x) b).fst g.snd).snd.snd.fst) (rd (0 : Int) (graphF (madeF x)
  b).snd.fst g.snd)) then false = true else ((-9223372036854775808 : Int) ≤ g_1.snd + (1 : Int) ∧ g_1.snd + (1 : Int) ≤ (9223372036854775807 : Int)) ∧ I_1 (g_1.fst, g_1.snd + (1 : Int)) ∧ μ_1 (g_1.fst, g_1.snd + (1 : Int)) < μ_1 g_1
  else bif decide (idx (rd [] (graphF (madeF x) b).snd.snd.fst (rd ((0 : Int), (0 : Int), (0 : Int), (0 : Int), (0 : Int)) (graphF (madeF x) b).fst g.snd).snd.snd.fst) (rd (0 : Int) (graphF (madeF x) b).snd.fst g_1.snd) < idx (rd []
  (graphF (madeF x) b).snd.snd.fst (rd ((0 : Int), (0 : Int), (0 : Int), (0 : Int), (0 : Int)) (graphF (madeF x) b).fst g.snd).snd.snd.fst) (rd (0 : Int) (graphF (madeF x) b).snd.fst g.snd)) then false = true else
  ((-9223372036854775808 : Int) ≤ g_1.snd + (1 : Int) ∧ g_1.snd + (1 : Int) ≤ (9223372036854775807 : Int)) ∧ I_1 (g_1.fst, g_1.snd + (1 : Int)) ∧ μ_1 (g_1.fst, g_1.snd + (1 : Int)) < μ_1 g_1 else ((-9223372036854775808 : Int) ≤ g.snd
  + (1 : Int) ∧ g.snd + (1 : Int) ≤ (9223372036854775807 : Int)) ∧ I (g_1.fst, g.snd + (1 : Int)) ∧ μ (g_1.fst, g.snd + (1 : Int)) < μ g else true = true := by
  rintro x b ⟨hx, hx2, hb⟩
  have hv := made_valid hx2
  have hP := graph_pre hv hb
  have hs := graph_small hv hb
  simp only [gr_eta]
  refine ⟨⟨f10_sound, trivial⟩, ⟨f11_sound, hx, hx2⟩, ⟨f12_sound, hP⟩, ⟨f18_sound, hP.1, hs⟩, condI (fun _ => trivial) (fun h => ?_)⟩
  rw [Bool.not_eq_false'] at h
  generalize hg : graphF (madeF x) b = g at h hs ⊢
  obtain ⟨hR, hA⟩ := allowed_iff.1 h
  have F := right_facts hR
  have h6 := F.le6
  have hfr := F.fr
  refine ⟨fun t => 0 ≤ t.2 ∧ t.2 ≤ g.1.length, fun t => (g.1.length - t.2).toNat, ⟨by simp, by simp⟩, ?_⟩
  rintro ⟨u, i⟩ ⟨i0, i1⟩
  dsimp only at i0 i1 ⊢
  refine condI (fun h2 => ?_) (fun _ => trivial)
  have h2 := of_decide_eq_true h2
  refine ⟨by omega, fun t => i < t.2 ∧ t.2 ≤ g.1.length, fun t => (g.1.length - t.2).toNat, ⟨by dsimp only; omega, by dsimp only; omega⟩, ?_⟩
  rintro ⟨u2, k⟩ ⟨k0, k1⟩
  dsimp only at k0 k1 ⊢
  refine condI (fun h3 => ?_) (fun h3 => ?_)
  · have h3 := of_decide_eq_true h3
    refine ⟨by omega, by omega, fun q => q = false → (rd ev0 g.1 i).1 = (rd ev0 g.1 k).1 ∧ xx g.1 i = xx g.1 k ∧ kk g.1 i ≠ 4 ∧ kk g.1 k ≠ 4, ?_, ?_⟩
    · refine condI (fun j1 => ⟨trivial, trivial, trivial, nofun⟩) (fun j1 => condI (fun j2 => ⟨trivial, trivial, nofun⟩) (fun j2 => condI (fun j3 => ⟨trivial, nofun⟩) (fun j3 j4 => ?_)))
      exact ⟨bne_eq_false_iff_eq.1 j1, bne_eq_false_iff_eq.1 j2, beq_eq_false_iff_ne.1 j3, beq_eq_false_iff_ne.1 j4⟩
    intro q hq
    refine condI (fun j => ⟨by omega, ⟨by omega, by omega⟩, by omega⟩) (fun j => ?_)
    obtain ⟨c1, c2, c3, c4⟩ := hq j
    have hcoh := coh_out (coh_core hA i0 h3 k0 c1 c2 c3 c4)
    have hNi := F.okN hs i0 h2
    have hNk := F.okN hs (a := k) (by omega) h3
    have hki := F.kind i0 h2
    have hkk := F.kind (a := k) (by omega) h3
    have hbi := wpl_b hNi.2.2.2.2.2
    have hbk := wpl_b hNk.2.2.2.2.2
    have hX : (rd ((0 : Int), (0 : Int), (0 : Int), (0 : Int), (0 : Int)) g.1 i).2.2.1 = xx g.1 i := rfl
    have hKi : (rd ((0 : Int), (0 : Int), (0 : Int), (0 : Int), (0 : Int)) g.1 i).2.1 = kk g.1 i := rfl
    have hKk : (rd ((0 : Int), (0 : Int), (0 : Int), (0 : Int), (0 : Int)) g.1 k).2.1 = kk g.1 k := rfl
    have e1 : idx (rd [] g.2.2.1 (xx g.1 i)) i = wpl g i := rfl
    have e2 : idx (rd [] g.2.2.1 (xx g.1 i)) k = wpl g k := by unfold wpl; rw [c2]
    have e3 : idx (rd [] g.2.2.1 (xx g.1 i)) (rd 0 g.2.1 i) = rpl g i := rfl
    have e4 : idx (rd [] g.2.2.1 (xx g.1 i)) (rd 0 g.2.1 k) = rpl g k := by unfold rpl; rw [c2]
    have hl := hNi.2.2.2.2.2
    have hm : ((3 : Nat) : Int) = g.2.2.1.length := by have := F.mo; omega
    simp only [hX, hKi, hKk, e1, e2, e3, e4]
    have w1 := wr_iff (o := opN g k)
    have w2 := rdd_iff (o := opN g k)
    have w3 := wr_iff (o := opN g i)
    rw [opN_1] at w1 w2 w3
    have stay : 0 ≤ (0 : Int) ∧ (i < k + 1 ∧ k + 1 ≤ g.1.length) := by omega
    refine ⟨⟨hNi.2.2.2.1, by have := hNi.2.2.2.2.1; have := F.mo; omega⟩, by omega, ⟨f22_sound, hl⟩, condI (fun j1 => ⟨⟨f22_sound, hl⟩, by omega, ⟨f22_sound, hl⟩, condI (fun j2 => ⟨⟨f22_sound, hl⟩, by omega, condI (fun j3 => ?_) (fun j3 => ⟨by omega, stay.2, by omega⟩)⟩) (fun j2 => condI (fun j3 => ?_) (fun j3 => ⟨by omega, stay.2, by omega⟩))⟩) (fun j1 => ⟨by omega, ⟨f22_sound, hl⟩, condI (fun j2 => ⟨⟨f22_sound, hl⟩, by omega, condI (fun j3 => ?_) (fun j3 => ⟨by omega, stay.2, by omega⟩)⟩) (fun j2 => condI (fun j3 => ?_) (fun j3 => ⟨by omega, stay.2, by omega⟩))⟩)⟩
    · have j1 := bne_iff_ne.1 j1
      have j2 := eq_of_beq j2
      have j3 := of_decide_eq_true j3
      have := hcoh.1 (w1.2 (.inl j2))
      rw [if_pos (w3.2 (by omega))] at this
      omega
    · have j1 := bne_iff_ne.1 j1
      have j2 := beq_eq_false_iff_ne.1 j2
      have j3 := of_decide_eq_true j3
      have := hcoh.2 (w2.2 (by omega))
      rw [if_pos (w3.2 (by omega))] at this
      omega
    · have j1 := bne_eq_false_iff_eq.1 j1
      have j2 := eq_of_beq j2
      have j3 := of_decide_eq_true j3
      have := hcoh.1 (w1.2 (.inl j2))
      rw [if_neg (fun h => by have := w3.1 h; omega)] at this
      omega
    · have j1 := bne_eq_false_iff_eq.1 j1
      have j2 := beq_eq_false_iff_ne.1 j2
      have j3 := of_decide_eq_true j3
      have := hcoh.2 (w2.2 (by omega))
      rw [if_neg (fun h => by have := w3.1 h; omega)] at this
      omega
  · have h3 := of_decide_eq_false h3
    exact ⟨by omega, ⟨by omega, by omega⟩, by omega⟩
theorem f5_fun : FunOk Go.Proofs.Try.prog A5 Go.Proofs.Try.f5 S5 := ⟨by
  intro a b h
  have h1 := f5_vc (a.1) (a.2.1) h
  apply eqmp h1
  kernel_rfl⟩
theorem f5_sound : SoundF Go.Proofs.Try.prog 5 S5 := sound_of f5_fun (by kernel_rfl) (by kernel_rfl) (by kernel_rfl)
end L31

