/- What functions compute, each proved of its own code by that logic: the conditions stand in the specifications. -/
import Derived.Test.YtoojdjlancondaaLA
import Derived.KernelRfl
set_option linter.unusedVariables false
set_option linter.unusedSimpArgs false
set_option linter.unusedSectionVars false
set_option linter.all false
/- One operation after the other: the graph is right and allowed. -/
open Go Go.V
namespace L31
/-- Where an element that is kept stands among the kept ones. -/
theorem idx_filter {p : Int → Bool} : ∀ {D : List Int} {a : Int}, a ∈ D → p a = true → idx (D.filter p) a = ((D.take (idx D a).toNat).filter p).length
  | [], _, h, _ => by cases h
  | x :: D, a, h, hp => by
    by_cases hx : x = a
    · subst hx
      have : idx (x :: D) x = 0 := by simp [idx]
      rw [this, List.filter_cons_of_pos hp]
      simp [idx]
    · have ha : a ∈ D := by
        rcases List.mem_cons.1 h with h | h
        · exact absurd h.symm hx
        · exact h
      have h0 := idx_in ha
      have ih := idx_filter (p := p) ha hp
      have hi : idx (x :: D) a = idx D a + 1 := by simp only [idx, if_neg hx]; rw [if_neg (by omega)]
      rw [hi, show (idx D a + 1).toNat = (idx D a).toNat + 1 by omega, List.take_succ_cons]
      by_cases hpx : p x = true
      · rw [List.filter_cons_of_pos hpx, List.filter_cons_of_pos hpx, List.length_cons]
        simp only [idx, if_neg hx]
        have hf : a ∈ D.filter p := List.mem_filter.2 ⟨ha, hp⟩
        have := idx_in hf
        rw [if_neg (by omega), ih]
        omega
      · rw [List.filter_cons_of_neg hpx, List.filter_cons_of_neg hpx, ih]
theorem idx_last {p : Int → Bool} {D : List Int} (hn : D.Nodup) (h0 : ∀ x : Int, x ∈ D → 0 ≤ x) (k : Nat) : idx (D.filter p) (lastOf ((D.take k).filter p)) = (((D.take k).filter p).length : Int) - 1 := by
  have hs : D.filter p = (D.take k).filter p ++ (D.drop k).filter p := by rw [← List.filter_append, List.take_append_drop]
  have hnf : (D.filter p).Nodup := List.Pairwise.filter _ hn
  by_cases hl : ((D.take k).filter p).length = 0
  · unfold lastOf
    rw [if_pos hl, hl]
    have : idx (D.filter p) (-1) < 0 := idx_mem.2 fun hm => by have := h0 _ (List.mem_filter.1 hm).1; omega
    have := idx_ge (l := D.filter p) (n := -1)
    omega
  · unfold lastOf
    rw [if_neg hl]
    have e : rd 0 ((D.take k).filter p) (((D.take k).filter p).length - 1) = rd 0 (D.filter p) (((D.take k).filter p).length - 1) := by
      rw [hs, rd_app_left (by omega) (by omega)]
    rw [e]
    refine idx_rd hnf (by omega) ?_
    rw [hs, List.length_append]
    omega
/-- Kept elements keep their order. -/
theorem idx_filter_lt {p : Int → Bool} {D : List Int} {a b : Int} (h0 : 0 ≤ idx (D.filter p) a) (h : idx (D.filter p) a < idx (D.filter p) b) : idx D a < idx D b := by
  have ha : a ∈ D.filter p := Classical.not_not.1 fun hn => by have := idx_mem.2 hn; omega
  have hb : b ∈ D.filter p := Classical.not_not.1 fun hn => by have := idx_mem.2 hn; omega
  obtain ⟨a1, a2⟩ := List.mem_filter.1 ha
  obtain ⟨b1, b2⟩ := List.mem_filter.1 hb
  rw [idx_filter a1 a2, idx_filter b1 b2] at h
  rcases Int.lt_or_le (idx D a) (idx D b) with h1 | h1
  · exact h1
  · exfalso
    have : ((D.take (idx D b).toNat).filter p).length ≤ ((D.take (idx D a).toNat).filter p).length := by
      have hsub : List.Sublist (D.take (idx D b).toNat) (D.take (idx D a).toNat) := by
        rw [show D.take (idx D b).toNat = (D.take (idx D a).toNat).take (idx D b).toNat by rw [List.take_take, Nat.min_eq_left (by omega)]]
        exact List.take_sublist _ _
      exact (hsub.filter p).length_le
    omega
theorem cnt_le {p : Int → Bool} {D : List Int} {j k : Nat} (h : j ≤ k) : ((D.take j).filter p).length ≤ ((D.take k).filter p).length := by
  have hsub : List.Sublist (D.take j) (D.take k) := by
    rw [show D.take j = (D.take k).take j by rw [List.take_take, Nat.min_eq_left h]]
    exact List.take_sublist _ _
  exact (hsub.filter p).length_le
theorem cnt_next {p : Int → Bool} {D : List Int} {a : Int} (ha : a ∈ D) (hp : p a = true) : ((D.take ((idx D a).toNat + 1)).filter p).length = ((D.take (idx D a).toNat).filter p).length + 1 := by
  obtain ⟨h0, h1⟩ := idx_in ha
  have hr := (idx_spec h0).2
  have := take_succ_rd 0 D (idx D a) h0 h1
  rw [hr, show (idx D a + 1).toNat = (idx D a).toNat + 1 by omega] at this
  rw [this, List.filter_append]
  simp [hp]
theorem take_before {D : List Int} {a : Int} {k : Nat} (h : a ∈ D.take k) : idx D a < k := by
  have : idx D a = idx (D.take k) a := by
    conv => lhs; rw [← List.take_append_drop k D]
    exact idx_app_in h
  rw [this]
  have := (idx_in h).2
  rw [List.length_take] at this
  omega
section
variable {P : List (List Op)} {D nx : List Int} {g : Gr}
theorem Ex.all (h : Ex P D nx g) (hl : D.length = (evs P).length) {x : Int} (x0 : 0 ≤ x) (x1 : x < (evs P).length) : x ∈ D := by
  have hp := perm_of_sub (w := D) (l := (List.range (evs P).length).map Int.ofNat) h.nd (by simp; omega) fun y hy => by
    obtain ⟨h0, h1⟩ := h.inr y hy
    simp only [List.mem_map, List.mem_range]
    exact ⟨y.toNat, by omega, by show ((y.toNat : Nat) : Int) = y; omega⟩
  rw [← hp.mem_iff]
  simp only [List.mem_map, List.mem_range]
  exact ⟨x.toNat, by omega, by show ((x.toNat : Nat) : Int) = x; omega⟩
theorem Ex.right (hv : validT P = true) (h : Ex P D nx g) (hl : D.length = (evs P).length) : rightG P g = true := by
  refine right_iff.2 ⟨hv, right_all.2 ⟨h.el, h.frl, h.mol, fun n n0 n1 => ⟨(h.ops n n0).1, (h.ops n n0).2, ?_⟩, fun n n0 n1 => ?_, fun p p0 p1 => ?_, ?_⟩⟩
  · unfold src
    rw [decide_eq_true_eq, h.fr n n0 n1]
    split
    · rename_i hc
      rcases lastW_in (e := evs P) (D := D.take (idx D n).toNat) (x := xx (evs P) n) with h1 | ⟨h1, h2⟩
      · exact .inl h1
      · obtain ⟨q0, q1⟩ := h.inr _ (List.mem_of_mem_take h1)
        unfold isW at h2
        rw [Bool.and_eq_true, decide_eq_true_eq] at h2
        exact .inr ⟨hc.2, q0, q1, h2.1, h2.2⟩
    · exact .inl rfl
  · unfold RB
    rw [h.vl n n0 n1]
    by_cases hr : rdd (eop (rd ev0 (evs P) n)) = true
    · rw [if_pos ⟨h.all hl n0 n1, hr⟩, if_pos hr]
    · rw [if_neg (fun hc => hr hc.2), if_neg hr]
  · unfold RM
    rw [h.mo p p0 p1, isPerm_want]
    refine ⟨List.Pairwise.filter _ h.nd, fun x => ?_⟩
    rw [List.mem_filter]
    constructor
    · rintro ⟨h1, h2⟩
      obtain ⟨q0, q1⟩ := h.inr x h1
      unfold isW at h2
      rw [Bool.and_eq_true, decide_eq_true_eq] at h2
      refine ⟨q0, q1, ?_⟩
      rw [Bool.and_eq_true, beq_iff_eq]
      exact h2
    · rintro ⟨q0, q1, h2⟩
      rw [Bool.and_eq_true, beq_iff_eq] at h2
      refine ⟨h.all hl q0 q1, ?_⟩
      unfold isW
      rw [Bool.and_eq_true, decide_eq_true_eq]
      exact h2
  · rw [h.fo, isPerm_want]
    refine ⟨List.Pairwise.filter _ h.nd, fun x => ?_⟩
    rw [List.mem_filter]
    exact ⟨fun ⟨h1, h2⟩ => ⟨(h.inr x h1).1, (h.inr x h1).2, h2⟩, fun ⟨q0, q1, h2⟩ => ⟨h.all hl q0 q1, h2⟩⟩
theorem Ex.bef (h : Ex P D nx g) (hl : D.length = (evs P).length) {a b : Nat} (hb : befR g a b = true) : idx D a < idx D b := by
  unfold befR at hb
  simp only [Bool.and_eq_true, decide_eq_true_eq] at hb
  obtain ⟨⟨a1, b1⟩, ho⟩ := hb
  have hel := h.el
  have ha := h.all hl (x := a) (by omega) (by omega)
  have hb := h.all hl (x := b) (by omega) (by omega)
  unfold ordB at ho
  simp only [Bool.or_eq_true, Bool.and_eq_true, decide_eq_true_eq, beq_iff_eq] at ho
  rcases ho with ⟨h1, h2⟩ | ⟨h1, h2⟩
  · refine h.ord a b ha hb ?_ h2
    rw [← (h.ops a (by omega)).1, ← (h.ops b (by omega)).1]; exact h1
  · rw [h.fo] at h1 h2
    exact idx_filter_lt h1 h2
theorem Ex.flow (h : Ex P D nx g) (hl : D.length = (evs P).length) {a b : Nat} (hf : flowR g a b = true) : idx D a < idx D b := by
  unfold flowR at hf
  rw [Bool.or_eq_true] at hf
  rcases hf with hf | hf
  · exact h.bef hl hf
  · simp only [Bool.and_eq_true, decide_eq_true_eq] at hf
    obtain ⟨⟨a1, b1⟩, he⟩ := hf
    have hel := h.el
    rw [h.fr b (by omega) (by omega)] at he
    split at he
    · rename_i hc
      rcases lastW_in (e := evs P) (D := D.take (idx D b).toNat) (x := xx (evs P) b) with h1 | ⟨h1, h2⟩
      · rw [h1] at he; omega
      · rw [he] at h1
        have := take_before h1
        have := idx_in hc.1
        omega
    · omega
theorem Ex.allowed (hv : validT P = true) (h : Ex P D nx g) (hl : D.length = (evs P).length) : AllowedS g := by
  have hel := h.el
  have hok : ∀ a : Int, 0 ≤ a → a < g.1.length → okOp (opN g a) = true := fun a a0 a1 => by
    unfold opN
    rw [(h.ops a a0).2]
    exact (valid_iff.1 hv).2 _ (rd_memG ev0 (evs P) a a0 (by omega))
  have hX : ∀ a : Int, 0 ≤ a → a < g.1.length → 0 ≤ xx g.1 a ∧ xx g.1 a < 3 := fun a a0 a1 => by
    have := hok a a0 a1
    unfold okOp at this
    rw [decide_eq_true_eq] at this
    have h1 : 0 ≤ xx g.1 a := this.1
    have h2 : xx g.1 a ≤ 2 := this.2.1
    omega
  have h00 : ∀ x : Int, x ∈ D → 0 ≤ x := fun x hx => (h.inr x hx).1
  have hxx : ∀ a : Int, 0 ≤ a → xx g.1 a = xx (evs P) a := fun a a0 => xx_of (h.ops a a0).2
  have hopn : ∀ a : Int, 0 ≤ a → opN g a = eop (rd ev0 (evs P) a) := fun a a0 => (h.ops a a0).2
  -- how many writes to its place are ahead of an event
  have hw : ∀ a : Int, 0 ≤ a → a < g.1.length → wr (opN g a) = true → wpl g a = ((D.take (idx D a).toNat).filter (isW (evs P) (xx g.1 a))).length := fun a a0 a1 hwr => by
    unfold wpl
    rw [h.mo _ (hX a a0 a1).1 (hX a a0 a1).2]
    refine idx_filter (h.all hl a0 (by omega)) ?_
    unfold isW
    rw [← hopn a a0, hwr, hxx a a0, decide_eq_true rfl]; rfl
  have hr : ∀ a : Int, 0 ≤ a → a < g.1.length → rdd (opN g a) = true → rpl g a = (((D.take (idx D a).toNat).filter (isW (evs P) (xx g.1 a))).length : Int) - 1 := fun a a0 a1 hrd => by
    unfold rpl
    rw [h.mo _ (hX a a0 a1).1 (hX a a0 a1).2, h.fr a a0 (by omega), if_pos ⟨h.all hl a0 (by omega), by rw [← hopn a a0]; exact hrd⟩, hxx a a0]
    exact idx_last h.nd h00 _
  refine allowed_all.2 ⟨fun a ha => ?_, fun a a0 a1 h3 => ?_, fun a a0 a1 b b0 b1 hab hk => ?_⟩
  · cases hc : fw (flowR g) g.1.length a a with
    | false => rfl
    | true =>
      exfalso
      have := no_circle (fun x => idx D x) (fun x y hxy => h.flow hl hxy) (fw_sound _ _ _ hc)
      omega
  · have hop3 : (opN g a).1 = 3 := h3
    have h1 : wr (opN g a) = true := by unfold wr; rw [hop3]; rfl
    have h2 : rdd (opN g a) = true := by unfold rdd; rw [hop3]; rfl
    rw [hw a a0 a1 h1, hr a a0 a1 h2]
  · obtain ⟨k1, k2, hxe⟩ := hk
    have hlt := no_circle (fun x => idx D x) (fun x y hxy => h.bef hl hxy) (fw_sound _ _ _ hab)
    simp only [show ((a.toNat : Nat) : Int) = a by omega, show ((b.toNat : Nat) : Int) = b by omega] at hlt
    have ha := h.all hl (x := a) a0 (by omega)
    have hb := h.all hl (x := b) b0 (by omega)
    have ia := idx_in ha
    have ib := idx_in hb
    have hcl := cnt_le (p := isW (evs P) (xx g.1 a)) (D := D) (show (idx D a).toNat + 1 ≤ (idx D b).toNat by omega)
    have hcl2 := cnt_le (p := isW (evs P) (xx g.1 a)) (D := D) (show (idx D a).toNat ≤ (idx D a).toNat + 1 by omega)
    have hcn : wr (opN g a) = true → ((D.take ((idx D a).toNat + 1)).filter (isW (evs P) (xx g.1 a))).length = ((D.take (idx D a).toNat).filter (isW (evs P) (xx g.1 a))).length + 1 := fun hwr => by
      refine cnt_next ha ?_
      unfold isW
      rw [← hopn a a0, hwr, hxx a a0, decide_eq_true rfl]; rfl
    have hka := kindrw (g := g) (a := a) (by
      have := hok a a0 a1
      unfold okOp at this
      rw [decide_eq_true_eq] at this
      exact ⟨this.2.2.2.2.1, this.2.2.2.2.2.1⟩) k1
    have hlow : (if wr (opN g a) = true then wpl g a else rpl g a) ≤ (((D.take ((idx D a).toNat + 1)).filter (isW (evs P) (xx g.1 a))).length : Int) - 1 := by
      split
      · rename_i hwr
        rw [hw a a0 a1 hwr, hcn hwr]
        omega
      · rename_i hwr
        have hrd := hka.resolve_right hwr
        rw [hr a a0 a1 hrd]
        omega
    unfold cohA
    rw [Bool.and_eq_true]
    refine ⟨?_, ?_⟩
    · cases hrb : rdd (opN g b) with
      | false => rfl
      | true =>
        have := hr b b0 b1 hrb
        rw [← hxe] at this
        rw [decide_eq_false (by omega)]; rfl
    · cases hwb : wr (opN g b) with
      | false => rfl
      | true =>
        have := hw b b0 b1 hwb
        rw [← hxe] at this
        rw [decide_eq_false (by omega)]; rfl
end
theorem il_allowed {P : List (List Op)} {b : List Int} (hv : validT P = true) (hb : isB b) : rightG P (ilF P b) = true ∧ allowedG P (ilF P b) = true ∧ smallG (ilF P b) := by
  obtain ⟨D, hD, h⟩ := ilS_ex hv hb (evs P).length (Nat.le_refl _)
  have hr : rightG P (ilF P b) = true := h.right hv hD
  have ha : AllowedS (ilF P b) := h.allowed hv hD
  refine ⟨hr, by unfold allowedG; rw [hr, decide_eq_true ha]; rfl, ?_⟩
  have hn := (valid_iff.1 hv).1.2.2.2
  have e1 : (ilF P b).1.length = _ := h.el
  have e2 : (ilF P b).2.1.length = _ := h.frl
  have e3 : (ilF P b).2.2.1.length = _ := h.mol
  have e4 : (ilF P b).2.2.2 = _ := h.fo
  refine ⟨by omega, by omega, by omega, fun l hl => ?_, ?_⟩
  · obtain ⟨i, i0, i1, rfl⟩ := mem_rd (d := []) hl
    have : rd [] (ilF P b).2.2.1 i = _ := h.mo i i0 (by omega)
    rw [this]
    have := List.length_filter_le (isW (evs P) i) D
    omega
  · rw [e4]
    have := List.length_filter_le (fun a => kk (evs P) a == 4) D
    omega
end L31

/- For the laws: what a graph that bytes say is handed on with; what allowed gives. -/
open Go Go.V
namespace L31
theorem graph_small {P : List (List Op)} {b : List Int} (hv : validT P = true) (hb : isB b) : smallG (graphF P b) := by
  obtain ⟨⟨_, _, _, n6⟩, _⟩ := valid_iff.1 hv
  have e1 : (graphF P b).1.length = (evs P).length := vlR_len 8
  have e2 : (graphF P b).2.1.length = (evs P).length := frF_len _
  have e3 : (graphF P b).2.2.1.length = 3 := moF_len 3
  have e4 : (graphF P b).2.2.2.length = (fns (evs P)).length := (shuf_perm _ _ _ _ hb rfl).length_eq
  have e5 : (fns (evs P)).length ≤ (evs P).length := want_len
  exact ⟨by omega, by omega, by omega, graph_mo hv hb, by omega⟩
theorem graph_pre {P : List (List Op)} {b : List Int} (hv : validT P = true) (hb : isB b) : smallP P ∧ (evs P).length ≤ 100 ∧ (∀ e ∈ evs P, okOp (eop e) = true) ∧ isB b :=
  ⟨valid_small hv, by have := (valid_iff.1 hv).1; omega, (valid_iff.1 hv).2, hb⟩
theorem allowed_iff {P : List (List Op)} {g : Gr} : allowedG P g = true ↔ rightG P g = true ∧ AllowedS g := by
  unfold allowedG
  rw [Bool.and_eq_true, decide_eq_true_eq]
theorem coh_out {g : Gr} {i k : Int} (h : cohA g i k = true) : (wr (opN g k) = true → (if wr (opN g i) = true then wpl g i else rpl g i) < wpl g k) ∧ (rdd (opN g k) = true → (if wr (opN g i) = true then wpl g i else rpl g i) ≤ rpl g k) := by
  unfold cohA at h
  rw [Bool.and_eq_true] at h
  refine ⟨fun hw => ?_, fun hr => ?_⟩
  · have := h.2
    rw [hw, Bool.true_and, Bool.not_eq_true', decide_eq_false_iff_not] at this
    omega
  · have := h.1
    rw [hr, Bool.true_and, Bool.not_eq_true', decide_eq_false_iff_not] at this
    omega
/-- Two events of a core on a place are coherent in a graph that is allowed. -/
theorem coh_core {g : Gr} (hA : AllowedS g) {i k : Int} (i0 : 0 ≤ i) (k1 : k < g.1.length) (h : i < k) (hc : (rd ev0 g.1 i).1 = (rd ev0 g.1 k).1) (hx : xx g.1 i = xx g.1 k) (hi : kk g.1 i ≠ 4) (hk : kk g.1 k ≠ 4) : cohA g i k = true := by
  refine (allowed_all.1 hA).2.2 i i0 (by omega) k (by omega) k1 (fw_base _ _ _ ?_) ⟨hi, hk, hx⟩
  unfold befR ordB
  rw [decide_eq_true (by omega), decide_eq_true (by omega), show ((i.toNat : Nat) : Int) = i by omega, show ((k.toNat : Nat) : Int) = k by omega, beq_iff_eq.2 hc, decide_eq_true h]
  rfl
theorem wr_iff {o : Op} : wr o = true ↔ o.1 = 2 ∨ o.1 = 3 := by
  unfold wr; rw [Bool.or_eq_true, beq_iff_eq, beq_iff_eq]
theorem rdd_iff {o : Op} : rdd o = true ↔ o.1 = 1 ∨ o.1 = 3 := by
  unfold rdd; rw [Bool.or_eq_true, beq_iff_eq, beq_iff_eq]
theorem opN_1 {g : Gr} {i : Int} : (opN g i).1 = kk g.1 i := rfl
theorem wpl_b {g : Gr} {a : Int} (h : (rd [] g.2.2.1 (xx g.1 a)).length ≤ 1000) : -1 ≤ wpl g a ∧ wpl g a ≤ 1000 := by
  have h1 := idx_ge (l := rd [] g.2.2.1 (xx g.1 a)) (n := a)
  refine ⟨h1, ?_⟩
  rcases Int.lt_or_le (wpl g a) 0 with h3 | h3
  · omega
  · have := (idx_spec (l := rd [] g.2.2.1 (xx g.1 a)) (n := a) h3).1
    unfold wpl; omega
end L31

/- Litmus tests with any values. -/
open Go Go.V
namespace L31
def loose (x y a b : Int) : List (List Op) := [[(2, x, a), (2, y, b)], [(1, y, 0), (1, x, 0)]]
def tight (x y a b : Int) : List (List Op) := [[(2, x, a), (4, 0, 0), (2, y, b)], [(1, y, 0), (4, 0, 0), (1, x, 0)]]
def ring (x y a b : Int) : List (List Op) := [[(2, x, a), (4, 0, 0), (1, y, 0)], [(2, y, b), (4, 0, 0), (1, x, 0)]]
def gph (P : List (List Op)) (fr fo : List Int) : Gr := (gphE P fr, fr, (graphF P []).2.2.1, fo)
def okGph (P : List (List Op)) (fr fo : List Int) : Bool :=
  decide (fr.length = (evs P).length) && (List.range (evs P).length).all (fun n => src (evs P) n (rd 0 fr n) && decide ((eop (rd ev0 (evs P) n)).1 ≠ 3)) && fo.isPerm (want (evs P) fun o => o.1 == 4)
theorem gph_right {P : List (List Op)} {fr fo : List Int} (hv : validT P = true) (h : okGph P fr fo = true) : rightG P (gph P fr fo) = true := by
  unfold okGph at h
  rw [Bool.and_eq_true, Bool.and_eq_true, decide_eq_true_eq, List.all_eq_true] at h
  obtain ⟨⟨hl, h2⟩, h3⟩ := h
  have hs : ∀ n : Nat, n < (evs P).length → src (evs P) n (rd 0 fr n) = true ∧ (eop (rd ev0 (evs P) n)).1 ≠ 3 := fun n hn => by
    have := h2 n (List.mem_range.2 hn)
    rw [Bool.and_eq_true, decide_eq_true_eq] at this
    exact this
  have hE : ∀ n : Nat, n < (evs P).length → rd ev0 (gphE P fr) n = ((rd ev0 (evs P) n).1, (rd ev0 (evs P) n).2.1, (rd ev0 (evs P) n).2.2.1, (rd ev0 (evs P) n).2.2.2.1, gphR P fr n) := fun n hn => rd_gphE (by omega) (by omega)
  refine right_iff.2 ⟨hv, ?_⟩
  unfold RightP gph
  refine ⟨by unfold gphE; simp, hl, moF_len 3, fun n hn => ⟨by rw [hE n hn], by rw [hE n hn]; rfl, (hs n hn).1⟩, fun n hn => ?_, fun p hp => List.isPerm_iff.2 (moF_perm nilB (by omega) (by omega)), h3⟩
  dsimp only
  rw [hE n hn]
  have h4 := (hs n hn).1
  unfold src at h4
  rw [decide_eq_true_eq] at h4
  unfold gphR val
  dsimp only
  rcases h4 with h4 | ⟨h5, h6, h7, h8, _⟩
  · rw [h4]; simp
  · obtain ⟨m, hm⟩ : ∃ m : Nat, rd 0 fr (n : Int) = m := ⟨(rd 0 fr (n : Int)).toNat, by omega⟩
    rw [hm] at h6 h7 ⊢
    have h9 := (hs m (by omega)).2
    rw [if_pos h5, if_pos h6, if_neg (by omega)]
    have e := hE m (by omega)
    rw [show rd (0, 0, 0, 0, 0) (gphE P fr) (m : Int) = _ from e]
    dsimp only
    rw [if_neg (show ¬(rd ev0 (evs P) (m : Int)).2.1 = 3 from h9)]
theorem gph_yes {P : List (List Op)} {fr fo : List Int} (hv : validT P = true) (h : okGph P fr fo = true) (ha : decide (AllowedS (gph P fr fo)) = true) : allowedG P (gph P fr fo) = true := by
  unfold allowedG; rw [gph_right hv h, ha]; rfl
theorem gph_no {P : List (List Op)} {fr fo : List Int} (ha : decide (AllowedS (gph P fr fo)) = false) : allowedG P (gph P fr fo) = false := by
  unfold allowedG; rw [ha, Bool.and_false]
def Facts (x y a b : Int) : Prop := validT (loose x y a b) = true ∧ validT (tight x y a b) = true ∧ validT (ring x y a b) = true ∧
  allowedG (loose x y a b) (gph (loose x y a b) [-1, -1, 1, -1] []) = true ∧
  allowedG (loose x y a b) (gph (loose x y a b) [-1, -1, 1, 0] []) = true ∧
  allowedG (tight x y a b) (gph (tight x y a b) [-1, -1, -1, 2, -1, -1] [1, 4]) = false ∧
  allowedG (tight x y a b) (gph (tight x y a b) [-1, -1, -1, 2, -1, -1] [4, 1]) = false ∧
  allowedG (tight x y a b) (gph (tight x y a b) [-1, -1, -1, 2, -1, 0] [1, 4]) = true ∧
  allowedG (ring x y a b) (gph (ring x y a b) [-1, -1, -1, -1, -1, -1] [1, 4]) = false ∧
  allowedG (ring x y a b) (gph (ring x y a b) [-1, -1, -1, -1, -1, -1] [4, 1]) = false ∧
  allowedG (ring x y a b) (gph (ring x y a b) [-1, -1, 3, -1, -1, -1] [4, 1]) = true ∧
  allowedG (ring x y a b) (gph (ring x y a b) [-1, -1, 3, -1, -1, -1] [1, 4]) = false
theorem facts20 {a b : Int} (ha : 1 ≤ a ∧ a ≤ 100) (hb : 1 ≤ b ∧ b ≤ 100) : Facts 2 0 a b := by
  have oa : okOp (2, 2, a) = true := by unfold okOp; rw [decide_eq_true_eq]; dsimp only; omega
  have ob : okOp (2, 0, b) = true := by unfold okOp; rw [decide_eq_true_eq]; dsimp only; omega
  have vl : validT (loose 2 0 a b) = true := by unfold validT loose evs; simp [evF, eop, oa, ob]; decide
  have vt : validT (tight 2 0 a b) = true := by unfold validT tight evs; simp [evF, eop, oa, ob]; decide
  have vr : validT (ring 2 0 a b) = true := by unfold validT ring evs; simp [evF, eop, oa, ob]; decide
  refine ⟨vl, vt, vr, gph_yes vl (by kernel_rfl) (by kernel_rfl), gph_yes vl (by kernel_rfl) (by kernel_rfl), gph_no (by kernel_rfl), gph_no (by kernel_rfl), gph_yes vt (by kernel_rfl) (by kernel_rfl), gph_no (by kernel_rfl), gph_no (by kernel_rfl), gph_yes vr (by kernel_rfl) (by kernel_rfl), gph_no (by kernel_rfl)⟩
theorem facts02 {a b : Int} (ha : 1 ≤ a ∧ a ≤ 100) (hb : 1 ≤ b ∧ b ≤ 100) : Facts 0 2 a b := by
  have oa : okOp (2, 0, a) = true := by unfold okOp; rw [decide_eq_true_eq]; dsimp only; omega
  have ob : okOp (2, 2, b) = true := by unfold okOp; rw [decide_eq_true_eq]; dsimp only; omega
  have vl : validT (loose 0 2 a b) = true := by unfold validT loose evs; simp [evF, eop, oa, ob]; decide
  have vt : validT (tight 0 2 a b) = true := by unfold validT tight evs; simp [evF, eop, oa, ob]; decide
  have vr : validT (ring 0 2 a b) = true := by unfold validT ring evs; simp [evF, eop, oa, ob]; decide
  refine ⟨vl, vt, vr, gph_yes vl (by kernel_rfl) (by kernel_rfl), gph_yes vl (by kernel_rfl) (by kernel_rfl), gph_no (by kernel_rfl), gph_no (by kernel_rfl), gph_yes vt (by kernel_rfl) (by kernel_rfl), gph_no (by kernel_rfl), gph_no (by kernel_rfl), gph_yes vr (by kernel_rfl) (by kernel_rfl), gph_no (by kernel_rfl)⟩
end L31

open Go Go.V
namespace L31
set_option linter.unusedVariables false
set_option linter.unusedSimpArgs false

def S9 : FSpec := { args := [.cell cU, .cell cU, .cell .bool], pre := fun a _ => (fun (v w : Int) => (0 ≤ v ∧ v ≤ 255) ∧ (0 ≤ w ∧ w ≤ 255)) a.1 a.2.1, res := fun _ _ => .c (.c (.bool true)) }
def A9 : Ans := { op := fun r i => (bif Nat.beq r 1 && Nat.beq i 0 then {con := some S10} else (bif Nat.beq r 11 && Nat.beq i 2 then {con := some S27, cl := true} else (bif Nat.beq r 11 && Nat.beq i 5 then {con := some S27, cl := true} else (bif Nat.beq r 11 && Nat.beq i 6 then {cl := true} else (bif Nat.beq r 11 && Nat.beq i 8 then {con := some S28, cl := true} else (bif Nat.beq r 11 && Nat.beq i 10 then {con := some S28, cl := true} else (bif Nat.beq r 11 && Nat.beq i 11 then {cl := true} else (bif Nat.beq r 11 && Nat.beq i 12 then {cl := true, fz := true} else (bif Nat.beq r 12 && Nat.beq i 2 then {con := some S27, cl := true} else (bif Nat.beq r 12 && Nat.beq i 3 then {con := some S29, cl := true} else (bif Nat.beq r 12 && Nat.beq i 6 then {con := some S27, cl := true} else (bif Nat.beq r 12 && Nat.beq i 7 then {cl := true} else (bif Nat.beq r 12 && Nat.beq i 9 then {con := some S28, cl := true} else (bif Nat.beq r 12 && Nat.beq i 10 then {con := some S29, cl := true} else (bif Nat.beq r 12 && Nat.beq i 12 then {con := some S28, cl := true} else (bif Nat.beq r 12 && Nat.beq i 13 then {cl := true} else (bif Nat.beq r 12 && Nat.beq i 14 then {cl := true, fz := true} else (bif Nat.beq r 13 && Nat.beq i 0 then {fz := true} else (bif Nat.beq r 14 && Nat.beq i 0 then {fz := true} else (bif Nat.beq r 15 && Nat.beq i 0 then {fz := true} else (bif Nat.beq r 16 && Nat.beq i 0 then {fz := true} else (bif Nat.beq r 17 && Nat.beq i 3 then {con := some S30} else (bif Nat.beq r 17 && Nat.beq i 4 then {con := some S18} else (bif Nat.beq r 17 && Nat.beq i 10 then {con := some S30} else (bif Nat.beq r 17 && Nat.beq i 11 then {con := some S18} else (bif Nat.beq r 17 && Nat.beq i 18 then {fz := true} else (bif Nat.beq r 17 && Nat.beq i 19 then {con := some S30} else (bif Nat.beq r 17 && Nat.beq i 20 then {con := some S18} else (bif Nat.beq r 17 && Nat.beq i 26 then {fz := true} else (bif Nat.beq r 17 && Nat.beq i 27 then {con := some S30} else (bif Nat.beq r 17 && Nat.beq i 28 then {con := some S18} else (bif Nat.beq r 17 && Nat.beq i 34 then {fz := true} else (bif Nat.beq r 17 && Nat.beq i 35 then {con := some S30} else (bif Nat.beq r 17 && Nat.beq i 36 then {con := some S18} else (bif Nat.beq r 19 && Nat.beq i 2 then {con := some S27, cl := true} else (bif Nat.beq r 19 && Nat.beq i 3 then {con := some S29, cl := true} else (bif Nat.beq r 19 && Nat.beq i 5 then {con := some S28, cl := true} else (bif Nat.beq r 19 && Nat.beq i 6 then {cl := true} else (bif Nat.beq r 19 && Nat.beq i 9 then {con := some S27, cl := true} else (bif Nat.beq r 19 && Nat.beq i 10 then {con := some S29, cl := true} else (bif Nat.beq r 19 && Nat.beq i 12 then {con := some S28, cl := true} else (bif Nat.beq r 19 && Nat.beq i 13 then {cl := true} else (bif Nat.beq r 19 && Nat.beq i 14 then {cl := true, fz := true} else (bif Nat.beq r 20 && Nat.beq i 0 then {fz := true} else (bif Nat.beq r 21 && Nat.beq i 0 then {fz := true} else (bif Nat.beq r 22 && Nat.beq i 5 then {fz := true} else (bif Nat.beq r 22 && Nat.beq i 6 then {con := some S30} else (bif Nat.beq r 22 && Nat.beq i 7 then {con := some S18} else (bif Nat.beq r 22 && Nat.beq i 14 then {fz := true} else (bif Nat.beq r 22 && Nat.beq i 15 then {con := some S30} else (bif Nat.beq r 22 && Nat.beq i 16 then {con := some S18} else (bif Nat.beq r 22 && Nat.beq i 23 then {fz := true} else (bif Nat.beq r 22 && Nat.beq i 24 then {con := some S30} else (bif Nat.beq r 22 && Nat.beq i 25 then {con := some S18} else (bif Nat.beq r 22 && Nat.beq i 29 then {fz := true} else (bif Nat.beq r 22 && Nat.beq i 30 then {con := some S30} else (bif Nat.beq r 22 && Nat.beq i 31 then {con := some S18} else {}))))))))))))))))))))))))))))))))))))))))))))))))))))))))), rj := fun b => (bif Nat.beq b 17 then [.sbool 105] else (bif Nat.beq b 22 then [.sbool 6] else [])), cd := fun b => (bif Nat.beq b 8 then some ([(10, some 999), (11, some 999)]) else none) }
-- VC

theorem f9_vc : ∀ (v w : Int) (s : Bool), ((0 ≤ v ∧ v ≤ 255) ∧ (0 ≤ w ∧ w ≤ 255)) → (SoundF Proofs.Try.prog (10 : Nat) S10 ∧ True) ∧ ((100 : Int) = (0 : Int) → False) ∧ ((-9223372036854775808 : Int) ≤ v.tmod (100 : Int) ∧ v.tmod (100 : Int) ≤
  (9223372036854775807 : Int)) ∧ ((-9223372036854775808 : Int) ≤ (1 : Int) + v.tmod (100 : Int) ∧ (1 : Int) + v.tmod (100 : Int) ≤ (9223372036854775807 : Int)) ∧ ((100 : Int) = (0 : Int) → False) ∧ ((-9223372036854775808 : Int) ≤
  w.tmod (100 : Int) ∧ w.tmod (100 : Int) ≤ (9223372036854775807 : Int)) ∧ ((-9223372036854775808 : Int) ≤ (1 : Int) + w.tmod (100 : Int) ∧ (1 : Int) + w.tmod (100 : Int) ≤ (9223372036854775807 : Int)) ∧ bif s then (SoundF
  Proofs.Try.prog (27 : Nat) S27 ∧ True) ∧ (SoundF Proofs.Try.prog (27 : Nat) S27 ∧ True) ∧ (SoundF Proofs.Try.prog (28 : Nat) S28 ∧ True) ∧ (SoundF Proofs.Try.prog (28 : Nat) S28 ∧ True) ∧ (SoundF Proofs.Try.prog (27 : Nat) S27 ∧
  True) ∧ (SoundF Proofs.Try.prog (29 : Nat) S29 ∧ True) ∧ (SoundF Proofs.Try.prog (27 : Nat) S27 ∧ True) ∧ (SoundF Proofs.Try.prog (28 : Nat) S28 ∧ True) ∧ (SoundF Proofs.Try.prog (29 : Nat) S29 ∧ True) ∧ (SoundF Proofs.Try.prog (28
  : Nat) S28 ∧ True) ∧ ∃ (J : Bool → Prop), ((SoundF Proofs.Try.prog (30 : Nat) S30 ∧ validT [[((2 : Int), (2 : Int), (1 : Int) + v.tmod (100 : Int)), ((2 : Int), (0 : Int), (1 : Int) + w.tmod (100 : Int))], [((1 : Int), (0 : Int),
  (0 : Int)), ((1 : Int), (2 : Int), (0 : Int))]] = true ∧ (4 : Nat) = (4 : Nat) ∧ ∀ (i : Int), (0 : Int) ≤ i → i < (↑(4 : Nat) : Int) → rd (0 : Int) [(-1 : Int), (-1 : Int), (1 : Int), (-1 : Int)] i < (↑(4 : Nat) : Int)) ∧ (SoundF
  Proofs.Try.prog (18 : Nat) S18 ∧ ((2 : Nat) ≤ (1000 : Nat) ∧ ∀ (l : List (Int × Int × Int)), List.Mem l [[((2 : Int), (2 : Int), (1 : Int) + v.tmod (100 : Int)), ((2 : Int), (0 : Int), (1 : Int) + w.tmod (100 : Int))], [((1 : Int),
  (0 : Int), (0 : Int)), ((1 : Int), (2 : Int), (0 : Int))]] → l.length ≤ (1000 : Nat)) ∧ (4 : Nat) ≤ (1000 : Nat) ∧ (4 : Nat) ≤ (1000 : Nat) ∧ (3 : Nat) ≤ (1000 : Nat) ∧ (∀ (l : List Int), List.Mem l (graphF [[((2 : Int), (2 : Int),
  (1 : Int) + v.tmod (100 : Int)), ((2 : Int), (0 : Int), (1 : Int) + w.tmod (100 : Int))], [((1 : Int), (0 : Int), (0 : Int)), ((1 : Int), (2 : Int), (0 : Int))]] []).snd.snd.fst → l.length ≤ (1000 : Nat)) ∧ (0 : Nat) ≤ (1000 :
  Nat)) ∧ bif !allowedG [[((2 : Int), (2 : Int), (1 : Int) + v.tmod (100 : Int)), ((2 : Int), (0 : Int), (1 : Int) + w.tmod (100 : Int))], [((1 : Int), (0 : Int), (0 : Int)), ((1 : Int), (2 : Int), (0 : Int))]] (gphE [[((2 : Int), (2
  : Int), (1 : Int) + v.tmod (100 : Int)), ((2 : Int), (0 : Int), (1 : Int) + w.tmod (100 : Int))], [((1 : Int), (0 : Int), (0 : Int)), ((1 : Int), (2 : Int), (0 : Int))]] [(-1 : Int), (-1 : Int), (1 : Int), (-1 : Int)], [(-1 : Int),
  (-1 : Int), (1 : Int), (-1 : Int)], (graphF [[((2 : Int), (2 : Int), (1 : Int) + v.tmod (100 : Int)), ((2 : Int), (0 : Int), (1 : Int) + w.tmod (100 : Int))], [((1 : Int), (0 : Int), (0 : Int)), ((1 : Int), (2 : Int), (0 : Int))]]
  []).snd.snd.fst, []) then True ∧ True ∧ True ∧ True ∧ J true else (SoundF Proofs.Try.prog (30 : Nat) S30 ∧ validT [[((2 : Int), (2 : Int), (1 : Int) + v.tmod (100 : Int)), ((2 : Int), (0 : Int), (1 : Int) + w.tmod (100 : Int))],
  [((1 : Int), (0 : Int), (0 : Int)), ((1 : Int), (2 : Int), (0 : Int))]] = true ∧ (4 : Nat) = (4 : Nat) ∧ ∀ (i : Int), (0 : Int) ≤ i → i < (↑(4 : Nat) : Int) → rd (0 : Int) [(-1 : Int), (-1 : Int), (1 : Int), (0 : Int)] i < (↑(4 :
  Nat) : Int)) ∧ (SoundF Proofs.Try.prog (18 : Nat) S18 ∧ ((2 : Nat) ≤ (1000 : Nat) ∧ ∀ (l : List (Int × Int × Int)), List.Mem l [[((2 : Int), (2 : Int), (1 : Int) + v.tmod (100 : Int)), ((2 : Int), (0 : Int), (1 : Int) + w.tmod (100
  : Int))], [((1 : Int), (0 : Int), (0 : Int)), ((1 : Int), (2 : Int), (0 : Int))]] → l.length ≤ (1000 : Nat)) ∧ (4 : Nat) ≤ (1000 : Nat) ∧ (4 : Nat) ≤ (1000 : Nat) ∧ (3 : Nat) ≤ (1000 : Nat) ∧ (∀ (l : List Int), List.Mem l (graphF
  [[((2 : Int), (2 : Int), (1 : Int) + v.tmod (100 : Int)), ((2 : Int), (0 : Int), (1 : Int) + w.tmod (100 : Int))], [((1 : Int), (0 : Int), (0 : Int)), ((1 : Int), (2 : Int), (0 : Int))]] []).snd.snd.fst → l.length ≤ (1000 : Nat)) ∧
  (0 : Nat) ≤ (1000 : Nat)) ∧ bif !allowedG [[((2 : Int), (2 : Int), (1 : Int) + v.tmod (100 : Int)), ((2 : Int), (0 : Int), (1 : Int) + w.tmod (100 : Int))], [((1 : Int), (0 : Int), (0 : Int)), ((1 : Int), (2 : Int), (0 : Int))]]
  (gphE [[((2 : Int), (2 : Int), (1 : Int) + v.tmod (100 : Int)), ((2 : Int), (0 : Int), (1 : Int) + w.tmod (100 : Int))], [((1 : Int), (0 : Int), (0 : Int)), ((1 : Int), (2 : Int), (0 : Int))]] [(-1 : Int), (-1 : Int), (1 : Int), (0
  : Int)], [(-1 : Int), (-1 : Int), (1 : Int), (0 : Int)], (graphF [[((2 : Int), (2 : Int), (1 : Int) + v.tmod (100 : Int)), ((2 : Int), (0 : Int), (1 : Int) + w.tmod (100 : Int))], [((1 : Int), (0 : Int), (0 : Int)), ((1 : Int), (2
  : Int), (0 : Int))]] []).snd.snd.fst, []) then True ∧ True ∧ True ∧ J true else (SoundF Proofs.Try.prog (30 : Nat) S30 ∧ validT [[((2 : Int), (2 : Int), (1 : Int) + v.tmod (100 : Int)), ((4 : Int), (0 : Int), (0 : Int)), ((2 :
  Int), (0 : Int), (1 : Int) + w.tmod (100 : Int))], [((1 : Int), (0 : Int), (0 : Int)), ((4 : Int), (0 : Int), (0 : Int)), ((1 : Int), (2 : Int), (0 : Int))]] = true ∧ (6 : Nat) = (6 : Nat) ∧ ∀ (i : Int), (0 : Int) ≤ i → i < (↑(6 :
  Nat) : Int) → rd (0 : Int) [(-1 : Int), (-1 : Int), (-1 : Int), (2 : Int), (-1 : Int), (-1 : Int)] i < (↑(6 : Nat) : Int)) ∧ (SoundF Proofs.Try.prog (18 : Nat) S18 ∧ ((2 : Nat) ≤ (1000 : Nat) ∧ ∀ (l : List (Int × Int × Int)),
  List.Mem l [[((2 : Int), (2 : Int), (1 : Int) + v.tmod (100 : Int)), ((4 : Int), (0 : Int), (0 : Int)), ((2 : Int), (0 : Int), (1 : Int) + w.tmod (100 : Int))], [((1 : Int), (0 : Int), (0 : Int)), ((4 : Int), (0 : Int), (0 : Int)),
  ((1 : Int), (2 : Int), (0 : Int))]] → l.length ≤ (1000 : Nat)) ∧ (6 : Nat) ≤ (1000 : Nat) ∧ (6 : Nat) ≤ (1000 : Nat) ∧ (3 : Nat) ≤ (1000 : Nat) ∧ (∀ (l : List Int), List.Mem l (graphF [[((2 : Int), (2 : Int), (1 : Int) + v.tmod
  (100 : Int)), ((4 : Int), (0 : Int), (0 : Int)), ((2 : Int), (0 : Int), (1 : Int) + w.tmod (100 : Int))], [((1 : Int), (0 : Int), (0 : Int)), ((4 : Int), (0 : Int), (0 : Int)), ((1 : Int), (2 : Int), (0 : Int))]] []).snd.snd.fst →
  l.length ≤ (1000 : Nat)) ∧ (2 : Nat) ≤ (1000 : Nat)) ∧ bif allowedG [[((2 : Int), (2 : Int), (1 : Int) + v.tmod (100 : Int)), ((4 : Int), (0 : Int), (0 : Int)), ((2 : Int), (0 : Int), (1 : Int) + w.tmod (100 : Int))], [((1 : Int),
  (0 : Int), (0 : Int)), ((4 : Int), (0 : Int), (0 : Int)), ((1 : Int), (2 : Int), (0 : Int))]] (gphE [[((2 : Int), (2 : Int), (1 : Int) + v.tmod (100 : Int)), ((4 : Int), (0 : Int), (0 : Int)), ((2 : Int), (0 : Int), (1 : Int) +
  w.tmod (100 : Int))], [((1 : Int), (0 : Int), (0 : Int)), ((4 : Int), (0 : Int), (0 : Int)), ((1 : Int), (2 : Int), (0 : Int))]] [(-1 : Int), (-1 : Int), (-1 : Int), (2 : Int), (-1 : Int), (-1 : Int)], [(-1 : Int), (-1 : Int), (-1
  : Int), (2 : Int), (-1 : Int), (-1 : Int)], (graphF [[((2 : Int), (2 : Int), (1 : Int) + v.tmod (100 : Int)), ((4 : Int), (0 : Int), (0 : Int)), ((2 : Int), (0 : Int), (1 : Int) + w.tmod (100 : Int))], [((1 : Int), (0 : Int), (0 :
  Int)), ((4 : Int), (0 : Int), (0 : Int)), ((1 : Int), (2 : Int), (0 : Int))]] []).snd.snd.fst, [(1 : Int), (4 : Int)]) then True ∧ True ∧ J true else (SoundF Proofs.Try.prog (30 : Nat) S30 ∧ validT [[((2 : Int), (2 : Int), (1 :
  Int) + v.tmod (100 : Int)), ((4 : Int), (0 : Int), (0 : Int)), ((2 : Int), (0 : Int), (1 : Int) + w.tmod (100 : Int))], [((1 : Int), (0 : Int), (0 : Int)), ((4 : Int), (0 : Int), (0 : Int)), ((1 : Int), (2 : Int), (0 : Int))]] =
  true ∧ (6 : Nat) = (6 : Nat) ∧ ∀ (i : Int), (0 : Int) ≤ i → i < (↑(6 : Nat) : Int) → rd (0 : Int) [(-1 : Int), (-1 : Int), (-1 : Int), (2 : Int), (-1 : Int), (-1 : Int)] i < (↑(6 : Nat) : Int)) ∧ (SoundF Proofs.Try.prog (18 : Nat)
  S18 ∧ ((2 : Nat) ≤ (1000 : Nat) ∧ ∀ (l : List (Int × Int × Int)), List.Mem l [[((2 : Int), (2 : Int), (1 : Int) + v.tmod (100 : Int)), ((4 : Int), (0 : Int), (0 : Int)), ((2 : Int), (0 : Int), (1 : Int) + w.tmod (100 : Int))], [((1
  : Int), (0 : Int), (0 : Int)), ((4 : Int), (0 : Int), (0 : Int)), ((1 : Int), (2 : Int), (0 : Int))]] → l.length ≤ (1000 : Nat)) ∧ (6 : Nat) ≤ (1000 : Nat) ∧ (6 : Nat) ≤ (1000 : Nat) ∧ (3 : Nat) ≤ (1000 : Nat) ∧ (∀ (l : List Int),
  List.Mem l (graphF [[((2 : Int), (2 : Int), (1 : Int) + v.tmod (100 : Int)), ((4 : Int), (0 : Int), (0 : Int)), ((2 : Int), (0 : Int), (1 : Int) + w.tmod (100 : Int))], [((1 : Int), (0 : Int), (0 : Int)), ((4 : Int), (0 : Int), (0
  : Int)), ((1 : Int), (2 : Int), (0 : Int))]] []).snd.snd.fst → l.length ≤ (1000 : Nat)) ∧ (2 : Nat) ≤ (1000 : Nat)) ∧ bif allowedG [[((2 : Int), (2 : Int), (1 : Int) + v.tmod (100 : Int)), ((4 : Int), (0 : Int), (0 : Int)), ((2 :
  Int), (0 : Int), (1 : Int) + w.tmod (100 : Int))], [((1 : Int), (0 : Int), (0 : Int)), ((4 : Int), (0 : Int), (0 : Int)), ((1 : Int), (2 : Int), (0 : Int))]] (gphE [[((2 : Int), (2 : Int), (1 : Int) + v.tmod (100 : Int)), ((4 :
  Int), (0 : Int), (0 : Int)), ((2 : Int), (0 : Int), (1 : Int) + w.tmod (100 : Int))], [((1 : Int), (0 : Int), (0 : Int)), ((4 : Int), (0 : Int), (0 : Int)), ((1 : Int), (2 : Int), (0 : Int))]] [(-1 : Int), (-1 : Int), (-1 : Int),
  (2 : Int), (-1 : Int), (-1 : Int)], [(-1 : Int), (-1 : Int), (-1 : Int), (2 : Int), (-1 : Int), (-1 : Int)], (graphF [[((2 : Int), (2 : Int), (1 : Int) + v.tmod (100 : Int)), ((4 : Int), (0 : Int), (0 : Int)), ((2 : Int), (0 :
  Int), (1 : Int) + w.tmod (100 : Int))], [((1 : Int), (0 : Int), (0 : Int)), ((4 : Int), (0 : Int), (0 : Int)), ((1 : Int), (2 : Int), (0 : Int))]] []).snd.snd.fst, [(4 : Int), (1 : Int)]) then True ∧ J true else (SoundF
  Proofs.Try.prog (30 : Nat) S30 ∧ validT [[((2 : Int), (2 : Int), (1 : Int) + v.tmod (100 : Int)), ((4 : Int), (0 : Int), (0 : Int)), ((2 : Int), (0 : Int), (1 : Int) + w.tmod (100 : Int))], [((1 : Int), (0 : Int), (0 : Int)), ((4 :
  Int), (0 : Int), (0 : Int)), ((1 : Int), (2 : Int), (0 : Int))]] = true ∧ (6 : Nat) = (6 : Nat) ∧ ∀ (i : Int), (0 : Int) ≤ i → i < (↑(6 : Nat) : Int) → rd (0 : Int) [(-1 : Int), (-1 : Int), (-1 : Int), (2 : Int), (-1 : Int), (0 :
  Int)] i < (↑(6 : Nat) : Int)) ∧ (SoundF Proofs.Try.prog (18 : Nat) S18 ∧ ((2 : Nat) ≤ (1000 : Nat) ∧ ∀ (l : List (Int × Int × Int)), List.Mem l [[((2 : Int), (2 : Int), (1 : Int) + v.tmod (100 : Int)), ((4 : Int), (0 : Int), (0 :
  Int)), ((2 : Int), (0 : Int), (1 : Int) + w.tmod (100 : Int))], [((1 : Int), (0 : Int), (0 : Int)), ((4 : Int), (0 : Int), (0 : Int)), ((1 : Int), (2 : Int), (0 : Int))]] → l.length ≤ (1000 : Nat)) ∧ (6 : Nat) ≤ (1000 : Nat) ∧ (6 :
  Nat) ≤ (1000 : Nat) ∧ (3 : Nat) ≤ (1000 : Nat) ∧ (∀ (l : List Int), List.Mem l (graphF [[((2 : Int), (2 : Int), (1 : Int) + v.tmod (100 : Int)), ((4 : Int), (0 : Int), (0 : Int)), ((2 : Int), (0 : Int), (1 : Int) + w.tmod (100 :
  Int))], [((1 : Int), (0 : Int), (0 : Int)), ((4 : Int), (0 : Int), (0 : Int)), ((1 : Int), (2 : Int), (0 : Int))]] []).snd.snd.fst → l.length ≤ (1000 : Nat)) ∧ (2 : Nat) ≤ (1000 : Nat)) ∧ J !allowedG [[((2 : Int), (2 : Int), (1 :
  Int) + v.tmod (100 : Int)), ((4 : Int), (0 : Int), (0 : Int)), ((2 : Int), (0 : Int), (1 : Int) + w.tmod (100 : Int))], [((1 : Int), (0 : Int), (0 : Int)), ((4 : Int), (0 : Int), (0 : Int)), ((1 : Int), (2 : Int), (0 : Int))]]
  (gphE [[((2 : Int), (2 : Int), (1 : Int) + v.tmod (100 : Int)), ((4 : Int), (0 : Int), (0 : Int)), ((2 : Int), (0 : Int), (1 : Int) + w.tmod (100 : Int))], [((1 : Int), (0 : Int), (0 : Int)), ((4 : Int), (0 : Int), (0 : Int)), ((1
  : Int), (2 : Int), (0 : Int))]] [(-1 : Int), (-1 : Int), (-1 : Int), (2 : Int), (-1 : Int), (0 : Int)], [(-1 : Int), (-1 : Int), (-1 : Int), (2 : Int), (-1 : Int), (0 : Int)], (graphF [[((2 : Int), (2 : Int), (1 : Int) + v.tmod
  (100 : Int)), ((4 : Int), (0 : Int), (0 : Int)), ((2 : Int), (0 : Int), (1 : Int) + w.tmod (100 : Int))], [((1 : Int), (0 : Int), (0 : Int)), ((4 : Int), (0 : Int), (0 : Int)), ((1 : Int), (2 : Int), (0 : Int))]] []).snd.snd.fst,
  [(1 : Int), (4 : Int)])) ∧ ∀ (g : Bool), J g → bif g then false = true else (SoundF Proofs.Try.prog (27 : Nat) S27 ∧ True) ∧ (SoundF Proofs.Try.prog (29 : Nat) S29 ∧ True) ∧ (SoundF Proofs.Try.prog (28 : Nat) S28 ∧ True) ∧ (SoundF
  Proofs.Try.prog (27 : Nat) S27 ∧ True) ∧ (SoundF Proofs.Try.prog (29 : Nat) S29 ∧ True) ∧ (SoundF Proofs.Try.prog (28 : Nat) S28 ∧ True) ∧ ∃ (J : Bool → Prop), ((SoundF Proofs.Try.prog (30 : Nat) S30 ∧ validT [[((2 : Int), (2 :
  Int), (1 : Int) + v.tmod (100 : Int)), ((4 : Int), (0 : Int), (0 : Int)), ((1 : Int), (0 : Int), (0 : Int))], [((2 : Int), (0 : Int), (1 : Int) + w.tmod (100 : Int)), ((4 : Int), (0 : Int), (0 : Int)), ((1 : Int), (2 : Int), (0 :
  Int))]] = true ∧ (6 : Nat) = (6 : Nat) ∧ ∀ (i : Int), (0 : Int) ≤ i → i < (↑(6 : Nat) : Int) → rd (0 : Int) [(-1 : Int), (-1 : Int), (-1 : Int), (-1 : Int), (-1 : Int), (-1 : Int)] i < (↑(6 : Nat) : Int)) ∧ (SoundF Proofs.Try.prog
  (18 : Nat) S18 ∧ ((2 : Nat) ≤ (1000 : Nat) ∧ ∀ (l : List (Int × Int × Int)), List.Mem l [[((2 : Int), (2 : Int), (1 : Int) + v.tmod (100 : Int)), ((4 : Int), (0 : Int), (0 : Int)), ((1 : Int), (0 : Int), (0 : Int))], [((2 : Int),
  (0 : Int), (1 : Int) + w.tmod (100 : Int)), ((4 : Int), (0 : Int), (0 : Int)), ((1 : Int), (2 : Int), (0 : Int))]] → l.length ≤ (1000 : Nat)) ∧ (6 : Nat) ≤ (1000 : Nat) ∧ (6 : Nat) ≤ (1000 : Nat) ∧ (3 : Nat) ≤ (1000 : Nat) ∧ (∀ (l
  : List Int), List.Mem l (graphF [[((2 : Int), (2 : Int), (1 : Int) + v.tmod (100 : Int)), ((4 : Int), (0 : Int), (0 : Int)), ((1 : Int), (0 : Int), (0 : Int))], [((2 : Int), (0 : Int), (1 : Int) + w.tmod (100 : Int)), ((4 : Int),
  (0 : Int), (0 : Int)), ((1 : Int), (2 : Int), (0 : Int))]] []).snd.snd.fst → l.length ≤ (1000 : Nat)) ∧ (2 : Nat) ≤ (1000 : Nat)) ∧ bif !allowedG [[((2 : Int), (2 : Int), (1 : Int) + v.tmod (100 : Int)), ((4 : Int), (0 : Int), (0 :
  Int)), ((1 : Int), (0 : Int), (0 : Int))], [((2 : Int), (0 : Int), (1 : Int) + w.tmod (100 : Int)), ((4 : Int), (0 : Int), (0 : Int)), ((1 : Int), (2 : Int), (0 : Int))]] (gphE [[((2 : Int), (2 : Int), (1 : Int) + v.tmod (100 :
  Int)), ((4 : Int), (0 : Int), (0 : Int)), ((1 : Int), (0 : Int), (0 : Int))], [((2 : Int), (0 : Int), (1 : Int) + w.tmod (100 : Int)), ((4 : Int), (0 : Int), (0 : Int)), ((1 : Int), (2 : Int), (0 : Int))]] [(-1 : Int), (-1 : Int),
  (-1 : Int), (-1 : Int), (-1 : Int), (-1 : Int)], [(-1 : Int), (-1 : Int), (-1 : Int), (-1 : Int), (-1 : Int), (-1 : Int)], (graphF [[((2 : Int), (2 : Int), (1 : Int) + v.tmod (100 : Int)), ((4 : Int), (0 : Int), (0 : Int)), ((1 :
  Int), (0 : Int), (0 : Int))], [((2 : Int), (0 : Int), (1 : Int) + w.tmod (100 : Int)), ((4 : Int), (0 : Int), (0 : Int)), ((1 : Int), (2 : Int), (0 : Int))]] []).snd.snd.fst, [(1 : Int), (4 : Int)]) then (SoundF Proofs.Try.prog (30
  : Nat) S30 ∧ validT [[((2 : Int), (2 : Int), (1 : Int) + v.tmod (100 : Int)), ((4 : Int), (0 : Int), (0 : Int)), ((1 : Int), (0 : Int), (0 : Int))], [((2 : Int), (0 : Int), (1 : Int) + w.tmod (100 : Int)), ((4 : Int), (0 : Int), (0
  : Int)), ((1 : Int), (2 : Int), (0 : Int))]] = true ∧ (6 : Nat) = (6 : Nat) ∧ ∀ (i : Int), (0 : Int) ≤ i → i < (↑(6 : Nat) : Int) → rd (0 : Int) [(-1 : Int), (-1 : Int), (-1 : Int), (-1 : Int), (-1 : Int), (-1 : Int)] i < (↑(6 :
  Nat) : Int)) ∧ (SoundF Proofs.Try.prog (18 : Nat) S18 ∧ ((2 : Nat) ≤ (1000 : Nat) ∧ ∀ (l : List (Int × Int × Int)), List.Mem l [[((2 : Int), (2 : Int), (1 : Int) + v.tmod (100 : Int)), ((4 : Int), (0 : Int), (0 : Int)), ((1 : Int),
  (0 : Int), (0 : Int))], [((2 : Int), (0 : Int), (1 : Int) + w.tmod (100 : Int)), ((4 : Int), (0 : Int), (0 : Int)), ((1 : Int), (2 : Int), (0 : Int))]] → l.length ≤ (1000 : Nat)) ∧ (6 : Nat) ≤ (1000 : Nat) ∧ (6 : Nat) ≤ (1000 :
  Nat) ∧ (3 : Nat) ≤ (1000 : Nat) ∧ (∀ (l : List Int), List.Mem l (graphF [[((2 : Int), (2 : Int), (1 : Int) + v.tmod (100 : Int)), ((4 : Int), (0 : Int), (0 : Int)), ((1 : Int), (0 : Int), (0 : Int))], [((2 : Int), (0 : Int), (1 :
  Int) + w.tmod (100 : Int)), ((4 : Int), (0 : Int), (0 : Int)), ((1 : Int), (2 : Int), (0 : Int))]] []).snd.snd.fst → l.length ≤ (1000 : Nat)) ∧ (2 : Nat) ≤ (1000 : Nat)) ∧ bif !allowedG [[((2 : Int), (2 : Int), (1 : Int) + v.tmod
  (100 : Int)), ((4 : Int), (0 : Int), (0 : Int)), ((1 : Int), (0 : Int), (0 : Int))], [((2 : Int), (0 : Int), (1 : Int) + w.tmod (100 : Int)), ((4 : Int), (0 : Int), (0 : Int)), ((1 : Int), (2 : Int), (0 : Int))]] (gphE [[((2 :
  Int), (2 : Int), (1 : Int) + v.tmod (100 : Int)), ((4 : Int), (0 : Int), (0 : Int)), ((1 : Int), (0 : Int), (0 : Int))], [((2 : Int), (0 : Int), (1 : Int) + w.tmod (100 : Int)), ((4 : Int), (0 : Int), (0 : Int)), ((1 : Int), (2 :
  Int), (0 : Int))]] [(-1 : Int), (-1 : Int), (-1 : Int), (-1 : Int), (-1 : Int), (-1 : Int)], [(-1 : Int), (-1 : Int), (-1 : Int), (-1 : Int), (-1 : Int), (-1 : Int)], (graphF [[((2 : Int), (2 : Int), (1 : Int) + v.tmod (100 :
  Int)), ((4 : Int), (0 : Int), (0 : Int)), ((1 : Int), (0 : Int), (0 : Int))], [((2 : Int), (0 : Int), (1 : Int) + w.tmod (100 : Int)), ((4 : Int), (0 : Int), (0 : Int)), ((1 : Int), (2 : Int), (0 : Int))]] []).snd.snd.fst, [(4 :
  Int), (1 : Int)]) then (SoundF Proofs.Try.prog (30 : Nat) S30 ∧ validT [[((2 : Int), (2 : Int), (1 : Int) + v.tmod (100 : Int)), ((4 : Int), (0 : Int), (0 : Int)), ((1 : Int), (0 : Int), (0 : Int))], [((2 : Int), (0 : Int), (1 :
  Int) + w.tmod (100 : Int)), ((4 : Int), (0 : Int), (0 : Int)), ((1 : Int), (2 : Int), (0 : Int))]] = true ∧ (6 : Nat) = (6 : Nat) ∧ ∀ (i : Int), (0 : Int) ≤ i → i < (↑(6 : Nat) : Int) → rd (0 : Int) [(-1 : Int), (-1 : Int), (3 :
  Int), (-1 : Int), (-1 : Int), (-1 : Int)] i < (↑(6 : Nat) : Int)) ∧ (SoundF Proofs.Try.prog (18 : Nat) S18 ∧ ((2 : Nat) ≤ (1000 : Nat) ∧ ∀ (l : List (Int × Int × Int)), List.Mem l [[((2 : Int), (2 : Int), (1 : Int) + v.tmod (100 :
  Int)), ((4 : Int), (0 : Int), (0 : Int)), ((1 : Int), (0 : Int), (0 : Int))], [((2 : Int), (0 : Int), (1 : Int) + w.tmod (100 : Int)), ((4 : Int), (0 : Int), (0 : Int)), ((1 : Int), (2 : Int), (0 : Int))]] → l.length ≤ (1000 :
  Nat)) ∧ (6 : Nat) ≤ (1000 : Nat) ∧ (6 : Nat) ≤ (1000 : Nat) ∧ (3 : Nat) ≤ (1000 : Nat) ∧ (∀ (l : List Int), List.Mem l (graphF [[((2 : Int), (2 : Int), (1 : Int) + v.tmod (100 : Int)), ((4 : Int), (0 : Int), (0 : Int)), ((1 : Int),
  (0 : Int), (0 : Int))], [((2 : Int), (0 : Int), (1 : Int) + w.tmod (100 : Int)), ((4 : Int), (0 : Int), (0 : Int)), ((1 : Int), (2 : Int), (0 : Int))]] []).snd.snd.fst → l.length ≤ (1000 : Nat)) ∧ (2 : Nat) ≤ (1000 : Nat)) ∧
  (SoundF Proofs.Try.prog (30 : Nat) S30 ∧ validT [[((2 : Int), (2 : Int), (1 : Int) + v.tmod (100 : Int)), ((4 : Int), (0 : Int), (0 : Int)), ((1 : Int), (0 : Int), (0 : Int))], [((2 : Int), (0 : Int), (1 : Int) + w.tmod (100 :
  Int)), ((4 : Int), (0 : Int), (0 : Int)), ((1 : Int), (2 : Int), (0 : Int))]] = true ∧ (6 : Nat) = (6 : Nat) ∧ ∀ (i : Int), (0 : Int) ≤ i → i < (↑(6 : Nat) : Int) → rd (0 : Int) [(-1 : Int), (-1 : Int), (3 : Int), (-1 : Int), (-1 :
  Int), (-1 : Int)] i < (↑(6 : Nat) : Int)) ∧ (SoundF Proofs.Try.prog (18 : Nat) S18 ∧ ((2 : Nat) ≤ (1000 : Nat) ∧ ∀ (l : List (Int × Int × Int)), List.Mem l [[((2 : Int), (2 : Int), (1 : Int) + v.tmod (100 : Int)), ((4 : Int), (0 :
  Int), (0 : Int)), ((1 : Int), (0 : Int), (0 : Int))], [((2 : Int), (0 : Int), (1 : Int) + w.tmod (100 : Int)), ((4 : Int), (0 : Int), (0 : Int)), ((1 : Int), (2 : Int), (0 : Int))]] → l.length ≤ (1000 : Nat)) ∧ (6 : Nat) ≤ (1000 :
  Nat) ∧ (6 : Nat) ≤ (1000 : Nat) ∧ (3 : Nat) ≤ (1000 : Nat) ∧ (∀ (l : List Int), List.Mem l (graphF [[((2 : Int), (2 : Int), (1 : Int) + v.tmod (100 : Int)), ((4 : Int), (0 : Int), (0 : Int)), ((1 : Int), (0 : Int), (0 : Int))],
  [((2 : Int), (0 : Int), (1 : Int) + w.tmod (100 : Int)), ((4 : Int), (0 : Int), (0 : Int)), ((1 : Int), (2 : Int), (0 : Int))]] []).snd.snd.fst → l.length ≤ (1000 : Nat)) ∧ (2 : Nat) ≤ (1000 : Nat)) ∧ J !allowedG [[((2 : Int), (2 :
  Int), (1 : Int) + v.tmod (100 : Int)), ((4 : Int), (0 : Int), (0 : Int)), ((1 : Int), (0 : Int), (0 : Int))], [((2 : Int), (0 : Int), (1 : Int) + w.tmod (100 : Int)), ((4 : Int), (0 : Int), (0 : Int)), ((1 : Int), (2 : Int), (0 :
  Int))]] (gphE [[((2 : Int), (2 : Int), (1 : Int) + v.tmod (100 : Int)), ((4 : Int), (0 : Int), (0 : Int)), ((1 : Int), (0 : Int), (0 : Int))], [((2 : Int), (0 : Int), (1 : Int) + w.tmod (100 : Int)), ((4 : Int), (0 : Int), (0 :
  Int)), ((1 : Int), (2 : Int), (0 : Int))]] [(-1 : Int), (-1 : Int), (3 : Int), (-1 : Int), (-1 : Int), (-1 : Int)], [(-1 : Int), (-1 : Int), (3 : Int), (-1 : Int), (-1 : Int), (-1 : Int)], (graphF [[((2 : Int), (2 : Int), (1 : Int)
  + v.tmod (100 : Int)), ((4 : Int), (0 : Int), (0 : Int)), ((1 : Int), (0 : Int), (0 : Int))], [((2 : Int), (0 : Int), (1 : Int) + w.tmod (100 : Int)), ((4 : Int), (0 : Int), (0 : Int)), ((1 : Int), (2 : Int), (0 : Int))]]
  []).snd.snd.fst, [(4 : Int), (1 : Int)]) == allowedG [[((2 : Int), (2 : Int), (1 : Int) + v.tmod (100 : Int)), ((4 : Int), (0 : Int), (0 : Int)), ((1 : Int), (0 : Int), (0 : Int))], [((2 : Int), (0 : Int), (1 : Int) + w.tmod (100 :
  Int)), ((4 : Int), (0 : Int), (0 : Int)), ((1 : Int), (2 : Int), (0 : Int))]] (gphE [[((2 : Int), (2 : Int), (1 : Int) + v.tmod (100 : Int)), ((4 : Int), (0 : Int), (0 : Int)), ((1 : Int), (0 : Int), (0 : Int))], [((2 : Int), (0 :
  Int), (1 : Int) + w.tmod (100 : Int)), ((4 : Int), (0 : Int), (0 : Int)), ((1 : Int), (2 : Int), (0 : Int))]] [(-1 : Int), (-1 : Int), (3 : Int), (-1 : Int), (-1 : Int), (-1 : Int)], [(-1 : Int), (-1 : Int), (3 : Int), (-1 : Int),
  (-1 : Int), (-1 : Int)], (graphF [[((2 : Int), (2 : Int), (1 : Int) + v.tmod (100 : Int)), ((4 : Int), (0 : Int), (0 : Int)), ((1 : Int), (0 : Int), (0 : Int))], [((2 : Int), (0 : Int), (1 : Int) + w.tmod (100 : Int)), ((4 : Int),
  (0 : Int), (0 : Int)), ((1 : Int), (2 : Int), (0 : Int))]] []).snd.snd.fst, [(1 : Int), (4 : Int)]) else True ∧ J false else True ∧ True ∧ J false) ∧ ∀ (g : Bool), J g → g = true else (SoundF Proofs.Try.prog (27 : Nat) S27 ∧ True)
  ∧ (SoundF Proofs.Try.prog (27 : Nat) S27 ∧ True) ∧ (SoundF Proofs.Try.prog (28 : Nat) S28 ∧ True) ∧ (SoundF Proofs.Try.prog (28 : Nat) S28 ∧ True) ∧ (SoundF Proofs.Try.prog (27 : Nat) S27 ∧ True) ∧ (SoundF Proofs.Try.prog (29 :
  Nat) S29 ∧ True) ∧ (SoundF Proofs.Try.prog (27 : Nat) S27 ∧ True) ∧ (SoundF Proofs.Try.prog (28 : Nat) S28 ∧ True) ∧ (SoundF Proofs.Try.prog (29 : Nat) S29 ∧ True) ∧ (SoundF Proofs.Try.prog (28 : Nat) S28 ∧ True) ∧ ∃ (J : Bool →
  Prop), ((SoundF Proofs.Try.prog (30 : Nat) S30 ∧ validT [[((2 : Int), (0 : Int), (1 : Int) + v.tmod (100 : Int)), ((2 : Int), (2 : Int), (1 : Int) + w.tmod (100 : Int))], [((1 : Int), (2 : Int), (0 : Int)), ((1 : Int), (0 : Int),
  (0 : Int))]] = true ∧ (4 : Nat) = (4 : Nat) ∧ ∀ (i : Int), (0 : Int) ≤ i → i < (↑(4 : Nat) : Int) → rd (0 : Int) [(-1 : Int), (-1 : Int), (1 : Int), (-1 : Int)] i < (↑(4 : Nat) : Int)) ∧ (SoundF Proofs.Try.prog (18 : Nat) S18 ∧ ((2
  : Nat) ≤ (1000 : Nat) ∧ ∀ (l : List (Int × Int × Int)), List.Mem l [[((2 : Int), (0 : Int), (1 : Int) + v.tmod (100 : Int)), ((2 : Int), (2 : Int), (1 : Int) + w.tmod (100 : Int))], [((1 : Int), (2 : Int), (0 : Int)), ((1 : Int),
  (0 : Int), (0 : Int))]] → l.length ≤ (1000 : Nat)) ∧ (4 : Nat) ≤ (1000 : Nat) ∧ (4 : Nat) ≤ (1000 : Nat) ∧ (3 : Nat) ≤ (1000 : Nat) ∧ (∀ (l : List Int), List.Mem l (graphF [[((2 : Int), (0 : Int), (1 : Int) + v.tmod (100 : Int)),
  ((2 : Int), (2 : Int), (1 : Int) + w.tmod (100 : Int))], [((1 : Int), (2 : Int), (0 : Int)), ((1 : Int), (0 : Int), (0 : Int))]] []).snd.snd.fst → l.length ≤ (1000 : Nat)) ∧ (0 : Nat) ≤ (1000 : Nat)) ∧ bif !allowedG [[((2 : Int),
  (0 : Int), (1 : Int) + v.tmod (100 : Int)), ((2 : Int), (2 : Int), (1 : Int) + w.tmod (100 : Int))], [((1 : Int), (2 : Int), (0 : Int)), ((1 : Int), (0 : Int), (0 : Int))]] (gphE [[((2 : Int), (0 : Int), (1 : Int) + v.tmod (100 :
  Int)), ((2 : Int), (2 : Int), (1 : Int) + w.tmod (100 : Int))], [((1 : Int), (2 : Int), (0 : Int)), ((1 : Int), (0 : Int), (0 : Int))]] [(-1 : Int), (-1 : Int), (1 : Int), (-1 : Int)], [(-1 : Int), (-1 : Int), (1 : Int), (-1 :
  Int)], (graphF [[((2 : Int), (0 : Int), (1 : Int) + v.tmod (100 : Int)), ((2 : Int), (2 : Int), (1 : Int) + w.tmod (100 : Int))], [((1 : Int), (2 : Int), (0 : Int)), ((1 : Int), (0 : Int), (0 : Int))]] []).snd.snd.fst, []) then
  True ∧ True ∧ True ∧ True ∧ J true else (SoundF Proofs.Try.prog (30 : Nat) S30 ∧ validT [[((2 : Int), (0 : Int), (1 : Int) + v.tmod (100 : Int)), ((2 : Int), (2 : Int), (1 : Int) + w.tmod (100 : Int))], [((1 : Int), (2 : Int), (0 :
  Int)), ((1 : Int), (0 : Int), (0 : Int))]] = true ∧ (4 : Nat) = (4 : Nat) ∧ ∀ (i : Int), (0 : Int) ≤ i → i < (↑(4 : Nat) : Int) → rd (0 : Int) [(-1 : Int), (-1 : Int), (1 : Int), (0 : Int)] i < (↑(4 : Nat) : Int)) ∧ (SoundF
  Proofs.Try.prog (18 : Nat) S18 ∧ ((2 : Nat) ≤ (1000 : Nat) ∧ ∀ (l : List (Int × Int × Int)), List.Mem l [[((2 : Int), (0 : Int), (1 : Int) + v.tmod (100 : Int)), ((2 : Int), (2 : Int), (1 : Int) + w.tmod (100 : Int))], [((1 : Int),
  (2 : Int), (0 : Int)), ((1 : Int), (0 : Int), (0 : Int))]] → l.length ≤ (1000 : Nat)) ∧ (4 : Nat) ≤ (1000 : Nat) ∧ (4 : Nat) ≤ (1000 : Nat) ∧ (3 : Nat) ≤ (1000 : Nat) ∧ (∀ (l : List Int), List.Mem l (graphF [[((2 : Int), (0 : Int),
  (1 : Int) + v.tmod (100 : Int)), ((2 : Int), (2 : Int), (1 : Int) + w.tmod (100 : Int))], [((1 : Int), (2 : Int), (0 : Int)), ((1 : Int), (0 : Int), (0 : Int))]] []).snd.snd.fst → l.length ≤ (1000 : Nat)) ∧ (0 : Nat) ≤ (1000 :
  Nat)) ∧ bif !allowedG [[((2 : Int), (0 : Int), (1 : Int) + v.tmod (100 : Int)), ((2 : Int), (2 : Int), (1 : Int) + w.tmod (100 : Int))], [((1 : Int), (2 : Int), (0 : Int)), ((1 : Int), (0 : Int), (0 : Int))]] (gphE [[((2 : Int), (0
  : Int), (1 : Int) + v.tmod (100 : Int)), ((2 : Int), (2 : Int), (1 : Int) + w.tmod (100 : Int))], [((1 : Int), (2 : Int), (0 : Int)), ((1 : Int), (0 : Int), (0 : Int))]] [(-1 : Int), (-1 : Int), (1 : Int), (0 : Int)], [(-1 : Int),
  (-1 : Int), (1 : Int), (0 : Int)], (graphF [[((2 : Int), (0 : Int), (1 : Int) + v.tmod (100 : Int)), ((2 : Int), (2 : Int), (1 : Int) + w.tmod (100 : Int))], [((1 : Int), (2 : Int), (0 : Int)), ((1 : Int), (0 : Int), (0 : Int))]]
  []).snd.snd.fst, []) then True ∧ True ∧ True ∧ J true else (SoundF Proofs.Try.prog (30 : Nat) S30 ∧ validT [[((2 : Int), (0 : Int), (1 : Int) + v.tmod (100 : Int)), ((4 : Int), (0 : Int), (0 : Int)), ((2 : Int), (2 : Int), (1 :
  Int) + w.tmod (100 : Int))], [((1 : Int), (2 : Int), (0 : Int)), ((4 : Int), (0 : Int), (0 : Int)), ((1 : Int), (0 : Int), (0 : Int))]] = true ∧ (6 : Nat) = (6 : Nat) ∧ ∀ (i : Int), (0 : Int) ≤ i → i < (↑(6 : Nat) : Int) → rd (0 :
  Int) [(-1 : Int), (-1 : Int), (-1 : Int), (2 : Int), (-1 : Int), (-1 : Int)] i < (↑(6 : Nat) : Int)) ∧ (SoundF Proofs.Try.prog (18 : Nat) S18 ∧ ((2 : Nat) ≤ (1000 : Nat) ∧ ∀ (l : List (Int × Int × Int)), List.Mem l [[((2 : Int), (0
  : Int), (1 : Int) + v.tmod (100 : Int)), ((4 : Int), (0 : Int), (0 : Int)), ((2 : Int), (2 : Int), (1 : Int) + w.tmod (100 : Int))], [((1 : Int), (2 : Int), (0 : Int)), ((4 : Int), (0 : Int), (0 : Int)), ((1 : Int), (0 : Int), (0 :
  Int))]] → l.length ≤ (1000 : Nat)) ∧ (6 : Nat) ≤ (1000 : Nat) ∧ (6 : Nat) ≤ (1000 : Nat) ∧ (3 : Nat) ≤ (1000 : Nat) ∧ (∀ (l : List Int), List.Mem l (graphF [[((2 : Int), (0 : Int), (1 : Int) + v.tmod (100 : Int)), ((4 : Int), (0 :
  Int), (0 : Int)), ((2 : Int), (2 : Int), (1 : Int) + w.tmod (100 : Int))], [((1 : Int), (2 : Int), (0 : Int)), ((4 : Int), (0 : Int), (0 : Int)), ((1 : Int), (0 : Int), (0 : Int))]] []).snd.snd.fst → l.length ≤ (1000 : Nat)) ∧ (2 :
  Nat) ≤ (1000 : Nat)) ∧ bif allowedG [[((2 : Int), (0 : Int), (1 : Int) + v.tmod (100 : Int)), ((4 : Int), (0 : Int), (0 : Int)), ((2 : Int), (2 : Int), (1 : Int) + w.tmod (100 : Int))], [((1 : Int), (2 : Int), (0 : Int)), ((4 :
  Int), (0 : Int), (0 : Int)), ((1 : Int), (0 : Int), (0 : Int))]] (gphE [[((2 : Int), (0 : Int), (1 : Int) + v.tmod (100 : Int)), ((4 : Int), (0 : Int), (0 : Int)), ((2 : Int), (2 : Int), (1 : Int) + w.tmod (100 : Int))], [((1 :
  Int), (2 : Int), (0 : Int)), ((4 : Int), (0 : Int), (0 : Int)), ((1 : Int), (0 : Int), (0 : Int))]] [(-1 : Int), (-1 : Int), (-1 : Int), (2 : Int), (-1 : Int), (-1 : Int)], [(-1 : Int), (-1 : Int), (-1 : Int), (2 : Int), (-1 :
  Int), (-1 : Int)], (graphF [[((2 : Int), (0 : Int), (1 : Int) + v.tmod (100 : Int)), ((4 : Int), (0 : Int), (0 : Int)), ((2 : Int), (2 : Int), (1 : Int) + w.tmod (100 : Int))], [((1 : Int), (2 : Int), (0 : Int)), ((4 : Int), (0 :
  Int), (0 : Int)), ((1 : Int), (0 : Int), (0 : Int))]] []).snd.snd.fst, [(1 : Int), (4 : Int)]) then True ∧ True ∧ J true else (SoundF Proofs.Try.prog (30 : Nat) S30 ∧ validT [[((2 : Int), (0 : Int), (1 : Int) + v.tmod (100 : Int)),
  ((4 : Int), (0 : Int), (0 : Int)), ((2 : Int), (2 : Int), (1 : Int) + w.tmod (100 : Int))], [((1 : Int), (2 : Int), (0 : Int)), ((4 : Int), (0 : Int), (0 : Int)), ((1 : Int), (0 : Int), (0 : Int))]] = true ∧ (6 : Nat) = (6 : Nat) ∧
  ∀ (i : Int), (0 : Int) ≤ i → i < (↑(6 : Nat) : Int) → rd (0 : Int) [(-1 : Int), (-1 : Int), (-1 : Int), (2 : Int), (-1 : Int), (-1 : Int)] i < (↑(6 : Nat) : Int)) ∧ (SoundF Proofs.Try.prog (18 : Nat) S18 ∧ ((2 : Nat) ≤ (1000 : Nat)
  ∧ ∀ (l : List (Int × Int × Int)), List.Mem l [[((2 : Int), (0 : Int), (1 : Int) + v.tmod (100 : Int)), ((4 : Int), (0 : Int), (0 : Int)), ((2 : Int), (2 : Int), (1 : Int) + w.tmod (100 : Int))], [((1 : Int), (2 : Int), (0 : Int)),
  ((4 : Int), (0 : Int), (0 : Int)), ((1 : Int), (0 : Int), (0 : Int))]] → l.length ≤ (1000 : Nat)) ∧ (6 : Nat) ≤ (1000 : Nat) ∧ (6 : Nat) ≤ (1000 : Nat) ∧ (3 : Nat) ≤ (1000 : Nat) ∧ (∀ (l : List Int), List.Mem l (graphF [[((2 :
  Int), (0 : Int), (1 : Int) + v.tmod (100 : Int)), ((4 : Int), (0 : Int), (0 : Int)), ((2 : Int), (2 : Int), (1 : Int) + w.tmod (100 : Int))], [((1 : Int), (2 : Int), (0 : Int)), ((4 : Int), (0 : Int), (0 : Int)), ((1 : Int), (0 :
  Int), (0 : Int))]] []).snd.snd.fst → l.length ≤ (1000 : Nat)) ∧ (2 : Nat) ≤ (1000 : Nat)) ∧ bif allowedG [[((2 : Int), (0 : Int), (1 : Int) + v.tmod (100 : Int)), ((4 : Int), (0 : Int), (0 : Int)), ((2 : Int), (2 : Int), (1 : Int)
  + w.tmod (100 : Int))], [((1 : Int), (2 : Int), (0 : Int)), ((4 : Int), (0 : Int), (0 : Int)), ((1 : Int), (0 : Int), (0 : Int))]] (gphE [[((2 : Int), (0 : Int), (1 : Int) + v.tmod (100 : Int)), ((4 : Int), (0 : Int), (0 : Int)),
  ((2 : Int), (2 : Int), (1 : Int) + w.tmod (100 : Int))], [((1 : Int), (2 : Int), (0 : Int)), ((4 : Int), (0 : Int), (0 : Int)), ((1 : Int), (0 : Int), (0 : Int))]] [(-1 : Int), (-1 : Int), (-1 : Int), (2 : Int), (-1 : Int), (-1 :
  Int)], [(-1 : Int), (-1 : Int), (-1 : Int), (2 : Int), (-1 : Int), (-1 : Int)], (graphF [[((2 : Int), (0 : Int), (1 : Int) + v.tmod (100 : Int)), ((4 : Int), (0 : Int), (0 : Int)), ((2 : Int), (2 : Int), (1 : Int) + w.tmod (100 :
  Int))], [((1 : Int), (2 : Int), (0 : Int)), ((4 : Int), (0 : Int), (0 : Int)), ((1 : Int), (0 : Int), (0 : Int))]] []).snd.snd.fst, [(4 : Int), (1 : Int)]) then True ∧ J true else (SoundF Proofs.Try.prog (30 : Nat) S30 ∧ validT
  [[((2 : Int), (0 : Int), (1 : Int) + v.tmod (100 : Int)), ((4 : Int), (0 : Int), (0 : Int)), ((2 : Int), (2 : Int), (1 : Int) + w.tmod (100 : Int))], [((1 : Int), (2 : Int), (0 : Int)), ((4 : Int), (0 : Int), (0 : Int)), ((1 :
  Int), (0 : Int), (0 : Int))]] = true ∧ (6 : Nat) = (6 : Nat) ∧ ∀ (i : Int), (0 : Int) ≤ i → i < (↑(6 : Nat) : Int) → rd (0 : Int) [(-1 : Int), (-1 : Int), (-1 : Int), (2 : Int), (-1 : Int), (0 : Int)] i < (↑(6 : Nat) : Int)) ∧
  (SoundF Proofs.Try.prog (18 : Nat) S18 ∧ ((2 : Nat) ≤ (1000 : Nat) ∧ ∀ (l : List (Int × Int × Int)), List.Mem l [[((2 : Int), (0 : Int), (1 : Int) + v.tmod (100 : Int)), ((4 : Int), (0 : Int), (0 : Int)), ((2 : Int), (2 : Int), (1
  : Int) + w.tmod (100 : Int))], [((1 : Int), (2 : Int), (0 : Int)), ((4 : Int), (0 : Int), (0 : Int)), ((1 : Int), (0 : Int), (0 : Int))]] → l.length ≤ (1000 : Nat)) ∧ (6 : Nat) ≤ (1000 : Nat) ∧ (6 : Nat) ≤ (1000 : Nat) ∧ (3 : Nat)
  ≤ (1000 : Nat) ∧ (∀ (l : List Int), List.Mem l (graphF [[((2 : Int), (0 : Int), (1 : Int) + v.tmod (100 : Int)), ((4 : Int), (0 : Int), (0 : Int)), ((2 : Int), (2 : Int), (1 : Int) + w.tmod (100 : Int))], [((1 : Int), (2 : Int), (0
  : Int)), ((4 : Int), (0 : Int), (0 : Int)), ((1 : Int), (0 : Int), (0 : Int))]] []).snd.snd.fst → l.length ≤ (1000 : Nat)) ∧ (2 : Nat) ≤ (1000 : Nat)) ∧ J !allowedG [[((2 : Int), (0 : Int), (1 : Int) + v.tmod (100 : Int)), ((4 :
  Int), (0 : Int), (0 : Int)), ((2 : Int), (2 : Int), (1 : Int) + w.tmod (100 : Int))], [((1 : Int), (2 : Int), (0 : Int)), ((4 : Int), (0 : Int), (0 : Int)), ((1 : Int), (0 : Int), (0 : Int))]] (gphE [[((2 : Int), (0 : Int), (1 :
  Int) + v.tmod (100 : Int)), ((4 : Int), (0 : Int), (0 : Int)), ((2 : Int), (2 : Int), (1 : Int) + w.tmod (100 : Int))], [((1 : Int), (2 : Int), (0 : Int)), ((4 : Int), (0 : Int), (0 : Int)), ((1 : Int), (0 : Int), (0 : Int))]] [(-1
  : Int), (-1 : Int), (-1 : Int), (2 : Int), (-1 : Int), (0 : Int)], [(-1 : Int), (-1 : Int), (-1 : Int), (2 : Int), (-1 : Int), (0 : Int)], (graphF [[((2 : Int), (0 : Int), (1 : Int) + v.tmod (100 : Int)), ((4 : Int), (0 : Int), (0
  : Int)), ((2 : Int), (2 : Int), (1 : Int) + w.tmod (100 : Int))], [((1 : Int), (2 : Int), (0 : Int)), ((4 : Int), (0 : Int), (0 : Int)), ((1 : Int), (0 : Int), (0 : Int))]] []).snd.snd.fst, [(1 : Int), (4 : Int)])) ∧ ∀ (g : Bool),
  J g → bif g then false = true else (SoundF Proofs.Try.prog (27 : Nat) S27 ∧ True) ∧ (SoundF Proofs.Try.prog (29 : Nat) S29 ∧ True) ∧ (SoundF Proofs.Try.prog (28 : Nat) S28 ∧ True) ∧ (SoundF Proofs.Try.prog (27 : Nat) S27 ∧ True) ∧
  (SoundF Proofs.Try.prog (29 : Nat) S29 ∧ True) ∧ (SoundF Proofs.Try.prog (28 : Nat) S28 ∧ True) ∧ ∃ (J : Bool → Prop), ((SoundF Proofs.Try.prog (30 : Nat) S30 ∧ validT [[((2 : Int), (0 : Int), (1 : Int) + v.tmod (100 : Int)), ((4 :
  Int), (0 : Int), (0 : Int)), ((1 : Int), (2 : Int), (0 : Int))], [((2 : Int), (2 : Int), (1 : Int) + w.tmod (100 : Int)), ((4 : Int), (0 : Int), (0 : Int)), ((1 : Int), (0 : Int), (0 : Int))]] = true ∧ (6 : Nat) = (6 : Nat) ∧ ∀ (i
  : Int), (0 : Int) ≤ i → i < (↑(6 : Nat) : Int) → rd (0 : Int) [(-1 : Int), (-1 : Int), (-1 : Int), (-1 : Int), (-1 : Int), (-1 : Int)] i < (↑(6 : Nat) : Int)) ∧ (SoundF Proofs.Try.prog (18 : Nat) S18 ∧ ((2 : Nat) ≤ (1000 : Nat) ∧ ∀
  (l : List (Int × Int × Int)), List.Mem l [[((2 : Int), (0 : Int), (1 : Int) + v.tmod (100 : Int)), ((4 : Int), (0 : Int), (0 : Int)), ((1 : Int), (2 : Int), (0 : Int))], [((2 : Int), (2 : Int), (1 : Int) + w.tmod (100 : Int)), ((4
  : Int), (0 : Int), (0 : Int)), ((1 : Int), (0 : Int), (0 : Int))]] → l.length ≤ (1000 : Nat)) ∧ (6 : Nat) ≤ (1000 : Nat) ∧ (6 : Nat) ≤ (1000 : Nat) ∧ (3 : Nat) ≤ (1000 : Nat) ∧ (∀ (l : List Int), List.Mem l (graphF [[((2 : Int), (0
  : Int), (1 : Int) + v.tmod (100 : Int)), ((4 : Int), (0 : Int), (0 : Int)), ((1 : Int), (2 : Int), (0 : Int))], [((2 : Int), (2 : Int), (1 : Int) + w.tmod (100 : Int)), ((4 : Int), (0 : Int), (0 : Int)), ((1 : Int), (0 : Int), (0 :
  Int))]] []).snd.snd.fst → l.length ≤ (1000 : Nat)) ∧ (2 : Nat) ≤ (1000 : Nat)) ∧ bif !allowedG [[((2 : Int), (0 : Int), (1 : Int) + v.tmod (100 : Int)), ((4 : Int), (0 : Int), (0 : Int)), ((1 : Int), (2 : Int), (0 : Int))], [((2 :
  Int), (2 : Int), (1 : Int) + w.tmod (100 : Int)), ((4 : Int), (0 : Int), (0 : Int)), ((1 : Int), (0 : Int), (0 : Int))]] (gphE [[((2 : Int), (0 : Int), (1 : Int) + v.tmod (100 : Int)), ((4 : Int), (0 : Int), (0 : Int)), ((1 : Int),
  (2 : Int), (0 : Int))], [((2 : Int), (2 : Int), (1 : Int) + w.tmod (100 : Int)), ((4 : Int), (0 : Int), (0 : Int)), ((1 : Int), (0 : Int), (0 : Int))]] [(-1 : Int), (-1 : Int), (-1 : Int), (-1 : Int), (-1 : Int), (-1 : Int)], [(-1
  : Int), (-1 : Int), (-1 : Int), (-1 : Int), (-1 : Int), (-1 : Int)], (graphF [[((2 : Int), (0 : Int), (1 : Int) + v.tmod (100 : Int)), ((4 : Int), (0 : Int), (0 : Int)), ((1 : Int), (2 : Int), (0 : Int))], [((2 : Int), (2 : Int),
  (1 : Int) + w.tmod (100 : Int)), ((4 : Int), (0 : Int), (0 : Int)), ((1 : Int), (0 : Int), (0 : Int))]] []).snd.snd.fst, [(1 : Int), (4 : Int)]) then (SoundF Proofs.Try.prog (30 : Nat) S30 ∧ validT [[((2 : Int), (0 : Int), (1 :
  Int) + v.tmod (100 : Int)), ((4 : Int), (0 : Int), (0 : Int)), ((1 : Int), (2 : Int), (0 : Int))], [((2 : Int), (2 : Int), (1 : Int) + w.tmod (100 : Int)), ((4 : Int), (0 : Int), (0 : Int)), ((1 : Int), (0 : Int), (0 : Int))]] =
  true ∧ (6 : Nat) = (6 : Nat) ∧ ∀ (i : Int), (0 : Int) ≤ i → i < (↑(6 : Nat) : Int) → rd (0 : Int) [(-1 : Int), (-1 : Int), (-1 : Int), (-1 : Int), (-1 : Int), (-1 : Int)] i < (↑(6 : Nat) : Int)) ∧ (SoundF Proofs.Try.prog (18 : Nat)
  S18 ∧ ((2 : Nat) ≤ (1000 : Nat) ∧ ∀ (l : List (Int × Int × Int)), List.Mem l [[((2 : Int), (0 : Int), (1 : Int) + v.tmod (100 : Int)), ((4 : Int), (0 : Int), (0 : Int)), ((1 : Int), (2 : Int), (0 : Int))], [((2 : Int), (2 : Int),
  (1 : Int) + w.tmod (100 : Int)), ((4 : Int), (0 : Int), (0 : Int)), ((1 : Int), (0 : Int), (0 : Int))]] → l.length ≤ (1000 : Nat)) ∧ (6 : Nat) ≤ (1000 : Nat) ∧ (6 : Nat) ≤ (1000 : Nat) ∧ (3 : Nat) ≤ (1000 : Nat) ∧ (∀ (l : List
  Int), List.Mem l (graphF [[((2 : Int), (0 : Int), (1 : Int) + v.tmod (100 : Int)), ((4 : Int), (0 : Int), (0 : Int)), ((1 : Int), (2 : Int), (0 : Int))], [((2 : Int), (2 : Int), (1 : Int) + w.tmod (100 : Int)), ((4 : Int), (0 :
  Int), (0 : Int)), ((1 : Int), (0 : Int), (0 : Int))]] []).snd.snd.fst → l.length ≤ (1000 : Nat)) ∧ (2 : Nat) ≤ (1000 : Nat)) ∧ bif !allowedG [[((2 : Int), (0 : Int), (1 : Int) + v.tmod (100 : Int)), ((4 : Int), (0 : Int), (0 :
  Int)), ((1 : Int), (2 : Int), (0 : Int))], [((2 : Int), (2 : Int), (1 : Int) + w.tmod (100 : Int)), ((4 : Int), (0 : Int), (0 : Int)), ((1 : Int), (0 : Int), (0 : Int))]] (gphE [[((2 : Int), (0 : Int), (1 : Int) + v.tmod (100 :
  Int)), ((4 : Int), (0 : Int), (0 : Int)), ((1 : Int), (2 : Int), (0 : Int))], [((2 : Int), (2 : Int), (1 : Int) + w.tmod (100 : Int)), ((4 : Int), (0 : Int), (0 : Int)), ((1 : Int), (0 : Int), (0 : Int))]] [(-1 : Int), (-1 : Int),
  (-1 : Int), (-1 : Int), (-1 : Int), (-1 : Int)], [(-1 : Int), (-1 : Int), (-1 : Int), (-1 : Int), (-1 : Int), (-1 : Int)], (graphF [[((2 : Int), (0 : Int), (1 : Int) + v.tmod (100 : Int)), ((4 : Int), (0 : Int), (0 : Int)), ((1 :
  Int), (2 : Int), (0 : Int))], [((2 : Int), (2 : Int), (1 : Int) + w.tmod (100 : Int)), ((4 : Int), (0 : Int), (0 : Int)), ((1 : Int), (0 : Int), (0 : Int))]] []).snd.snd.fst, [(4 : Int), (1 : Int)]) then (SoundF Proofs.Try.prog (30
  : Nat) S30 ∧ validT [[((2 : Int), (0 : Int), (1 : Int) + v.tmod (100 : Int)), ((4 : Int), (0 : Int), (0 : Int)), ((1 : Int), (2 : Int), (0 : Int))], [((2 : Int), (2 : Int), (1 : Int) + w.tmod (100 : Int)), ((4 : Int), (0 : Int), (0
  : Int)), ((1 : Int), (0 : Int), (0 : Int))]] = true ∧ (6 : Nat) = (6 : Nat) ∧ ∀ (i : Int), (0 : Int) ≤ i → i < (↑(6 : Nat) : Int) → rd (0 : Int) [(-1 : Int), (-1 : Int), (3 : Int), (-1 : Int), (-1 : Int), (-1 : Int)] i < (↑(6 :
  Nat) : Int)) ∧ (SoundF Proofs.Try.prog (18 : Nat) S18 ∧ ((2 : Nat) ≤ (1000 : Nat) ∧ ∀ (l : List (Int × Int × Int)), List.Mem l [[((2 : Int), (0 : Int), (1 : Int) + v.tmod (100 : Int)), ((4 : Int), (0 : Int), (0 : Int)), ((1 : Int),
  (2 : Int), (0 : Int))], [((2 : Int), (2 : Int), (1 : Int) + w.tmod (100 : Int)), ((4 : Int), (0 : Int), (0 : Int)), ((1 : Int), (0 : Int), (0 : Int))]] → l.length ≤ (1000 : Nat)) ∧ (6 : Nat) ≤ (1000 : Nat) ∧ (6 : Nat) ≤ (1000 :
  Nat) ∧ (3 : Nat) ≤ (1000 : Nat) ∧ (∀ (l : List Int), List.Mem l (graphF [[((2 : Int), (0 : Int), (1 : Int) + v.tmod (100 : Int)), ((4 : Int), (0 : Int), (0 : Int)), ((1 : Int), (2 : Int), (0 : Int))], [((2 : Int), (2 : Int), (1 :
  Int) + w.tmod (100 : Int)), ((4 : Int), (0 : Int), (0 : Int)), ((1 : Int), (0 : Int), (0 : Int))]] []).snd.snd.fst → l.length ≤ (1000 : Nat)) ∧ (2 : Nat) ≤ (1000 : Nat)) ∧ (SoundF Proofs.Try.prog (30 : Nat) S30 ∧ validT [[((2 :
  Int), (0 : Int), (1 : Int) + v.tmod (100 : Int)), ((4 : Int), (0 : Int), (0 : Int)), ((1 : Int), (2 : Int), (0 : Int))], [((2 : Int), (2 : Int), (1 : Int) + w.tmod (100 : Int)), ((4 : Int), (0 : Int), (0 : Int)), ((1 : Int), (0 :
  Int), (0 : Int))]] = true ∧ (6 : Nat) = (6 : Nat) ∧ ∀ (i : Int), (0 : Int) ≤ i → i < (↑(6 : Nat) : Int) → rd (0 : Int) [(-1 : Int), (-1 : Int), (3 : Int), (-1 : Int), (-1 : Int), (-1 : Int)] i < (↑(6 : Nat) : Int)) ∧ (SoundF
  Proofs.Try.prog (18 : Nat) S18 ∧ ((2 : Nat) ≤ (1000 : Nat) ∧ ∀ (l : List (Int × Int × Int)), List.Mem l [[((2 : Int), (0 : Int), (1 : Int) + v.tmod (100 : Int)), ((4 : Int), (0 : Int), (0 : Int)), ((1 : Int), (2 : Int), (0 :
  Int))], [((2 : Int), (2 : Int), (1 : Int) + w.tmod (100 : Int)), ((4 : Int), (0 : Int), (0 : Int)), ((1 : Int), (0 : Int), (0 : Int))]] → l.length ≤ (1000 : Nat)) ∧ (6 : Nat) ≤ (1000 : Nat) ∧ (6 : Nat) ≤ (1000 : Nat) ∧ (3 : Nat) ≤
  (1000 : Nat) ∧ (∀ (l : List Int), List.Mem l (graphF [[((2 : Int), (0 : Int), (1 : Int) + v.tmod (100 : Int)), ((4 : Int), (0 : Int), (0 : Int)), ((1 : Int), (2 : Int), (0 : Int))], [((2 : Int), (2 : Int), (1 : Int) + w.tmod (100 :
  Int)), ((4 : Int), (0 : Int), (0 : Int)), ((1 : Int), (0 : Int), (0 : Int))]] []).snd.snd.fst → l.length ≤ (1000 : Nat)) ∧ (2 : Nat) ≤ (1000 : Nat)) ∧ J !allowedG [[((2 : Int), (0 : Int), (1 : Int) + v.tmod (100 : Int)), ((4 :
  Int), (0 : Int), (0 : Int)), ((1 : Int), (2 : Int), (0 : Int))], [((2 : Int), (2 : Int), (1 : Int) + w.tmod (100 : Int)), ((4 : Int), (0 : Int), (0 : Int)), ((1 : Int), (0 : Int), (0 : Int))]] (gphE [[((2 : Int), (0 : Int), (1 :
  Int) + v.tmod (100 : Int)), ((4 : Int), (0 : Int), (0 : Int)), ((1 : Int), (2 : Int), (0 : Int))], [((2 : Int), (2 : Int), (1 : Int) + w.tmod (100 : Int)), ((4 : Int), (0 : Int), (0 : Int)), ((1 : Int), (0 : Int), (0 : Int))]] [(-1
  : Int), (-1 : Int), (3 : Int), (-1 : Int), (-1 : Int), (-1 : Int)], [(-1 : Int), (-1 : Int), (3 : Int), (-1 : Int), (-1 : Int), (-1 : Int)], (graphF [[((2 : Int), (0 : Int), (1 : Int) + v.tmod (100 : Int)), ((4 : Int), (0 : Int),
  (0 : Int)), ((1 : Int), (2 : Int), (0 : Int))], [((2 : Int), (2 : Int), (1 : Int) + w.tmod (100 : Int)), ((4 : Int), (0 : Int), (0 : Int)), ((1 : Int), (0 : Int), (0 : Int))]] []).snd.snd.fst, [(4 : Int), (1 : Int)]) == allowedG
  [[((2 : Int), (0 : Int), (1 : Int) + v.tmod (100 : Int)), ((4 : Int), (0 : Int), (0 : Int)), ((1 : Int), (2 : Int), (0 : Int))], [((2 : Int), (2 : Int), (1 : Int) + w.tmod (100 : Int)), ((4 : Int), (0 : Int), (0 : Int)), ((1 :
  Int), (0 : Int), (0 : Int))]] (gphE [[((2 : Int), (0 : Int), (1 : Int) + v.tmod (100 : Int)), ((4 : Int), (0 : Int), (0 : Int)), ((1 : Int), (2 : Int), (0 : Int))], [((2 : Int), (2 : Int), (1 : Int) + w.tmod (100 : Int)), ((4 :
  Int), (0 : Int), (0 : Int)), ((1 : Int), (0 : Int), (0 : Int))]] [(-1 : Int), (-1 : Int), (3 : Int), (-1 : Int), (-1 : Int), (-1 : Int)], [(-1 : Int), (-1 : Int), (3 : Int), (-1 : Int), (-1 : Int), (-1 : Int)], (graphF [[((2 :
  Int), (0 : Int), (1 : Int) + v.tmod (100 : Int)), ((4 : Int), (0 : Int), (0 : Int)), ((1 : Int), (2 : Int), (0 : Int))], [((2 : Int), (2 : Int), (1 : Int) + w.tmod (100 : Int)), ((4 : Int), (0 : Int), (0 : Int)), ((1 : Int), (0 :
  Int), (0 : Int))]] []).snd.snd.fst, [(1 : Int), (4 : Int)]) else True ∧ J false else True ∧ True ∧ J false) ∧ ∀ (g : Bool), J g → g = true := by
  rintro v w s ⟨hv, hw⟩
  have ev : v.tmod 100 = v % 100 := Int.tmod_eq_emod_of_nonneg hv.1
  have ew : w.tmod 100 = w % 100 := Int.tmod_eq_emod_of_nonneg hw.1
  simp only [ev, ew]
  refine ⟨⟨f10_sound, trivial⟩, by omega, by omega, by omega, by omega, by omega, by omega, ?_⟩
  have ha : 1 ≤ 1 + v % 100 ∧ 1 + v % 100 ≤ 100 := by omega
  have hb : 1 ≤ 1 + w % 100 ∧ 1 + w % 100 ≤ 100 := by omega
  generalize 1 + v % 100 = a at ha ⊢
  generalize 1 + w % 100 = b at hb ⊢
  refine condI (fun _ => ?_) (fun _ => ?_)
  · have F := facts20 ha hb
    obtain ⟨vl, vt, vr, A1, A2, A3, A4, A5, R1, R2, O1, O2⟩ := F
    have sl := valid_small vl
    have st := valid_small vt
    have sr := valid_small vr
    have ml := graph_mo vl nilB
    have mt := graph_mo vt nilB
    have mr := graph_mo vr nilB
    unfold gph at A1 A2 A3 A4 A5 R1 R2 O1 O2
    unfold loose at vl sl ml A1 A2
    unfold tight at vt st mt A3 A4 A5
    unfold ring at vr sr mr R1 R2 O1 O2
    refine ⟨⟨f27_sound, trivial⟩, ⟨f27_sound, trivial⟩, ⟨f28_sound, trivial⟩, ⟨f28_sound, trivial⟩, ⟨f27_sound, trivial⟩, ⟨f29_sound, trivial⟩, ⟨f27_sound, trivial⟩, ⟨f28_sound, trivial⟩, ⟨f29_sound, trivial⟩, ⟨f28_sound, trivial⟩, fun q => q = false, ?_, ?_⟩
    · refine ⟨⟨f30_sound, vl, by trivial, fun i _ _ => rd_lt_all (by decide) (by decide) i⟩, ⟨f18_sound, sl, by decide, by decide, by decide, ml, by decide⟩, condI (fun h => by rw [A1] at h; cases h) fun _ => ⟨⟨f30_sound, vl, by trivial, fun i _ _ => rd_lt_all (by decide) (by decide) i⟩, ⟨f18_sound, sl, by decide, by decide, by decide, ml, by decide⟩, condI (fun h => by rw [A2] at h; cases h) fun _ => ⟨⟨f30_sound, vt, by trivial, fun i _ _ => rd_lt_all (by decide) (by decide) i⟩, ⟨f18_sound, st, by decide, by decide, by decide, mt, by decide⟩, condI (fun h => by rw [A3] at h; cases h) fun _ => ⟨⟨f30_sound, vt, by trivial, fun i _ _ => rd_lt_all (by decide) (by decide) i⟩, ⟨f18_sound, st, by decide, by decide, by decide, mt, by decide⟩, condI (fun h => by rw [A4] at h; cases h) fun _ => ⟨⟨f30_sound, vt, by trivial, fun i _ _ => rd_lt_all (by decide) (by decide) i⟩, ⟨f18_sound, st, by decide, by decide, by decide, mt, by decide⟩, ?_⟩⟩⟩⟩⟩
      dsimp only
      rw [A5]; rfl
    intro q hq
    refine condI (fun h => by rw [hq] at h; cases h) (fun _ => ⟨⟨f27_sound, trivial⟩, ⟨f29_sound, trivial⟩, ⟨f28_sound, trivial⟩, ⟨f27_sound, trivial⟩, ⟨f29_sound, trivial⟩, ⟨f28_sound, trivial⟩, fun q => q = true, ?_, fun q hq => hq⟩)
    refine ⟨⟨f30_sound, vr, by trivial, fun i _ _ => rd_lt_all (by decide) (by decide) i⟩, ⟨f18_sound, sr, by decide, by decide, by decide, mr, by decide⟩, condI (fun _ => ⟨⟨f30_sound, vr, by trivial, fun i _ _ => rd_lt_all (by decide) (by decide) i⟩, ⟨f18_sound, sr, by decide, by decide, by decide, mr, by decide⟩, condI (fun _ => ⟨⟨f30_sound, vr, by trivial, fun i _ _ => rd_lt_all (by decide) (by decide) i⟩, ⟨f18_sound, sr, by decide, by decide, by decide, mr, by decide⟩, ⟨f30_sound, vr, by trivial, fun i _ _ => rd_lt_all (by decide) (by decide) i⟩, ⟨f18_sound, sr, by decide, by decide, by decide, mr, by decide⟩, ?_⟩) (fun h => by rw [R2] at h; cases h)⟩) (fun h => by rw [R1] at h; cases h)⟩
    dsimp only
    rw [O1, O2]; rfl
  · have F := facts02 ha hb
    obtain ⟨vl, vt, vr, A1, A2, A3, A4, A5, R1, R2, O1, O2⟩ := F
    have sl := valid_small vl
    have st := valid_small vt
    have sr := valid_small vr
    have ml := graph_mo vl nilB
    have mt := graph_mo vt nilB
    have mr := graph_mo vr nilB
    unfold gph at A1 A2 A3 A4 A5 R1 R2 O1 O2
    unfold loose at vl sl ml A1 A2
    unfold tight at vt st mt A3 A4 A5
    unfold ring at vr sr mr R1 R2 O1 O2
    refine ⟨⟨f27_sound, trivial⟩, ⟨f27_sound, trivial⟩, ⟨f28_sound, trivial⟩, ⟨f28_sound, trivial⟩, ⟨f27_sound, trivial⟩, ⟨f29_sound, trivial⟩, ⟨f27_sound, trivial⟩, ⟨f28_sound, trivial⟩, ⟨f29_sound, trivial⟩, ⟨f28_sound, trivial⟩, fun q => q = false, ?_, ?_⟩
    · refine ⟨⟨f30_sound, vl, by trivial, fun i _ _ => rd_lt_all (by decide) (by decide) i⟩, ⟨f18_sound, sl, by decide, by decide, by decide, ml, by decide⟩, condI (fun h => by rw [A1] at h; cases h) fun _ => ⟨⟨f30_sound, vl, by trivial, fun i _ _ => rd_lt_all (by decide) (by decide) i⟩, ⟨f18_sound, sl, by decide, by decide, by decide, ml, by decide⟩, condI (fun h => by rw [A2] at h; cases h) fun _ => ⟨⟨f30_sound, vt, by trivial, fun i _ _ => rd_lt_all (by decide) (by decide) i⟩, ⟨f18_sound, st, by decide, by decide, by decide, mt, by decide⟩, condI (fun h => by rw [A3] at h; cases h) fun _ => ⟨⟨f30_sound, vt, by trivial, fun i _ _ => rd_lt_all (by decide) (by decide) i⟩, ⟨f18_sound, st, by decide, by decide, by decide, mt, by decide⟩, condI (fun h => by rw [A4] at h; cases h) fun _ => ⟨⟨f30_sound, vt, by trivial, fun i _ _ => rd_lt_all (by decide) (by decide) i⟩, ⟨f18_sound, st, by decide, by decide, by decide, mt, by decide⟩, ?_⟩⟩⟩⟩⟩
      dsimp only
      rw [A5]; rfl
    intro q hq
    refine condI (fun h => by rw [hq] at h; cases h) (fun _ => ⟨⟨f27_sound, trivial⟩, ⟨f29_sound, trivial⟩, ⟨f28_sound, trivial⟩, ⟨f27_sound, trivial⟩, ⟨f29_sound, trivial⟩, ⟨f28_sound, trivial⟩, fun q => q = true, ?_, fun q hq => hq⟩)
    refine ⟨⟨f30_sound, vr, by trivial, fun i _ _ => rd_lt_all (by decide) (by decide) i⟩, ⟨f18_sound, sr, by decide, by decide, by decide, mr, by decide⟩, condI (fun _ => ⟨⟨f30_sound, vr, by trivial, fun i _ _ => rd_lt_all (by decide) (by decide) i⟩, ⟨f18_sound, sr, by decide, by decide, by decide, mr, by decide⟩, condI (fun _ => ⟨⟨f30_sound, vr, by trivial, fun i _ _ => rd_lt_all (by decide) (by decide) i⟩, ⟨f18_sound, sr, by decide, by decide, by decide, mr, by decide⟩, ⟨f30_sound, vr, by trivial, fun i _ _ => rd_lt_all (by decide) (by decide) i⟩, ⟨f18_sound, sr, by decide, by decide, by decide, mr, by decide⟩, ?_⟩) (fun h => by rw [R2] at h; cases h)⟩) (fun h => by rw [R1] at h; cases h)⟩
    dsimp only
    rw [O1, O2]; rfl
theorem f9_fun : FunOk Go.Proofs.Try.prog A9 Go.Proofs.Try.f9 S9 := ⟨by
  intro a b h
  have h1 := f9_vc (a.1) (a.2.1) (a.2.2.1) h
  apply eqmp h1
  kernel_rfl⟩
theorem f9_sound : SoundF Go.Proofs.Try.prog 9 S9 := sound_of f9_fun (by kernel_rfl) (by kernel_rfl) (by kernel_rfl)
end L31

