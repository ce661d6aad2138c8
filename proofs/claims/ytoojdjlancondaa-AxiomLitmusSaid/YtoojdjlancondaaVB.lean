/- A logic for the states of a running function, proved sound over the model: no condition. -/
import Derived.Test.YtoojdjlancondaaVA
import Derived.Laws.StructEq
set_option linter.unusedVariables false
set_option linter.unusedSimpArgs false
set_option linter.unusedSectionVars false
set_option linter.all false
/- The program logic V, part 20: a call of a function of the program. -/
namespace Go.V
section
variable {P : Program} {w0 : World} {U : Anc} {N : Nat} {E : Env} {S : St} {a : Act} {w : World}

def coCs (m : Nat) (leak : Bool) (ρ : Nat → Nat) (inv : Nat → Option Nat) (τ : Nat → Tk) : List C → List C → Option Prop
  | [], [] => some True
  | f :: fs, c :: cs => match coC m leak ρ inv τ f c, coCs m leak ρ inv τ fs cs with
    | some p, some q => some (p ∧ q)
    | _, _ => none
  | _, _ => none
def coD (m : Nat) (leak : Bool) (ρ : Nat → Nat) (inv : Nat → Option Nat) (τ : Nat → Tk) : D → D → Option Prop
  | .c f, .c c => coC m leak ρ inv τ f c
  | .g fs, .g cs => coCs m leak ρ inv τ fs cs
  | .arr xs, .arr xs' => some (xs' = xs)
  | _, _ => none
def coDs (m : Nat) (leak : Bool) (ρ : Nat → Nat) (inv : Nat → Option Nat) (τ : Nat → Tk) : List D → List D → Option Prop
  | [], [] => some True
  | f :: fs, c :: cs => match coD m leak ρ inv τ f c, coDs m leak ρ inv τ fs cs with
    | some p, some q => some (p ∧ q)
    | _, _ => none
  | _, _ => none
def coB (m : Nat) (leak : Bool) (ρ : Nat → Nat) (inv : Nat → Option Nat) (τ : Nat → Tk) : Blk → Blk → Option Prop
  | .row s e xs, .row s' e' xs' => match Nat.beq s s', Nat.beq e e' with
    | true, true => some (xs' = xs ∧ okTss leak xs = true)
    | _, _ => none
  | .var t cs, .var t' cs' => match Nat.beq t t', cs.all C.lies with
    | true, true => coCs m leak ρ inv τ cs cs'
    | _, _ => none
  | .arr t xs, .arr t' xs' => match Nat.beq t t' with
    | true => some (xs' = xs)
    | false => none
  | _, _ => none
/-- The tokens handed over, k = i, i - 1, .. -/
def coBs (m : Nat) (leak : Bool) (ρ : Nat → Nat) (inv : Nat → Option Nat) (τ : Nat → Tk) (tk0 : List (Nat × Blk)) : Nat → Option Prop
  | 0 => some True
  | k + 1 => match lk tk0 k, τ (ρ k), coBs m leak ρ inv τ tk0 k with
    | some b, .live _ b', some q => match coB m leak ρ inv τ b b' with
      | some p => some (p ∧ q)
      | none => none
    | _, _, _ => none

theorem coCs_sound {E Ec : Env} {τ τ0 : Nat → Tk} {m : Nat} {leak : Bool} {ρ : Nat → Nat} {inv : Nat → Option Nat} (h : Lent m leak ρ inv w E Ec τ τ0) : ∀ {fs cs : List C} {vs : List Value} {K : Prop}, coCs m leak ρ inv τ fs cs = some K → K → All2 (VC w E τ) cs vs → All2 (VC w Ec τ0) fs vs
  | [], [], vs, K, _, _, hv => by cases vs with | nil => trivial | cons _ _ => exact hv.elim
  | f :: fs, c :: cs, vs, K, hx, hK, hv => by
    cases vs with
    | nil => exact hv.elim
    | cons v vs =>
      unfold coCs at hx
      split at hx
      · rename_i p q hp hq
        injection hx with hx
        subst hx
        exact ⟨coC_sound h hp hK.1 hv.1, coCs_sound h hq hK.2 hv.2⟩
      · cases hx
  | [], _ :: _, _, _, hx, _, _ => by cases hx
  | _ :: _, [], _, _, hx, _, _ => by cases hx

theorem coD_sound {E Ec : Env} {τ τ0 : Nat → Tk} {m : Nat} {leak : Bool} {ρ : Nat → Nat} {inv : Nat → Option Nat} (h : Lent m leak ρ inv w E Ec τ τ0) {f d : D} {v : Value} {K : Prop} (hx : coD m leak ρ inv τ f d = some K) (hK : K) (hv : VR w E τ d v) : VR w Ec τ0 f v := by
  unfold coD at hx
  split at hx
  · exact coC_sound h hx hK hv
  · obtain ⟨vs, e, ha⟩ := hv
    exact ⟨vs, e, coCs_sound h hx hK ha⟩
  · injection hx with hx
    subst hx hK
    exact hv
  · cases hx

theorem coDs_sound {E Ec : Env} {τ τ0 : Nat → Tk} {m : Nat} {leak : Bool} {ρ : Nat → Nat} {inv : Nat → Option Nat} (h : Lent m leak ρ inv w E Ec τ τ0) : ∀ {fs ds : List D} {vs : List Value} {K : Prop}, coDs m leak ρ inv τ fs ds = some K → K → All2 (VR w E τ) ds vs → All2 (VR w Ec τ0) fs vs
  | [], [], vs, K, _, _, hv => by cases vs with | nil => trivial | cons _ _ => exact hv.elim
  | f :: fs, c :: cs, vs, K, hx, hK, hv => by
    cases vs with
    | nil => exact hv.elim
    | cons v vs =>
      unfold coDs at hx
      split at hx
      · rename_i p q hp hq
        injection hx with hx
        subst hx
        exact ⟨coD_sound h hp hK.1 hv.1, coDs_sound h hq hK.2 hv.2⟩
      · cases hx
  | [], _ :: _, _, _, hx, _, _ => by cases hx
  | _ :: _, [], _, _, hx, _, _ => by cases hx

theorem coBs_sound (h : RelE w0 U N E S a w) {leak : Bool} {m : Nat} {rs : List Nat} {fr : Nat} {tk0 : List (Nat × Blk)} : ∀ {i : Nat} {K : Prop}, i ≤ m → coBs m leak (nmC m rs fr) (invC m rs fr) S.tok tk0 i = some K → K →
    (∀ k k', k < m → k' < m → nmC m rs fr k = nmC m rs fr k' → k = k') → ∀ k b, k < i → lk tk0 k = some b → BR w (calleeEnv leak m rs fr E) (mkTok m tk0) k b
  | 0, _, _, _, _, _, k, _, hk, _ => by omega
  | i + 1, K, him, hx, hK, hinj, k, b, hk, hl => by
    unfold coBs at hx
    split at hx
    · rename_i b0 u b' q h1 h2 h3
      split at hx
      · rename_i p hp
        injection hx with hx
        subst hx
        by_cases hki : k < i
        · exact coBs_sound h (by omega) h3 hK.2 hinj k b hki hl
        · have : k = i := by omega
          subst this
          rw [h1] at hl
          injection hl with hl
          subst hl
          have hbr := h.tok _ _ _ h2
          have hlent := call_lent (tk0 := tk0) h (leak := leak) (m := m) (rs := rs) (fr := fr)
          have hic : invC m rs fr (nmC m rs fr k) = some k := by
            cases hc : invC m rs fr (nmC m rs fr k) with
            | none => exact absurd rfl (invC_none hc k (by omega))
            | some k2 =>
              obtain ⟨g1, g2⟩ := invC_some hc
              rw [hinj k2 k g1 (by omega) g2]
          have hko : KeepO w w E.lab (calleeEnv leak m rs fr E).lab (nmC m rs fr k) k [] [] := fun bb q hq => ⟨by simp only [calleeEnv, calleeLab, hq, hic], rfl⟩
          unfold coB at hp
          split at hp
          · rename_i s e xs s' e' xs'
            split at hp
            · rename_i g1 g2
              have g1 := Nat.eq_of_beq_eq_true g1
              have g2 := Nat.eq_of_beq_eq_true g2
              subst g1 g2
              injection hp with hp
              subst hp
              obtain ⟨rfl, hok⟩ := hK.1
              simp only [BR] at hbr ⊢
              exact TO.ren2 (fun _ bb hbb => ⟨hlent.sh bb hbb, rfl⟩) (Nat.le_succ _) (by simpa [okT] using hok) hko hbr
            · cases hp
          · rename_i t cs t' cs'
            split at hp
            · rename_i g1 g2
              have g1 := Nat.eq_of_beq_eq_true g1
              subst g1
              obtain ⟨cur, e1, e2, e3, e4⟩ := hbr
              exact ⟨cur, e1, (hko _ [] (show E.lab (E.bx (nmC m rs fr k)) = .own (nmC m rs fr k) ([] ++ []) from e2)).1, g2, coCs_sound hlent hp hK.1 e4⟩
            · cases hp
          · rename_i t xs t' xs'
            split at hp
            · rename_i g1
              have g1 := Nat.eq_of_beq_eq_true g1
              subst g1
              injection hp with hp
              subst hp
              obtain ⟨cur, e1, e2, e3⟩ := hbr
              have hK1 := hK.1
              subst hK1
              exact ⟨cur, e1, (hko _ [] (show E.lab (E.bx (nmC m rs fr k)) = .own (nmC m rs fr k) ([] ++ []) from e2)).1, e3⟩
            · cases hp
          · cases hp
      · cases hx
    · cases hx

/-! ### which tokens are handed over -/
def gC : C → C → List (Nat × Nat)
  | .fn _ ks, .fn _ ks' => ks.zip ks'
  | .sl k, .sl k' => [(k, k')]
  | .ptr k _, .ptr k' _ => [(k, k')]
  | _, _ => []
def gCs : List C → List C → List (Nat × Nat)
  | f :: fs, c :: cs => gC f c ++ gCs fs cs
  | _, _ => []
def gDs : List D → List D → List (Nat × Nat)
  | .c f :: fs, .c c :: cs => gC f c ++ gDs fs cs
  | .g f :: fs, .g c :: cs => gCs f c ++ gDs fs cs
  | _ :: fs, _ :: cs => gDs fs cs
  | _, _ => []
def gB (tk0 : List (Nat × Blk)) (τ : Nat → Tk) : List (Nat × Nat) → Option (List (Nat × Nat))
  | [] => some []
  | (k, k') :: r => match lk tk0 k with
    | some (.var _ fs) => match varOf τ k', gB tk0 τ r with
      | some (_, _, cs), some q => some (gCs fs cs ++ q)
      | _, _ => none
    | _ => gB tk0 τ r
def gRounds (tk0 : List (Nat × Blk)) (τ : Nat → Tk) : Nat → List (Nat × Nat) → Option (List (Nat × Nat))
  | 0, l => some l
  | n + 1, l => match gB tk0 τ l with
    | some q => gRounds tk0 τ n (l ++ q)
    | none => none
def rsOf (c : Con) (τ : Nat → Tk) (ds : List D) : Option (List Nat) :=
  match gRounds c.tk0 τ (match c.tk0 with | [] => 0 | [_] => 0 | _ => 2) (gDs c.args ds) with
  | some l => some ((List.range c.m).map fun k => match lk l k with | some k' => k' | none => 0)
  | none => none

def evDs (σ : Nat → Option D) : List Operand → Option (List D)
  | [] => some []
  | x :: r => match evD σ x, evDs σ r with
    | some d, some ds => some (d :: ds)
    | _, _ => none

theorem evDs_sound (h : RelE w0 U N E S a w) : ∀ {xs : List Operand} {ds : List D}, evDs S.slot xs = some ds → All2 (VR w E S.tok) ds (xs.map a.eval)
  | [], ds, hx => by simp [evDs] at hx; subst hx; trivial
  | x :: r, ds, hx => by
    unfold evDs at hx
    split at hx
    · rename_i d ds' h1 h2
      injection hx with hx
      subst hx
      exact ⟨evD_sound h h1, evDs_sound h h2⟩
    · cases hx

def rowsOks (l : Bool) : List (Nat × Blk) → Prop
  | [] => True
  | (_, .row _ _ xs) :: r => okTss l xs = true ∧ rowsOks l r
  | (_, .var ..) :: r => rowsOks l r
  | (_, .arr ..) :: r => rowsOks l r
theorem rowsOks_mem {l : Bool} {k : Nat} {b : Blk} : ∀ {t : List (Nat × Blk)}, rowsOks l t → (k, b) ∈ t → b.rowsOk l
  | [], _, h => by cases h
  | (k0, .row s e xs) :: r, hr, h => by
    rcases List.mem_cons.1 h with h | h
    · injection h with h1 h2; subst h1 h2; exact hr.1
    · exact rowsOks_mem hr.2 h
  | (k0, .var t cs) :: r, hr, h => by
    rcases List.mem_cons.1 h with h | h
    · injection h with h1 h2; subst h1 h2; trivial
    · exact rowsOks_mem (t := r) hr h
  | (k0, .arr t cs) :: r, hr, h => by
    rcases List.mem_cons.1 h with h | h
    · injection h with h1 h2; subst h1 h2; trivial
    · exact rowsOks_mem (t := r) hr h

def effCall2 (P : Program) (τ : Nat → Tk) (fr : Nat) (f : FuncId) (c : Con) (ds : List D) (rs : List Nat) : Option (D × List (Nat × Tk) × Prop) :=
  match coDs c.m c.leak (nmC c.m rs fr) (invC c.m rs fr) τ c.args ds, coBs c.m c.leak (nmC c.m rs fr) (invC c.m rs fr) τ c.tk0 c.m, callOk τ c rs fr with
  | some K1, some K2, true => some (c.res.ren (nmC c.m rs fr), callT τ c.m c.tk1 rs fr, SoundAt P f c ∧ K1 ∧ K2 ∧ rowsOks c.leak c.tk1)
  | _, _, _ => none

def effCall (P : Program) (an : An) (σ : Nat → Option D) (τ : Nat → Tk) (fr : Nat) (fo : Operand) (xs : Array Operand) : Option (D × List (Nat × Tk) × Prop) :=
  match evD σ fo, an.con, evDs σ xs.toList with
  | some (.c (.fn f ks)), some c, some ds0 => effCall2 P τ fr f c (ds0 ++ ks.map fun k => .c (.ptr k 0)) an.rs
  | _, _, _ => none

theorem callInj {τ : Nat → Tk} {c : Con} {rs : List Nat} {fr : Nat} (hok : callOk τ c rs fr = true) : ∀ k k', k < c.m → k' < c.m → nmC c.m rs fr k = nmC c.m rs fr k' → k = k' := by
  simp only [callOk, Bool.and_eq_true] at hok
  have hnd := nodupB_spec hok.1.1.1.1
  intro k k' hk hk' he
  have h1 : (((List.range c.m).map (backTk τ c.m c.tk1 rs fr)).map (·.1)).Nodup := by
    have := hnd
    simp only [callT, List.map_append] at this
    exact (List.nodup_append.1 this).1
  rw [List.map_map] at h1
  have h2 := List.pairwise_map.1 h1
  rcases Nat.lt_trichotomy k k' with h3 | h3 | h3
  · have := List.pairwise_iff_getElem.1 h2 k k' (by simpa using hk) (by simpa using hk') h3
    simp only [List.getElem_range, Function.comp, backTk] at this
    exact absurd he this
  · exact h3
  · have := List.pairwise_iff_getElem.1 h2 k' k (by simpa using hk') (by simpa using hk) h3
    simp only [List.getElem_range, Function.comp, backTk] at this
    exact absurd he.symm this

theorem All2.append' {α β : Type} {R : α → β → Prop} : ∀ {as as' : List α} {bs bs' : List β}, All2 R as bs → All2 R as' bs' → All2 R (as ++ as') (bs ++ bs') := fun h h' => All2.append h h'

theorem ptrs_all2 {w : World} {E : Env} {τ : Nat → Tk} : ∀ {ks : List Nat}, (∀ k ∈ ks, born τ k) → All2 (VR w E τ) (ks.map fun k => D.c (.ptr k 0)) (ks.map fun k => Value.pointer (some ⟨E.bx k, 0, none⟩))
  | [], _ => trivial
  | k :: ks, h => ⟨⟨h k (by simp), rfl⟩, ptrs_all2 fun k' hk' => h k' (by simp [hk'])⟩

theorem exec_call_fn {o : Oper} {fo : Operand} {xs : Array Operand} {ts : Array TypeId} (ho : o.op = .call { callee := .value fo, args := xs, argTypes := ts }) {ρ : Operand → Value} {f : FuncId} {cap : Array Value} {fn : Func} (hv : ρ fo = .func (.func f) #[] cap)
    (hf : P.funcs[f]? = some fn) (hn : (fn.name == "runtime.NumGoroutine") = false) (hb : fn.body.isNone = false) : (execOp ρ o).run P w = .ok (.enter f (xs.map ρ ++ cap)) w := by
  have hb' : ¬ (fn.body = none) := by intro h; rw [h] at hb; cases hb
  have hn' : ¬ (fn.name = "runtime.NumGoroutine") := by intro h; rw [h] at hn; simp at hn
  simp [execOp, ho, resolve, hv, Deferred.ofValue, invoke, callFunc, hf, hn', hb']

theorem call_sound (h : RelE w0 U N E S a w) {fr : Nat} (hfr : ∀ j, fr ≤ j → j < fr + 32 → S.tok j = .unborn) (hnx : fr + 32 ≤ S.nx) {o : Oper} (hd : dstOk N o.dst = true) {fo : Operand} {xs : Array Operand} {ts : Array TypeId} (ho : o.op = .call { callee := .value fo, args := xs, argTypes := ts })
    {f : FuncId} {ks : List Nat} {c : Con} {ds0 : List D} {rs : List Nat} {K1 K2 : Prop} (hfo : evD S.slot fo = some (.c (.fn f ks))) (hds : evDs S.slot xs.toList = some ds0)
    (h1 : coDs c.m c.leak (nmC c.m rs fr) (invC c.m rs fr) S.tok c.args (ds0 ++ ks.map fun k => .c (.ptr k 0)) = some K1) (h2 : coBs c.m c.leak (nmC c.m rs fr) (invC c.m rs fr) S.tok c.tk0 c.m = some K2) (h3 : callOk S.tok c rs fr = true)
    (hs : SoundAt P f c) (hK1 : K1) (hK2 : K2) (hro : rowsOks c.leak c.tk1) : OpW P w0 U N S a w o (c.res.ren (nmC c.m rs fr)) (callT S.tok c.m c.tk1 rs fr) := by
  obtain ⟨fn, hf, hn, hb, hs⟩ := hs
  have hfv := evD_sound h hfo
  rw [VRc] at hfv
  obtain ⟨hkb, hfv⟩ := hfv
  have hargs : All2 (VR w E S.tok) (ds0 ++ ks.map fun k => D.c (.ptr k 0)) (xs.map a.eval ++ (ks.map fun k => Value.pointer (some ⟨E.bx k, 0, none⟩)).toArray).toList := by
    simp only [Array.toList_append, Array.toList_map]
    exact All2.append' (evDs_sound h hds) (ptrs_all2 hkb)
  have hinj := callInj h3
  have hinvC : Inv w (calleeAnc c.leak c.m rs fr E w) (calleeEnv c.leak c.m rs fr E) (mkTok c.m c.tk0) w := call_inv h hinj
  have hlent : Lent c.m c.leak (nmC c.m rs fr) (invC c.m rs fr) w E (calleeEnv c.leak c.m rs fr E) S.tok (mkTok c.m c.tk0) := call_lent h
  have hA := coDs_sound hlent h1 hK1 hargs
  have hB : ∀ k b, k < c.m → lk c.tk0 k = some b → BR w (calleeEnv c.leak c.m rs fr E) (mkTok c.m c.tk0) k b := fun k b hkm hkb => coBs_sound h (Nat.le_refl _) h2 hK2 hinj k b hkm hkb
  have hcalls := hs w (calleeAnc c.leak c.m rs fr E w) (calleeEnv c.leak c.m rs fr E) _ rfl hinvC hA hB
  intro K' Q hK'
  unfold Oper.wp
  rw [exec_call_fn (P := P) (w := w) ho hfv hf hn hb]
  simp only [Oper.upon]
  refine Calls.mono hcalls fun e w1 he => ?_
  obtain ⟨v, E1, rfl, hi1, hv1, hb1⟩ := he
  obtain ⟨E2, hv2, hr2⟩ := call_back h hfr hnx h3 (fun k b hkb => rowsOks_mem hro hkb) hi1 hv1 hb1
  exact hK' E2 _ _ (hr2.put hd hv2)

theorem effCall_sound (h : RelE w0 U N E S a w) {fr : Nat} (hfr : ∀ j, fr ≤ j → j < fr + 32 → S.tok j = .unborn) (hnx : fr + 32 ≤ S.nx) {o : Oper} (hd : dstOk N o.dst = true) {an : An} {fo : Operand} {xs : Array Operand} {ts : Array TypeId} (ho : o.op = .call { callee := .value fo, args := xs, argTypes := ts })
    {d : D} {tk : List (Nat × Tk)} {K : Prop} (hx : effCall P an S.slot S.tok fr fo xs = some (d, tk, K)) (hK : K) : OpW P w0 U N S a w o d tk := by
  unfold effCall at hx
  split at hx
  · rename_i f ks c ds0 hfo hc hds
    unfold effCall2 at hx
    split at hx
    · rename_i K1 K2 h1 h2 h3
      simp only [Option.some.injEq, Prod.mk.injEq] at hx
      obtain ⟨rfl, rfl, rfl⟩ := hx
      exact call_sound h hfr hnx hd ho hfo hds h1 h2 h3 hK.1 hK.2.1 hK.2.2.1 hK.2.2.2
    · cases hx
  · cases hx
end
end Go.V

/- The program logic V, part 21: arrays of scalars, with any index. -/
namespace Go.V
abbrev Res := Option (D × List (Nat × Tk) × Prop)
section
variable {P : Program} {w0 : World} {U : Anc} {N : Nat} {E : Env} {S : St} {a : Act} {w : World}

def toS : C → Option T
  | .int k n => some (.int k n)
  | .bool b => some (.bool b)
  | .str s => some (.str s)
  | _ => none
def toSs : List C → Option (List T)
  | [] => some []
  | c :: r => match toS c, toSs r with
    | some x, some xs => some (x :: xs)
    | _, _ => none

theorem toS_sound {c : C} {x : T} {v : Value} {τ : Nat → Tk} (h : toS c = some x) (hv : VC w E τ c v) : VS x v := by
  cases c <;> simp only [toS, reduceCtorEq] at h <;> (injection h with h; subst h; exact hv)
theorem toSs_sound {τ : Nat → Tk} : ∀ {cs : List C} {xs : List T} {vs : List Value}, toSs cs = some xs → All2 (VC w E τ) cs vs → All2 VS xs vs
  | [], xs, vs, h, hv => by simp [toSs] at h; subst h; cases vs with | nil => trivial | cons _ _ => exact hv.elim
  | c :: r, xs, vs, h, hv => by
    unfold toSs at h
    split at h
    · rename_i x xs' h1 h2
      injection h with h
      subst h
      cases vs with
      | nil => exact hv.elim
      | cons v vs => exact ⟨toS_sound h1 hv.1, toSs_sound h2 hv.2⟩
    · cases h
theorem VS.one {x : T} {v : Value} (h : VS x v) : v.oneCell' = true := by
  cases x <;> simp only [VS] at h <;> subst h <;> rfl
theorem VS.cells {x : T} {v : Value} (h : VS x v) : v.cells = #[v] := by
  cases x <;> simp only [VS] at h <;> subst h <;> rfl

def ofT : T → C
  | .int k n => .int k n
  | .bool b => .bool b
  | .str s => .str s
  | _ => .dead
theorem VS.ofT {x : T} {v : Value} {τ : Nat → Tk} (h : VS x v) : VC w E τ (V.ofT x) v := by
  cases x <;> simp only [VS] at h <;> subst h <;> rfl
theorem ofT_toS {c : C} {x : T} (h : toS c = some x) : ofT x = c := by
  cases c <;> simp only [toS, reduceCtorEq] at h <;> (injection h with h; subst h; rfl)

def arrOf (τ : Nat → Tk) (k : Nat) : Option (Nat × TypeId × List T) :=
  match τ k with
  | .live u (.arr t xs) => some (u, t, xs)
  | _ => none
theorem arrOf_some {τ : Nat → Tk} {k u t : Nat} {xs : List T} (h : arrOf τ k = some (u, t, xs)) : τ k = .live u (.arr t xs) := by
  unfold arrOf at h
  split at h
  · rename_i h1; simp only [Option.some.injEq, Prod.mk.injEq] at h; obtain ⟨rfl, rfl, rfl⟩ := h; exact h1
  · cases h

/-! ### a new one -/
def arrD : D → Option (List T)
  | .g cs => toSs cs
  | .arr xs => some xs
  | _ => none
theorem arrD_sound {τ : Nat → Tk} {d : D} {xs : List T} {v : Value} (hd : arrD d = some xs) (hv : VR w E τ d v) : All2 VS xs v.cells.toList ∧ ∃ vs : List Value, v = .agg vs.toArray := by
  cases d with
  | c x => cases hd
  | g cs => obtain ⟨vs, rfl, ha⟩ := hv; exact ⟨by simpa [Value.cells] using toSs_sound hd ha, _, rfl⟩
  | tup x => cases hd
  | arr ys => injection hd with hd; subst hd; obtain ⟨vs, rfl, ha⟩ := hv; exact ⟨by simpa [Value.cells] using ha, _, rfl⟩

def effVarA (fr : Nat) (t : TypeId) (d : D) : Option (D × List (Nat × Tk)) :=
  match arrD d with
  | some xs => some (.c (.ptr fr 0), [(fr, .live 0 (.arr t xs))])
  | none => none

theorem effVarA_sound (h : RelE w0 U N E S a w) {fr : Nat} (hk : S.tok fr = .unborn) (hlt : fr < S.nx) {t : TypeId} {d d' : D} {tk : List (Nat × Tk)} {v : Value} (hv : VR w E S.tok d v) (hx : effVarA fr t d = some (d', tk)) :
    ∃ E', VR (w.alloc (.cells v.cells t)) E' (updT S.tok tk) d' (.pointer (some ⟨w.heap.size, 0, none⟩)) ∧ RelE w0 U N E' { S with tok := updT S.tok tk } a (w.alloc (.cells v.cells t)) := by
  unfold effVarA at hx
  split at hx
  · rename_i xs hxs
    simp only [Option.some.injEq, Prod.mk.injEq] at hx
    obtain ⟨rfl, rfl⟩ := hx
    have hr := RelE.alloc h hk hlt .nilIface (.cells v.cells t) (.arr t xs) ⟨v.cells, by
        rw [Env.with1]; simp only [upd_same]; exact heap_alloc_new w _, by rw [with1_lab]; simp [Env.with1, upd_same], (arrD_sound hxs hv).1⟩
    refine ⟨_, ?_, hr⟩
    exact ⟨by simp [born, updT, upd_same], by simp [Env.with1, upd_same]⟩
  · cases hx

def effBoxA (an : An) (σ : Nat → Option D) (fr : Nat) (t : TypeId) (x : Operand) : Option (D × List (Nat × Tk)) :=
  match an.arr with
  | false => effBox σ fr t x
  | true => match evD σ x with
    | some d => effVarA fr t d
    | none => none
def effAllocA (P : Program) (an : An) (fr : Nat) (t : TypeId) : Option (D × List (Nat × Tk)) :=
  match an.arr with
  | false => effAlloc P fr t
  | true => match zeroD P t with
    | some d => effVarA fr t d
    | none => none

theorem effBoxA_sound (h : RelE w0 U N E S a w) {fr : Nat} (hk : S.tok fr = .unborn) (hlt : fr < S.nx) {o : Oper} {an : An} {t : TypeId} {x : Operand} (ho : o.op = .box t x) {d : D} {tk : List (Nat × Tk)} (hx : effBoxA an S.slot fr t x = some (d, tk)) :
    Eff P w0 U N S a w o d tk := by
  unfold effBoxA at hx
  split at hx
  · exact effBox_sound h hk hlt ho hx
  · split at hx
    · rename_i d0 hd
      obtain ⟨E', hv, hr⟩ := effVarA_sound h hk hlt (evD_sound h hd) hx
      refine ⟨E', _, _, ?_, .inl ⟨_, rfl, hv⟩, hr⟩
      simp only [execOp, ho, Instr.box, newVar, newRow, Sem.run_bind, run_newObj, Result.andThen_ok, Sem.run_pure]
      rfl
    · cases hx

theorem effAllocA_sound (h : RelE w0 U N E S a w) {fr : Nat} (hk : S.tok fr = .unborn) (hlt : fr < S.nx) {o : Oper} {an : An} {t : TypeId} (ho : o.op = .alloc t) {d : D} {tk : List (Nat × Tk)} (hx : effAllocA P an fr t = some (d, tk)) :
    Eff P w0 U N S a w o d tk := by
  unfold effAllocA at hx
  split at hx
  · exact effAlloc_sound h hk hlt ho hx
  · split at hx
    · rename_i d0 hd
      obtain ⟨i, z, hi, hz, _, hvz⟩ := zeroD_sound (w := w) (E := E) (τ := S.tok) hd
      obtain ⟨E', hv, hr⟩ := effVarA_sound h hk hlt hvz hx
      refine ⟨E', _, _, ?_, .inl ⟨_, rfl, hv⟩, hr⟩
      simp only [execOp, ho, Instr.alloc, zeroValue, typeInfo, newVar, newRow, Sem.run_bind, run_newObj, Result.andThen_ok, Sem.run_pure, run_program, hi, hz]
      rfl
    · cases hx

/-! ### load -/
def effLoadA (P : Program) (an : An) (τ : Nat → Tk) (t : TypeId) (k off : Nat) : Res :=
  match arrOf τ k, aggOf P t, szOf P t with
  | some (_, _, xs), some false, some _ => match an.x with
    | some x => some (.c (ofT x), [], xs[off]? = some x)
    | none => none
  | some (_, _, xs), some true, some sz => match off with
    | 0 => some (.arr xs, [], xs.length = sz)
    | _ => none
  | _, _, _ => none

theorem cells_arr (h : RelE w0 U N E S a w) {k u t : Nat} {xs : List T} (hk : arrOf S.tok k = some (u, t, xs)) :
    ∀ q c, (xs.map ofT)[q]? = some c → ∃ v, w.cell? ((⟨E.bx k, 0, none⟩ : Addr).add q) = some v ∧ VC w E S.tok c v := by
  intro q c hq
  obtain ⟨cur, h1, h2, h3⟩ := h.tok k u _ (arrOf_some hk)
  rw [List.getElem?_map] at hq
  obtain ⟨x, hx, rfl⟩ := Option.map_eq_some_iff.1 hq
  obtain ⟨v, hv, hr⟩ := h3.get hx
  exact ⟨v, by rw [add_lit, cell_of_row w _ _ cur t (0, 0) h1]; simpa using hv, hr.ofT⟩

theorem vs_of_vc {τ : Nat → Tk} : ∀ {xs : List T} {vs ws : List Value}, All2 VS xs ws → All2 (VC w E τ) (xs.map ofT) vs → All2 VS xs vs
  | [], [], _, _, _ => trivial
  | x :: xs, v :: vs, w0 :: ws, h, h' => by
    refine ⟨?_, vs_of_vc h.2 h'.2⟩
    have h1 := h.1
    have h2 := h'.1
    cases x <;> simp only [VS] at h1 <;> exact h2
  | [], _ :: _, _, _, h' => h'.elim
  | _ :: _, [], _, _, h' => h'.elim
  | _ :: _, _ :: _, [], h, _ => h.elim

theorem effLoadA_sound (h : RelE w0 U N E S a w) {o : Oper} (hd : dstOk N o.dst = true) {an : An} {t : TypeId} {x : Operand} (ho : o.op = .load t x) {k off : Nat} (hx0 : evD S.slot x = some (.c (.ptr k off))) {d : D} {tk : List (Nat × Tk)} {K : Prop}
    (hx : effLoadA P an S.tok t k off = some (d, tk, K)) (hK : K) : OpW P w0 U N S a w o d tk := by
  have hp := evD_sound h hx0
  rw [VRc] at hp
  have hp2 : a.eval x = .pointer (some ((⟨E.bx k, 0, none⟩ : Addr).add off)) := by rw [add_lit]; exact hp.2
  unfold effLoadA at hx
  split at hx
  · rename_i u t' xs sz hk hag hsz
    split at hx
    · rename_i y hy
      simp only [Option.some.injEq, Prod.mk.injEq] at hx
      obtain ⟨rfl, rfl, rfl⟩ := hx
      obtain ⟨v, hr, hvr⟩ := run_loadVar_cells (P := P) (off := off) (d := .c (ofT y)) hag hsz (cells_arr h hk) (by simp [cut, hK])
      refine Val.opW h hd ⟨v, ?_, hvr⟩
      simp only [execOp, ho, Instr.loadAt, hp2, Instr.sureAddr, Sem.run_bind, Sem.run_pure, Result.andThen_ok, hr]
    · cases hx
  · rename_i u t' xs sz hk hag hsz
    split at hx
    · simp only [Option.some.injEq, Prod.mk.injEq] at hx
      obtain ⟨rfl, rfl, rfl⟩ := hx
      obtain ⟨v, hr, hvr⟩ := run_loadVar_cells (P := P) (off := 0) (d := .g (xs.map ofT)) hag hsz (cells_arr h hk) (by
        unfold cut
        rw [if_pos rfl, if_pos (by simp [hK])]
        simp only [List.drop_zero, Option.some.injEq, D.g.injEq]
        rw [List.take_of_length_le (by simp [hK])])
      obtain ⟨vs, rfl, ha⟩ := hvr
      obtain ⟨cur, h1, h2, h3⟩ := h.tok k u _ (arrOf_some hk)
      refine Val.opW h hd ⟨_, ?_, ⟨vs, rfl, vs_of_vc h3 ha⟩⟩
      simp only [execOp, ho, Instr.loadAt, hp2, Instr.sureAddr, Sem.run_bind, Sem.run_pure, Result.andThen_ok, hr]
    · cases hx
  · cases hx

/-! ### store -/
def effStoreA (P : Program) (σ : Nat → Option D) (τ : Nat → Tk) (t : TypeId) (k off : Nat) (y : Operand) : Option (List (Nat × Tk) × Prop) :=
  match arrOf τ k, szOf P t, evD σ y with
  | some (u, t', xs), some sz, some (.c c) => match toS c with
    | some z => some ([(k, .live (u + 1) (.arr t' (xs.set off z)))], sz = 1 ∧ off < xs.length)
    | none => none
  | some (u, t', xs), some sz, some (.arr ys) => match off with
    | 0 => some ([(k, .live (u + 1) (.arr t' ys))], sz = xs.length ∧ ys.length = xs.length)
    | _ => none
  | _, _, _ => none

theorem effStoreA_sound (h : RelE w0 U N E S a w) {o : Oper} (hd : dstOk N o.dst = true) {t : TypeId} {x y : Operand} (ho : o.op = .store t x y) {k off : Nat} (hx0 : evD S.slot x = some (.c (.ptr k off))) {tk : List (Nat × Tk)} {K : Prop}
    (hx : effStoreA P S.slot S.tok t k off y = some (tk, K)) (hK : K) : OpW P w0 U N S a w o (.c .dead) tk := by
  have hp := evD_sound h hx0
  rw [VRc] at hp
  have fin : ∀ {E' w'}, (storeVar t ⟨E.bx k, off, none⟩ (a.eval y)).run P w = .ok () w' → RelE w0 U N E' { S with tok := updT S.tok tk } a w' → OpW P w0 U N S a w o (.c .dead) tk := by
    intro E' w' h2 h3
    refine Eff.opW hd ⟨E', w', _, ?_, .inr ⟨rfl, rfl⟩, h3⟩
    simp only [execOp, ho, Instr.storeAt, hp.2, Instr.sureAddr, Sem.run_bind, Sem.run_pure, Result.andThen_ok, h2]
  have main : ∀ {u sz t' : Nat} {xs zs ys : List T}, arrOf S.tok k = some (u, t', xs) → szOf P t = some sz → All2 VS zs (a.eval y).cells.toList → zs.length = sz → off + sz ≤ xs.length →
      setRange xs off zs = ys → tk = [(k, .live (u + 1) (.arr t' ys))] → OpW P w0 U N S a w o (.c .dead) tk := by
    rintro u sz t' xs zs ys hk hsz hv hl hfit rfl rfl
    have hk' := arrOf_some hk
    obtain ⟨cur, h1, h2, h3⟩ := h.tok k u _ hk'
    have hlen := hv.len
    have hlen2 := h3.len
    simp only [Array.length_toList] at hlen hlen2
    have hone : ∀ q ∈ (a.eval y).cells.toList, q.oneCell' = true := by
      intro q hq
      obtain ⟨i, hi⟩ := List.mem_iff_getElem?.1 hq
      have hi' := getElem?_lt hi
      obtain ⟨q', hq', hr⟩ := hv.get (List.getElem?_eq_getElem (show i < zs.length by simp at hi'; omega))
      rw [hi] at hq'
      injection hq' with hq'
      subst hq'
      exact hr.one
    have hrun := run_storeVar_at (P := P) (off := off) hsz h1 (v := a.eval y) (by omega) (by omega) hone
    refine fin hrun (RelE.write h hk' h2 _ 0 (b1 := .arr t' (setRange xs off zs)) ?_)
    refine ⟨(setRange cur.toList off (a.eval y).cells.toList).toArray, setRow_heap w _ cur _ t' (0, 0) h1, h2, ?_⟩
    simpa using h3.setRange off hv
  unfold effStoreA at hx
  split at hx
  · rename_i u t' xs sz c hk hsz hc
    split at hx
    · rename_i z hz
      simp only [Option.some.injEq, Prod.mk.injEq] at hx
      obtain ⟨rfl, rfl⟩ := hx
      obtain ⟨rfl, hlt⟩ := hK
      have hv := toS_sound hz (evD_sound h hc)
      refine main hk hsz (zs := [z]) (by rw [hv.cells]; exact ⟨hv, trivial⟩) rfl (by omega) ?_ rfl
      simp only [setRange, List.length_singleton]
      rw [List.set_eq_take_append_cons_drop, if_pos hlt]
      rfl
    · cases hx
  · rename_i u t' xs sz ys hk hsz hc
    split at hx
    · simp only [Option.some.injEq, Prod.mk.injEq] at hx
      obtain ⟨rfl, rfl⟩ := hx
      obtain ⟨rfl, hlt⟩ := hK
      obtain ⟨vs, hv, ha⟩ := evD_sound h hc
      refine main hk hsz (zs := ys) (by rw [hv]; simpa [Value.cells] using ha) hlt (by omega) ?_ rfl
      simp only [setRange, List.take_zero, List.nil_append, Nat.zero_add]
      rw [List.drop_of_length_le (by omega), List.append_nil]
    · cases hx
  · cases hx
end
end Go.V

/- The program logic V, part 22: any operation. -/
namespace Go.V

def ofV (x : EffV) : Res := match x with
  | some (d, _, K) => some (d, [], K)
  | none => none
def ofE (x : Option (D × List (Nat × Tk))) : Res := match x with
  | some (d, T) => some (d, T, True)
  | none => none
def ofS (x : Option (List (Nat × Tk) × Prop)) : Res := match x with
  | some (T, K) => some (.c .dead, T, K)
  | none => none

def evBuiltin (P : Program) (an : An) (σ : Nat → Option D) (τ : Nat → Tk) (fr : Nat) (ts : Array TypeId) (xs : Array Operand) : Builtin → Res
  | .len => ofV (effLen P σ τ ts xs)
  | .min => ofV (effMin σ xs)
  | .max => ofV (effMax σ xs)
  | .append => effAppendC P an σ τ fr ts xs
  | _ => none

/-- A nil slice, told as it is or as an empty row under a new token. -/
def evMove (an : An) (σ : Nat → Option D) (fr : Nat) (x : Operand) : Res :=
  match an.nl with
  | none => ofV (effMove σ x)
  | some (s, e) => match evD σ x with
    | some (.c .nils) => some (.c (.sl fr), [(fr, .live 0 (.row s e []))], True)
    | _ => none

def evLoad (P : Program) (an : An) (σ : Nat → Option D) (τ : Nat → Tk) (fr : Nat) (t : TypeId) (x : Operand) : Res :=
  match evD σ x with
  | some (.c (.ptr k off)) => match arrOf τ k with
    | some _ => effLoadA P an τ t k off
    | none => match varOf τ k with
      | some _ => effLoadO P an σ τ fr t x
      | none => none
  | _ => effLoadO P an σ τ fr t x
def evStore (P : Program) (an : An) (σ : Nat → Option D) (τ : Nat → Tk) (t : TypeId) (x y : Operand) : Option (List (Nat × Tk) × Prop) :=
  match evD σ x with
  | some (.c (.ptr k off)) => match arrOf τ k with
    | some _ => effStoreA P σ τ t k off y
    | none => match varOf τ k with
      | some _ => effStoreC P an σ τ t x y
      | none => none
  | _ => effStoreC P an σ τ t x y

def evOp (P : Program) (an : An) (o : Op) (σ : Nat → Option D) (τ : Nat → Tk) (fr : Nat) : Res :=
  match o with
  | .move x => evMove an σ fr x
  | .assign x => evMove an σ fr x
  | .pick c x y => ofV (effPick an σ c x y)
  | .load t x => evLoad P an σ τ fr t x
  | .nilCheck x => ofV (effNil σ x)
  | .binOp op t x y _ => ofV (effBinU P an σ op t x y)
  | .unOp op _ x => ofV (effUnU an σ op x)
  | .convert s d x => ofV (effConvU P an σ s d x)
  | .fieldAddr t x f => ofV (effFieldAddr P σ t x f)
  | .field t x f => ofV (effField P σ t x f)
  | .extract x i => ofV (effExtract σ x i)
  | .makeFunc fn first captured => ofV (effMakeFunc σ fn first captured)
  | .indexAddr t x ix => ofV (effIndexAddr P an σ τ t x ix)
  | .index t x ix => ofV (effIndex P σ t x ix)
  | .slice t x lo hi mx => ofV (effSlice P σ τ t x lo hi mx)
  | .build t parts => ofV (effBuild P σ t parts)
  | .box t x => ofE (effBoxA an σ fr t x)
  | .alloc t => ofE (effAllocA P an fr t)
  | .buildSlice t len parts => ofE (effBuildSlice P σ fr t len parts)
  | .makeSlice t l c => effMake P σ fr t l c
  | .store t x y => ofS (evStore P an σ τ t x y)
  | .call c => match c.callee with
    | .builtin b => evBuiltin P an σ τ fr c.argTypes c.args b
    | .value f => effCall P an σ τ fr f c.args
    | _ => none
  | _ => none

section
variable {P : Program} {w0 : World} {U : Anc} {N : Nat} {E : Env} {S : St} {a : Act} {w : World}

theorem ofV_some {x : EffV} {d : D} {T : List (Nat × Tk)} {K : Prop} (h : ofV x = some (d, T, K)) : T = [] ∧ ∃ rk, x = some (d, rk, K) := by
  unfold ofV at h
  split at h
  · simp only [Option.some.injEq, Prod.mk.injEq] at h
    obtain ⟨rfl, rfl, rfl⟩ := h
    exact ⟨rfl, _, rfl⟩
  · cases h
theorem ofE_some {x : Option (D × List (Nat × Tk))} {d : D} {T : List (Nat × Tk)} {K : Prop} (h : ofE x = some (d, T, K)) : x = some (d, T) := by
  unfold ofE at h
  split at h
  · simp only [Option.some.injEq, Prod.mk.injEq] at h
    obtain ⟨rfl, rfl, rfl⟩ := h
    rfl
  · cases h
theorem ofS_some {x : Option (List (Nat × Tk) × Prop)} {d : D} {T : List (Nat × Tk)} {K : Prop} (h : ofS x = some (d, T, K)) : d = .c .dead ∧ x = some (T, K) := by
  unfold ofS at h
  split at h
  · simp only [Option.some.injEq, Prod.mk.injEq] at h
    obtain ⟨rfl, rfl, rfl⟩ := h
    exact ⟨rfl, rfl⟩
  · cases h

theorem RelE.nilTok (h : RelE w0 U N E S a w) {fr : Nat} (hf : S.tok fr = .unborn) (hlt : fr < S.nx) (s e : Nat) :
    RelE w0 U N { E with n := E.n + 1, hv := upd E.hv fr (.slice none 0 0) } { S with tok := updT S.tok [(fr, .live 0 (.row s e []))] } a w := by
  have hτ : ∀ j, (updT S.tok [(fr, Tk.live 0 (.row s e []))]) j = if j = fr then .live 0 (.row s e []) else S.tok j := fun j => by simp only [updT, upd_eq]
  have st : Stp w w E { E with n := E.n + 1, hv := upd E.hv fr (.slice none 0 0) } S.tok (updT S.tok [(fr, .live 0 (.row s e []))]) (fun _ => False) := by
    refine ⟨Nat.le_succ _, fun j hb => upd_ne _ _ (by rintro rfl; exact hb hf), fun _ _ => rfl, fun _ hb => ⟨hb, rfl⟩, fun _ _ _ _ hb => ⟨hb, rfl⟩, fun j hb => ?_, fun j u b hb hl => ?_⟩
    · unfold born; rw [hτ]; split
      · simp
      · exact hb
    · rw [hτ, if_neg (by rintro rfl; exact hb hf)] at hl
      exact ⟨u, b, hl, Nat.le_refl _, fun _ => not_false⟩
  refine h.stp st ⟨h.inv.os, h.inv.tape, h.inv.output, h.inv.size, h.inv.prot, h.inv.uno, h.inv.ult, h.inv.lt, fun b k p hb => st.brn k (h.inv.knx b k p hb), h.inv.inj, h.inv.ush, fun k hk => ?_⟩ h.defers h.tmps (fun _ _ hd => .inl ⟨hd, rfl⟩) (fun j u b hl => ?_) (fun j hj => ?_)
  · obtain ⟨h1, h2, h3⟩ := h.inv.anc k hk
    exact ⟨st.brn k h1, h2, (st.hv k h1).trans h3⟩
  · simp only [] at hl
    rw [hτ] at hl
    split at hl
    · rename_i hj
      subst hj
      injection hl with e1 e2
      subst e2
      refine .inr ?_
      simp only [BR, TO]
      exact .inl ⟨upd_same _ _ _, rfl⟩
    · exact .inl ⟨hl, not_false⟩
  · show (updT S.tok [(fr, Tk.live 0 (.row s e []))]) j = _
    rw [hτ, if_neg (by simp only at hj; omega)]
    exact h.tnx j hj

theorem evMove_sound (h : RelE w0 U N E S a w) {fr : Nat} (hf : S.tok fr = .unborn) (hlt : fr < S.nx) {o : Oper} (hd : dstOk N o.dst = true) {an : An} {x : Operand} (ho : o.op = .move x ∨ o.op = .assign x) {d : D} {T : List (Nat × Tk)} {K : Prop}
    (hx : evMove an S.slot fr x = some (d, T, K)) (hK : K) : OpW P w0 U N S a w o d T := by
  unfold evMove at hx
  split at hx
  · obtain ⟨rfl, rk, hrk⟩ := ofV_some hx
    exact Val.opW h hd (effMove_sound h ho hrk hK)
  · rename_i s e hnl
    split at hx
    · rename_i hx'
      simp only [Option.some.injEq, Prod.mk.injEq] at hx
      obtain ⟨rfl, rfl, rfl⟩ := hx
      have hv : a.eval x = .slice none 0 0 := evD_sound h hx'
      refine Eff.opW hd ⟨_, w, .value (.slice none 0 0), ?_, .inl ⟨_, rfl, ?_⟩, RelE.nilTok h hf hlt s e⟩
      · rcases ho with ho | ho <;> simp only [execOp, ho, Sem.run_pure, hv]
      · exact ⟨by simp [born, updT, upd_same], (upd_same _ _ _).symm, none, 0, 0, rfl⟩
    · cases hx

theorem evOp_sound (h : RelE w0 U N E S a w) {fr : Nat} (hfr : ∀ j, fr ≤ j → j < fr + 32 → S.tok j = .unborn) (hnx : fr + 32 ≤ S.nx) {o : Oper} (hd : dstOk N o.dst = true) {an : An} {d : D} {T : List (Nat × Tk)} {K : Prop}
    (hx : evOp P an o.op S.slot S.tok fr = some (d, T, K)) (hK : K) : OpW P w0 U N S a w o d T := by
  have hf := hfr fr (Nat.le_refl _) (by omega)
  have hlt : fr < S.nx := by omega
  have V : ∀ {x : EffV}, ofV x = some (d, T, K) → (∀ rk, x = some (d, rk, K) → Val P a w E S.tok o d) → OpW P w0 U N S a w o d T := by
    intro x h1 h2
    obtain ⟨rfl, rk, hrk⟩ := ofV_some h1
    exact Val.opW h hd (h2 rk hrk)
  unfold evOp at hx
  split at hx
  · rename_i x ho; exact evMove_sound h hf hlt hd (.inl ho) hx hK
  · rename_i x ho; exact evMove_sound h hf hlt hd (.inr ho) hx hK
  · rename_i ho; exact V hx fun rk hr => effPick_sound h ho hr hK
  · rename_i ho
    unfold evLoad at hx
    split at hx
    · rename_i hp
      split at hx
      · exact effLoadA_sound h hd ho hp hx hK
      · split at hx
        · exact effLoadO_sound h hf hlt hd ho hx hK
        · cases hx
    · exact effLoadO_sound h hf hlt hd ho hx hK
  · rename_i ho; exact V hx fun rk hr => effNil_sound h ho hr hK
  · rename_i ho; exact V hx fun rk hr => effBinU_sound h ho hr hK
  · rename_i ho; exact V hx fun rk hr => effUnU_sound h ho hr hK
  · rename_i ho; exact V hx fun rk hr => effConvU_sound h ho hr hK
  · rename_i ho; exact V hx fun rk hr => effFieldAddr_sound h ho hr hK
  · rename_i ho; exact V hx fun rk hr => effField_sound h ho hr hK
  · rename_i ho; exact V hx fun rk hr => effExtract_sound h ho hr hK
  · rename_i ho; exact V hx fun rk hr => effMakeFunc_sound h ho hr hK
  · rename_i ho; exact V hx fun rk hr => effIndexAddr_sound h ho hr hK
  · rename_i ho; exact V hx fun rk hr => effIndex_sound h ho hr hK
  · rename_i ho; exact V hx fun rk hr => effSlice_sound h ho hr hK
  · rename_i ho; exact V hx fun rk hr => effBuild_sound h ho hr hK
  · rename_i ho; exact Eff.opW hd (effBoxA_sound h hf hlt ho (ofE_some hx))
  · rename_i ho; exact Eff.opW hd (effAllocA_sound h hf hlt ho (ofE_some hx))
  · rename_i ho; exact Eff.opW hd (effBuildSlice_sound h hf hlt ho (ofE_some hx))
  · rename_i ho; exact Eff.opW hd (effMake_sound h hf hlt ho hx hK)
  · rename_i ho
    obtain ⟨rfl, h2⟩ := ofS_some hx
    unfold evStore at h2
    split at h2
    · rename_i hp
      split at h2
      · exact effStoreA_sound h hd ho hp h2 hK
      · split at h2
        · exact effStoreC_sound h hd ho h2 hK
        · cases h2
    · exact effStoreC_sound h hd ho h2 hK
  · rename_i c ho
    obtain ⟨cal, args, ts⟩ := c
    simp only [] at hx
    split at hx
    · rename_i b
      unfold evBuiltin at hx
      split at hx
      · exact V hx fun rk hr => effLen_sound h ho hr hK
      · exact V hx fun rk hr => effMin_sound h ho hr hK
      · exact V hx fun rk hr => effMax_sound h ho hr hK
      · exact effAppendC_sound h hf hlt hd ho hx hK
      · cases hx
    · exact effCall_sound h hfr hnx hd ho hx hK
    · cases hx
  · cases hx
end
end Go.V

/- The program logic V, part 23: more known, the same said. -/
namespace Go.V

/-- What is known by the first is known by the second. -/
structure Le (σ σ' : Nat → Option D) (τ τ' : Nat → Tk) : Prop where
  s : ∀ {t : Nat} {d : D}, σ t = some d → σ' t = some d
  t : ∀ {k u : Nat} {b : Blk}, τ k = .live u b → τ' k = .live u b

section
variable {P : Program} {σ σ' : Nat → Option D} {τ τ' : Nat → Tk} {an : An} {fr : Nat}

theorem Le.ev (L : Le σ σ' τ τ') {x : Operand} {d : D} (h : evD σ x = some d) : evD σ' x = some d := by
  cases x with
  | tmp t => exact L.s h
  | _ => exact h
theorem Le.row (L : Le σ σ' τ τ') {k : Nat} {q : Nat × Nat × Nat × List (List T)} (h : rowOf τ k = some q) : rowOf τ' k = some q := by
  obtain ⟨u, s, e, xs⟩ := q
  have := L.t (rowOf_some h)
  simp only [rowOf, this]
theorem Le.var (L : Le σ σ' τ τ') {k : Nat} {q : Nat × TypeId × List C} (h : varOf τ k = some q) : varOf τ' k = some q := by
  obtain ⟨u, t, cs⟩ := q
  have := L.t (varOf_some h)
  simp only [varOf, this]
theorem Le.arr (L : Le σ σ' τ τ') {k : Nat} {q : Nat × TypeId × List T} (h : arrOf τ k = some q) : arrOf τ' k = some q := by
  obtain ⟨u, t, cs⟩ := q
  have := L.t (arrOf_some h)
  simp only [arrOf, this]
theorem Le.upd (L : Le σ σ' τ τ') (k : Nat) (x : Tk) : Le σ σ' (upd τ k x) (upd τ' k x) := ⟨L.s, fun {j u b} h => by
  rw [upd_eq] at h ⊢
  split
  · rename_i he; rw [if_pos he] at h; exact h
  · rename_i he; rw [if_neg he] at h; exact L.t h⟩
theorem Le.updT : ∀ (T : List (Nat × Tk)) {τ τ' : Nat → Tk}, Le σ σ' τ τ' → Le σ σ' (updT τ T) (updT τ' T)
  | [], _, _, L => L
  | (k, x) :: T, _, _, L => Le.updT T (L.upd k x)

theorem effMove_le (L : Le σ σ' τ τ') {x : Operand} {r : D × List Nat × Prop} (h : effMove σ x = some r) : effMove σ' x = some r := by
  obtain ⟨d, hd, rfl⟩ := Option.map_eq_some_iff.1 h
  simp only [effMove, L.ev hd, Option.map_some]

theorem effPick_le (L : Le σ σ' τ τ') {c x y : Operand} {r : D × List Nat × Prop} (h : effPick an σ c x y = some r) : effPick an σ' c x y = some r := by
  unfold effPick at h ⊢
  split at h
  · rename_i h1 h2 h3
    rw [L.ev h1, L.ev h2, L.ev h3]
    exact h
  · cases h

theorem ptrCells_le (L : Le σ σ' τ τ') {c : C} {r : List C × Nat × List Nat × Prop} (h : ptrCells an τ c = some r) : ptrCells an τ' c = some r := by
  unfold ptrCells at h ⊢
  split at h
  · split at h
    · rename_i h1; simp only [L.var h1]; exact h
    · cases h
  · split at h
    · rename_i h1; simp only [L.row h1]; exact h
    · cases h
  · split at h
    · rename_i h1; simp only [L.t h1]; exact h
    · cases h
  · exact h
  · cases h

theorem effLoad_le (L : Le σ σ' τ τ') {t : TypeId} {x : Operand} {r : D × List Nat × Prop} (h : effLoad P an σ τ t x = some r) : effLoad P an σ' τ' t x = some r := by
  unfold effLoad at h ⊢
  split at h
  · rename_i h1 h2 h3
    rw [L.ev h1, h2, h3]
    simp only []
    split at h
    · rename_i h4; rw [ptrCells_le L h4]; exact h
    · cases h
  · cases h

theorem effNil_le (L : Le σ σ' τ τ') {x : Operand} {r : D × List Nat × Prop} (h : effNil σ x = some r) : effNil σ' x = some r := by
  unfold effNil at h ⊢
  split at h
  · rename_i h1; rw [L.ev h1]; exact h
  · cases h

theorem effBinU_le (L : Le σ σ' τ τ') {op : BinOp} {t : TypeId} {x y : Operand} {r : D × List Nat × Prop} (h : effBinU P an σ op t x y = some r) : effBinU P an σ' op t x y = some r := by
  unfold effBinU at h ⊢
  split at h
  · rename_i h1 h2; rw [L.ev h1, L.ev h2]; exact h
  · cases h

theorem effUn_le (L : Le σ σ' τ τ') {op : UnOp} {x : Operand} {r : D × List Nat × Prop} (h : effUn σ op x = some r) : effUn σ' op x = some r := by
  unfold effUn at h ⊢
  split at h
  · rename_i h1; rw [L.ev h1]; exact h
  · rename_i h1; rw [L.ev h1]; exact h
  · rename_i h1; rw [L.ev h1]; exact h
  · cases h

theorem effUnU_le (L : Le σ σ' τ τ') {op : UnOp} {x : Operand} {r : D × List Nat × Prop} (h : effUnU an σ op x = some r) : effUnU an σ' op x = some r := by
  cases hx : evD σ x with
  | none => cases op <;> simp only [effUnU, effUn, hx, reduceCtorEq] at h
  | some d =>
    have hx' := L.ev hx
    have hu : effUn σ op x = effUn σ' op x := by simp only [effUn, hx, hx']
    unfold effUnU at h ⊢
    rw [hx, hu] at h
    rw [hx']
    exact h

theorem effConv_le (L : Le σ σ' τ τ') {s t : TypeId} {x : Operand} {r : D × List Nat × Prop} (h : effConv P σ s t x = some r) : effConv P σ' s t x = some r := by
  unfold effConv at h ⊢
  split at h
  · rename_i h1 h2 h3; rw [L.ev h1, h2, h3]; exact h
  · rename_i h1 h2 h3; rw [L.ev h1, h2, h3]; exact h
  · cases h

theorem effConvU_le (L : Le σ σ' τ τ') {s t : TypeId} {x : Operand} {r : D × List Nat × Prop} (h : effConvU P an σ s t x = some r) : effConvU P an σ' s t x = some r := by
  cases hx : evD σ x with
  | none => simp only [effConvU, effConv, hx, reduceCtorEq] at h
  | some d =>
    have hx' := L.ev hx
    have hu : effConv P σ s t x = effConv P σ' s t x := by simp only [effConv, hx, hx']
    unfold effConvU at h ⊢
    rw [hx, hu] at h
    rw [hx']
    exact h

theorem effFieldAddr_le (L : Le σ σ' τ τ') {t : TypeId} {x : Operand} {f : Nat} {r : D × List Nat × Prop} (h : effFieldAddr P σ t x f = some r) : effFieldAddr P σ' t x f = some r := by
  unfold effFieldAddr at h ⊢
  split at h
  · rename_i h1 h2; rw [L.ev h1, h2]; exact h
  · cases h

theorem effField_le (L : Le σ σ' τ τ') {t : TypeId} {x : Operand} {f : Nat} {r : D × List Nat × Prop} (h : effField P σ t x f = some r) : effField P σ' t x f = some r := by
  unfold effField at h ⊢
  split at h
  · rename_i h1 h2; rw [L.ev h1, h2]; exact h
  · cases h

theorem effExtract_le (L : Le σ σ' τ τ') {x : Operand} {i : Nat} {r : D × List Nat × Prop} (h : effExtract σ x i = some r) : effExtract σ' x i = some r := by
  unfold effExtract at h ⊢
  split at h
  · rename_i h1; rw [L.ev h1]; exact h
  · cases h

theorem ptrs_le (L : Le σ σ' τ τ') : ∀ {xs : List Operand} {ks : List Nat}, ptrs σ xs = some ks → ptrs σ' xs = some ks
  | [], _, h => h
  | x :: r, ks, h => by
    unfold ptrs at h ⊢
    split at h
    · rename_i h1 h2; rw [L.ev h1, ptrs_le L h2]; exact h
    · cases h

theorem effMakeFunc_le (L : Le σ σ' τ τ') {fn : Fn} {a b : Array Operand} {r : D × List Nat × Prop} (h : effMakeFunc σ fn a b = some r) : effMakeFunc σ' fn a b = some r := by
  unfold effMakeFunc at h ⊢
  split at h
  · rename_i h1 h2; rw [h1, ptrs_le L h2]; exact h
  · cases h

theorem effIndexAddr_le (L : Le σ σ' τ τ') {t : TypeId} {x ix : Operand} {r : D × List Nat × Prop} (h : effIndexAddr P an σ τ t x ix = some r) : effIndexAddr P an σ' τ' t x ix = some r := by
  unfold effIndexAddr at h ⊢
  split at h
  · rename_i h1 h2 h3
    rw [L.ev h1, L.ev h2, h3]
    simp only []
    split at h
    · rename_i h4
      split at h
      · split at h
        · rename_i h5; simp only [L.row h5]; exact h
        · cases h
      · exact h
      · exact h
      · split at h
        · rename_i h5 h6; simp only [h5, L.t h6]; exact h
        · cases h
      · cases h
    · cases h
  · rename_i h1 h2 h3
    rw [L.ev h1, L.ev h2, h3]
    exact h
  · cases h

theorem lenC_le (L : Le σ σ' τ τ') {c : C} {r : Int × List Nat} (h : lenC τ c = some r) : lenC τ' c = some r := by
  unfold lenC at h ⊢
  split at h
  · split at h
    · rename_i h1; simp only [L.row h1]; exact h
    · cases h
  · exact h
  · exact h
  · split at h
    · rename_i h1; simp only [L.t h1]; exact h
    · cases h
  · exact h
  · cases h

theorem effLen_le (L : Le σ σ' τ τ') {ts : Array TypeId} {xs : Array Operand} {r : D × List Nat × Prop} (h : effLen P σ τ ts xs = some r) : effLen P σ' τ' ts xs = some r := by
  unfold effLen at h ⊢
  split at h
  · rename_i h1 h2
    split at h
    · rename_i h3
      split at h
      · rename_i h4
        rw [L.ev h4]
        obtain ⟨p, hp, rfl⟩ := Option.map_eq_some_iff.1 h
        simp only [lenC_le L hp, Option.map_some]
      · cases h
    · rename_i h3
      split at h
      · rename_i h4; rw [L.ev h4]; exact h
      · cases h
    · exact h
    · cases h
  · cases h

theorem effMin_le (L : Le σ σ' τ τ') {xs : Array Operand} {r : D × List Nat × Prop} (h : effMin σ xs = some r) : effMin σ' xs = some r := by
  unfold effMin at h ⊢
  split at h
  · rename_i h1
    split at h
    · rename_i h2 h3; rw [L.ev h2, L.ev h3]; exact h
    · cases h
  · cases h
theorem effMax_le (L : Le σ σ' τ τ') {xs : Array Operand} {r : D × List Nat × Prop} (h : effMax σ xs = some r) : effMax σ' xs = some r := by
  unfold effMax at h ⊢
  split at h
  · rename_i h1
    split at h
    · rename_i h2 h3; rw [L.ev h2, L.ev h3]; exact h
    · cases h
  · cases h

theorem effIndex_le (L : Le σ σ' τ τ') {t : TypeId} {x ix : Operand} {r : D × List Nat × Prop} (h : effIndex P σ t x ix = some r) : effIndex P σ' t x ix = some r := by
  unfold effIndex at h ⊢
  split at h
  · rename_i h1 h2 h3; rw [L.ev h1, L.ev h2, h3]; exact h
  · cases h

theorem boundD_le (L : Le σ σ' τ τ') {z n : Int} {x : Option Operand} (h : boundD σ z x = some n) : boundD σ' z x = some n := by
  cases x with
  | none => exact h
  | some x =>
    simp only [boundD] at h ⊢
    split at h
    · rename_i h1; rw [L.ev h1]; exact h
    · cases h

theorem effSlice_le (L : Le σ σ' τ τ') {t : TypeId} {x : Operand} {lo hi mx : Option Operand} {r : D × List Nat × Prop} (h : effSlice P σ τ t x lo hi mx = some r) : effSlice P σ' τ' t x lo hi mx = some r := by
  unfold effSlice at h ⊢
  split at h
  · rename_i h1 h2
    rw [L.ev h1, h2]
    simp only []
    split at h
    · rename_i h3 h4
      rw [h3, lenC_le L h4]
      simp only []
      split at h
      · rename_i h5 h6
        rw [boundD_le L h5, boundD_le L h6]
        simp only []
        split at h
        · split at h
          · rename_i h7; simp only [L.row h7]; exact h
          · cases h
        · exact h
        · exact h
        · cases h
      · cases h
    · cases h
  · cases h

theorem partsD_le (L : Le σ σ' τ τ') : ∀ {xs : List (Nat × Operand)} {ps : List (Nat × List C)}, partsD σ xs = some ps → partsD σ' xs = some ps
  | [], _, h => h
  | (i, x) :: r, ps, h => by
    unfold partsD at h ⊢
    split at h
    · rename_i h1 h2; rw [L.ev h1, partsD_le L h2]; exact h
    · cases h

theorem effBuild_le (L : Le σ σ' τ τ') {t : TypeId} {ps : Array (Nat × Operand)} {r : D × List Nat × Prop} (h : effBuild P σ t ps = some r) : effBuild P σ' t ps = some r := by
  unfold effBuild at h ⊢
  split at h
  · rename_i h1 h2 h3; rw [h1, partsD_le L h2, h3]; exact h
  · rename_i h1 h2 h3; rw [h1, partsD_le L h2, h3]; exact h
  · cases h

theorem effBuildSlice_le (L : Le σ σ' τ τ') {t : TypeId} {n : Nat} {ps : Array (Nat × Operand)} {r : D × List (Nat × Tk)} (h : effBuildSlice P σ fr t n ps = some r) : effBuildSlice P σ' fr t n ps = some r := by
  unfold effBuildSlice at h ⊢
  split at h
  · rename_i h1 h2; rw [h1, partsD_le L h2]; exact h
  · cases h

theorem effMake_le (L : Le σ σ' τ τ') {t : TypeId} {l c : Operand} {r : D × List (Nat × Tk) × Prop} (h : effMake P σ fr t l c = some r) : effMake P σ' fr t l c = some r := by
  unfold effMake at h ⊢
  split at h
  · rename_i h1 h2 h3; rw [h1, L.ev h2, L.ev h3]; exact h
  · cases h

theorem effBoxA_le (L : Le σ σ' τ τ') {t : TypeId} {x : Operand} {r : D × List (Nat × Tk)} (h : effBoxA an σ fr t x = some r) : effBoxA an σ' fr t x = some r := by
  unfold effBoxA at h ⊢
  split at h
  · unfold effBox at h ⊢
    split at h
    · rename_i h1; rw [L.ev h1]; exact h
    · cases h
  · split at h
    · rename_i h1; rw [L.ev h1]; exact h
    · cases h
end
end Go.V

/- The program logic V, part 24: more known, the same said: what writes. -/
namespace Go.V
section
variable {P : Program} {σ σ' : Nat → Option D} {τ τ' : Nat → Tk} {an : An} {fr : Nat}

theorem effStoreVar_le (L : Le σ σ' τ τ') {sz k off : Nat} {xs : List C} {r : List (Nat × Tk)} (h : effStoreVar τ sz k off xs = some r) : effStoreVar τ' sz k off xs = some r := by
  unfold effStoreVar at h ⊢
  split at h
  · rename_i h1; simp only [L.var h1]; exact h
  · cases h

theorem effStoreRow_le (L : Le σ σ' τ τ') {sz k s i off : Nat} {xs : List C} {r : List (Nat × Tk) × Prop} (h : effStoreRow an τ sz k s i off xs = some r) : effStoreRow an τ' sz k s i off xs = some r := by
  unfold effStoreRow at h ⊢
  split at h
  · rename_i h1 h2; simp only [L.row h1, h2]; exact h
  · cases h

theorem effStore_le (L : Le σ σ' τ τ') {t : TypeId} {x y : Operand} {r : List (Nat × Tk) × Prop} (h : effStore P an σ τ t x y = some r) : effStore P an σ' τ' t x y = some r := by
  unfold effStore at h ⊢
  split at h
  · rename_i h1 h2 h3
    obtain ⟨d, hd, h4⟩ := Option.bind_eq_some_iff.1 h2
    rw [L.ev h1, L.ev hd, h3]
    simp only [Option.bind_some, h4]
    split at h
    · obtain ⟨q, hq, rfl⟩ := Option.map_eq_some_iff.1 h
      simp only [effStoreVar_le L hq, Option.map_some]
    · exact effStoreRow_le L h
    · cases h
  · cases h

theorem clsR_le : ∀ {r : List T} {τ τ' : Nat → Tk} {k : Nat} {q : List T × List Nat}, Le σ σ' τ τ' → clsR τ k r = some q → clsR τ' k r = some q
  | [], _, _, _, _, _, h => h
  | x :: r, τ, τ', k, q, L, h => by
    have step : ∀ y, (match clsR τ k r with | some (r', ks) => some (y :: r', ks) | none => none) = some q → (match clsR τ' k r with | some (r', ks) => some (y :: r', ks) | none => none) = some q := by
      intro y h
      cases hc : clsR τ k r with
      | none => rw [hc] at h; cases h
      | some p => rw [hc] at h; rw [clsR_le L hc]; exact h
    cases x with
    | tk k2 =>
      simp only [clsR] at h ⊢
      split at h
      · rename_i h1 h2
        rw [L.row h1, h2]
        simp only []
        split at h
        · rename_i h3; rw [clsR_le (L.upd _ _) h3]; exact h
        · cases h
      · cases h
    | _ => simp only [clsR] at h ⊢; exact step _ h

theorem srcRows_le (L : Le σ σ' τ τ') {n : Nat} {c : C} {r : Nat × List (List T) × List Nat} (h : srcRows τ n c = some r) : srcRows τ' n c = some r := by
  unfold srcRows at h ⊢
  split at h
  · split at h
    · rename_i h1; simp only [L.row h1]; exact h
    · cases h
  · split at h
    · rename_i h1; simp only [L.row h1]; exact h
    · cases h
  · split at h
    · rename_i h1; simp only [L.t h1]; exact h
    · cases h
  · exact h
  · exact h
  · cases h

theorem effAppend_le (L : Le σ σ' τ τ') {ts : Array TypeId} {xs : Array Operand} {r : D × List (Nat × Tk) × List Nat × Prop} (h : effAppend P σ τ fr ts xs = some r) : effAppend P σ' τ' fr ts xs = some r := by
  unfold effAppend at h ⊢
  split at h
  · split at h
    · rename_i h1 h2 h3
      rw [h1, L.ev h2, L.ev h3]
      simp only []
      split at h
      · split at h
        · rename_i h4 h5
          rw [h4, srcRows_le L h5]
          simp only []
          split at h
          · exact h
          · split at h
            · rename_i h6; simp only [L.row h6]; exact h
            · cases h
          · cases h
        · cases h
      · cases h
    · cases h
  · cases h

theorem effAppendC_le (L : Le σ σ' τ τ') {ts : Array TypeId} {xs : Array Operand} {r : D × List (Nat × Tk) × Prop} (h : effAppendC P an σ τ fr ts xs = some r) : effAppendC P an σ' τ' fr ts xs = some r := by
  unfold effAppendC at h ⊢
  split at h
  · rename_i d T rk K h0
    rw [effAppend_le L h0]
    simp only []
    split at h
    · exact h
    · split at h
      · split at h
        · rename_i h1 h2 h3
          rw [h1, L.ev h2, L.ev h3]
          simp only []
          split at h
          · split at h
            · rename_i h4
              rw [srcRows_le L h4]
              simp only []
              split at h
              · split at h
                · rename_i h5; rw [clsR_le (Le.updT T L) h5]; exact h
                · cases h
              · split at h
                · rename_i h6
                  simp only [L.row h6]
                  split at h
                  · rename_i h5; rw [clsR_le (Le.updT T L) h5]; exact h
                  · cases h
                · cases h
              · cases h
            · cases h
          · cases h
        · cases h
      · cases h
  · cases h

theorem effStoreC_le (L : Le σ σ' τ τ') {t : TypeId} {x y : Operand} {r : List (Nat × Tk) × Prop} (h : effStoreC P an σ τ t x y = some r) : effStoreC P an σ' τ' t x y = some r := by
  unfold effStoreC at h ⊢
  split at h
  · rename_i T K h0
    rw [effStore_le L h0]
    simp only []
    split at h
    · exact h
    · split at h
      · rename_i h1 h2
        obtain ⟨d, hd, h4⟩ := Option.bind_eq_some_iff.1 h2
        rw [L.ev h1, L.ev hd]
        simp only [Option.bind_some, h4]
        split at h
        · rename_i h5 h6
          rw [L.row h5, h6]
          simp only []
          split at h
          · split at h
            · rename_i h7; rw [clsR_le (Le.updT T L) h7]; exact h
            · cases h
          · cases h
        · cases h
      · cases h
  · cases h

theorem effLoadO_le (L : Le σ σ' τ τ') {t : TypeId} {x : Operand} {r : D × List (Nat × Tk) × Prop} (h : effLoadO P an σ τ fr t x = some r) : effLoadO P an σ' τ' fr t x = some r := by
  unfold effLoadO at h ⊢
  split at h
  · obtain ⟨q, hq, rfl⟩ := Option.map_eq_some_iff.1 h
    simp only [effLoad_le L hq, Option.map_some]
  · split at h
    · rename_i h1 h2 h3
      rw [L.ev h1, h2, h3]
      simp only []
      split at h
      · rename_i h4; simp only [L.row h4]; exact h
      · cases h
    · cases h

theorem effLoadA_le (L : Le σ σ' τ τ') {t : TypeId} {k off : Nat} {r : D × List (Nat × Tk) × Prop} (h : effLoadA P an τ t k off = some r) : effLoadA P an τ' t k off = some r := by
  unfold effLoadA at h ⊢
  split at h
  · rename_i h1 h2 h3; rw [L.arr h1, h2, h3]; exact h
  · rename_i h1 h2 h3; rw [L.arr h1, h2, h3]; exact h
  · cases h

theorem effStoreA_le (L : Le σ σ' τ τ') {t : TypeId} {k off : Nat} {y : Operand} {r : List (Nat × Tk) × Prop} (h : effStoreA P σ τ t k off y = some r) : effStoreA P σ' τ' t k off y = some r := by
  unfold effStoreA at h ⊢
  split at h
  · rename_i h1 h2 h3; rw [L.arr h1, h2, L.ev h3]; exact h
  · rename_i h1 h2 h3; rw [L.arr h1, h2, L.ev h3]; exact h
  · cases h

theorem arrOf_none_of_var {τ : Nat → Tk} {k : Nat} {q : Nat × TypeId × List C} (h : varOf τ k = some q) : arrOf τ k = none := by
  obtain ⟨u, t, cs⟩ := q
  simp only [arrOf, varOf_some h]

theorem evLoad_le (L : Le σ σ' τ τ') {t : TypeId} {x : Operand} {r : D × List (Nat × Tk) × Prop} (h : evLoad P an σ τ fr t x = some r) : evLoad P an σ' τ' fr t x = some r := by
  cases hx : evD σ x with
  | none => unfold evLoad effLoadO effLoad at h; simp only [hx] at h; split at h <;> cases h
  | some d =>
    have hx' := L.ev hx
    unfold evLoad at h ⊢
    rw [hx] at h
    rw [hx']
    split at h
    · split at h
      · rename_i h1; simp only [L.arr h1]; exact effLoadA_le L h
      · split at h
        · rename_i h2; simp only [arrOf_none_of_var (L.var h2), L.var h2]; exact effLoadO_le L h
        · cases h
    · exact effLoadO_le L h

theorem evStore_le (L : Le σ σ' τ τ') {t : TypeId} {x y : Operand} {r : List (Nat × Tk) × Prop} (h : evStore P an σ τ t x y = some r) : evStore P an σ' τ' t x y = some r := by
  cases hx : evD σ x with
  | none => unfold evStore effStoreC effStore at h; simp only [hx] at h; cases h
  | some d =>
    have hx' := L.ev hx
    unfold evStore at h ⊢
    rw [hx] at h
    rw [hx']
    split at h
    · split at h
      · rename_i h1; simp only [L.arr h1]; exact effStoreA_le L h
      · split at h
        · rename_i h2; simp only [arrOf_none_of_var (L.var h2), L.var h2]; exact effStoreC_le L h
        · cases h
    · exact effStoreC_le L h

/-! ### calls -/
theorem coC_le (L : Le σ σ' τ τ') {m : Nat} {l : Bool} {ρ : Nat → Nat} {inv : Nat → Option Nat} {f c : C} {K : Prop} (h : coC m l ρ inv τ f c = some K) : coC m l ρ inv τ' f c = some K := by
  unfold coC at h ⊢
  split at h <;> try exact h
  · split at h
    · rename_i h1 h2; simp only [L.row h1, h2]; exact h
    · cases h
  · split at h
    · rename_i h1 h2; simp only [L.row h1, h2]; exact h
    · cases h
  · split at h
    · rename_i h1 h2; simp only [L.t h1, h2]; exact h
    · cases h
theorem coCs_le (L : Le σ σ' τ τ') {m : Nat} {l : Bool} {ρ : Nat → Nat} {inv : Nat → Option Nat} : ∀ {fs cs : List C} {K : Prop}, coCs m l ρ inv τ fs cs = some K → coCs m l ρ inv τ' fs cs = some K
  | [], [], _, h => h
  | f :: fs, c :: cs, _, h => by
    unfold coCs at h ⊢
    split at h
    · rename_i h1 h2; rw [coC_le L h1, coCs_le L h2]; exact h
    · cases h
  | [], _ :: _, _, h => by cases h
  | _ :: _, [], _, h => by cases h
theorem coD_le (L : Le σ σ' τ τ') {m : Nat} {l : Bool} {ρ : Nat → Nat} {inv : Nat → Option Nat} {f d : D} {K : Prop} (h : coD m l ρ inv τ f d = some K) : coD m l ρ inv τ' f d = some K := by
  unfold coD at h ⊢
  split at h
  · exact coC_le L h
  · exact coCs_le L h
  · exact h
  · cases h
theorem coDs_le (L : Le σ σ' τ τ') {m : Nat} {l : Bool} {ρ : Nat → Nat} {inv : Nat → Option Nat} : ∀ {fs cs : List D} {K : Prop}, coDs m l ρ inv τ fs cs = some K → coDs m l ρ inv τ' fs cs = some K
  | [], [], _, h => h
  | f :: fs, c :: cs, _, h => by
    unfold coDs at h ⊢
    split at h
    · rename_i h1 h2; rw [coD_le L h1, coDs_le L h2]; exact h
    · cases h
  | [], _ :: _, _, h => by cases h
  | _ :: _, [], _, h => by cases h
theorem coB_le (L : Le σ σ' τ τ') {m : Nat} {l : Bool} {ρ : Nat → Nat} {inv : Nat → Option Nat} {f d : Blk} {K : Prop} (h : coB m l ρ inv τ f d = some K) : coB m l ρ inv τ' f d = some K := by
  unfold coB at h ⊢
  split at h
  · exact h
  · split at h
    · exact coCs_le L h
    · cases h
  · exact h
  · cases h
theorem coBs_le (L : Le σ σ' τ τ') {m : Nat} {l : Bool} {ρ : Nat → Nat} {inv : Nat → Option Nat} {tk0 : List (Nat × Blk)} : ∀ {i : Nat} {K : Prop}, coBs m l ρ inv τ tk0 i = some K → coBs m l ρ inv τ' tk0 i = some K
  | 0, _, h => h
  | k + 1, _, h => by
    unfold coBs at h ⊢
    split at h
    · rename_i h1 h2 h3
      rw [h1, L.t h2, coBs_le L h3]
      simp only []
      split at h
      · rename_i h4; rw [coB_le L h4]; exact h
      · cases h
    · cases h

theorem isLive_le (L : Le σ σ' τ τ') {k : Nat} (h : isLive (τ k) = true) : τ' k = τ k := by
  cases hx : τ k with
  | live u b => exact L.t hx
  | _ => rw [hx] at h; cases h

theorem callOk_le (L : Le σ σ' τ τ') {c : Con} {rs : List Nat} (h : callOk τ c rs fr = true) : callOk τ' c rs fr = true ∧ callT τ' c.m c.tk1 rs fr = callT τ c.m c.tk1 rs fr := by
  have hl : ∀ k, k < c.m → τ' (nmC c.m rs fr k) = τ (nmC c.m rs fr k) := by
    intro k hk
    simp only [callOk, Bool.and_eq_true] at h
    have := h.1.1.2
    rw [List.all_eq_true] at this
    exact isLive_le L (this k (List.mem_range.2 hk))
  have hT : callT τ' c.m c.tk1 rs fr = callT τ c.m c.tk1 rs fr := by
    unfold callT
    congr 1
    exact List.map_congr_left fun k hk => by simp only [backTk, hl k (List.mem_range.1 hk)]
  refine ⟨?_, hT⟩
  unfold callOk at h ⊢
  rw [hT]
  simp only [Bool.and_eq_true] at h ⊢
  refine ⟨⟨⟨h.1.1.1, ?_⟩, h.1.2⟩, h.2⟩
  have := h.1.1.2
  rw [List.all_eq_true] at this ⊢
  intro k hk
  rw [hl k (List.mem_range.1 hk)]
  exact this k hk

theorem gB_le (L : Le σ σ' τ τ') {tk0 : List (Nat × Blk)} : ∀ {l : List (Nat × Nat)} {q : List (Nat × Nat)}, gB tk0 τ l = some q → gB tk0 τ' l = some q
  | [], _, h => h
  | (k, k') :: r, q, h => by
    unfold gB at h ⊢
    split at h
    · split at h
      · rename_i h1 h2; simp only [L.var h1, gB_le L h2]; exact h
      · cases h
    · exact gB_le L h
theorem gRounds_le (L : Le σ σ' τ τ') {tk0 : List (Nat × Blk)} : ∀ {n : Nat} {l : List (Nat × Nat)} {q : List (Nat × Nat)}, gRounds tk0 τ n l = some q → gRounds tk0 τ' n l = some q
  | 0, _, _, h => h
  | n + 1, l, q, h => by
    unfold gRounds at h ⊢
    split at h
    · rename_i h1; rw [gB_le L h1]; exact gRounds_le L h
    · cases h
theorem rsOf_le (L : Le σ σ' τ τ') {c : Con} {ds : List D} {q : List Nat} (h : rsOf c τ ds = some q) : rsOf c τ' ds = some q := by
  unfold rsOf at h ⊢
  split at h
  · rename_i h1; rw [gRounds_le L h1]; exact h
  · cases h
theorem evDs_le (L : Le σ σ' τ τ') : ∀ {xs : List Operand} {ds : List D}, evDs σ xs = some ds → evDs σ' xs = some ds
  | [], _, h => h
  | x :: r, _, h => by
    unfold evDs at h ⊢
    split at h
    · rename_i h1 h2; rw [L.ev h1, evDs_le L h2]; exact h
    · cases h
theorem effCall2_le (L : Le σ σ' τ τ') {f : FuncId} {c : Con} {ds : List D} {rs : List Nat} {r : D × List (Nat × Tk) × Prop} (h : effCall2 P τ fr f c ds rs = some r) : effCall2 P τ' fr f c ds rs = some r := by
  unfold effCall2 at h ⊢
  split at h
  · rename_i h1 h2 h3
    obtain ⟨h4, h5⟩ := callOk_le L h3
    rw [coDs_le L h1, coBs_le L h2, h4, h5]
    exact h
  · cases h
theorem effCall_le (L : Le σ σ' τ τ') {fo : Operand} {xs : Array Operand} {r : D × List (Nat × Tk) × Prop} (h : effCall P an σ τ fr fo xs = some r) : effCall P an σ' τ' fr fo xs = some r := by
  unfold effCall at h ⊢
  split at h
  · rename_i h1 h2 h3
    rw [L.ev h1, h2, evDs_le L h3]
    exact effCall2_le L h
  · cases h

theorem ofV_le {x y : EffV} {r : D × List (Nat × Tk) × Prop} (h : ofV x = some r) (hh : ∀ q, x = some q → y = some q) : ofV y = some r := by
  cases x with
  | none => cases h
  | some q => rw [hh q rfl]; exact h
theorem ofE_le {x y : Option (D × List (Nat × Tk))} {r : D × List (Nat × Tk) × Prop} (h : ofE x = some r) (hh : ∀ q, x = some q → y = some q) : ofE y = some r := by
  cases x with
  | none => cases h
  | some q => rw [hh q rfl]; exact h
theorem ofS_le {x y : Option (List (Nat × Tk) × Prop)} {r : D × List (Nat × Tk) × Prop} (h : ofS x = some r) (hh : ∀ q, x = some q → y = some q) : ofS y = some r := by
  cases x with
  | none => cases h
  | some q => rw [hh q rfl]; exact h

theorem evMove_le (L : Le σ σ' τ τ') {x : Operand} {r : D × List (Nat × Tk) × Prop} (h : evMove an σ fr x = some r) : evMove an σ' fr x = some r := by
  unfold evMove at h ⊢
  split at h
  · exact ofV_le h fun _ => effMove_le L
  · split at h
    · rename_i h1; rw [L.ev h1]; exact h
    · cases h

theorem evOp_le (L : Le σ σ' τ τ') {o : Op} {r : D × List (Nat × Tk) × Prop} (h : evOp P an o σ τ fr = some r) : evOp P an o σ' τ' fr = some r := by
  unfold evOp at h ⊢
  split at h
  · exact evMove_le L h
  · exact evMove_le L h
  · exact ofV_le h fun _ => effPick_le L
  · exact evLoad_le L h
  · exact ofV_le h fun _ => effNil_le L
  · exact ofV_le h fun _ => effBinU_le L
  · exact ofV_le h fun _ => effUnU_le L
  · exact ofV_le h fun _ => effConvU_le L
  · exact ofV_le h fun _ => effFieldAddr_le L
  · exact ofV_le h fun _ => effField_le L
  · exact ofV_le h fun _ => effExtract_le L
  · exact ofV_le h fun _ => effMakeFunc_le L
  · exact ofV_le h fun _ => effIndexAddr_le L
  · exact ofV_le h fun _ => effIndex_le L
  · exact ofV_le h fun _ => effSlice_le L
  · exact ofV_le h fun _ => effBuild_le L
  · exact ofE_le h fun _ => effBoxA_le L
  · exact h
  · exact ofE_le h fun _ => effBuildSlice_le L
  · exact effMake_le L h
  · exact ofS_le h fun _ => evStore_le L
  · split at h
    · unfold evBuiltin at h ⊢
      split at h
      · exact ofV_le h fun _ => effLen_le L
      · exact ofV_le h fun _ => effMin_le L
      · exact ofV_le h fun _ => effMax_le L
      · exact effAppendC_le L h
      · cases h
    · exact effCall_le L h
    · cases h
  · cases h
end
end Go.V

/- The program logic V, part 26: operations whose condition is nothing. -/
namespace Go.V

def isCmp : BinOp → Bool
  | .eql | .neq | .lss | .leq | .gtr | .geq => true
  | _ => false

/-- The operation asks nothing of the prover. -/
def free (an : An) (o : Op) (σ : Nat → Option D) (τ : Nat → Tk) : Bool :=
  match o with
  | .move _ | .assign _ | .fieldAddr .. | .field .. | .extract .. | .makeFunc .. | .box .. | .alloc .. | .build .. | .buildSlice .. | .nilCheck _ => true
  | .load _ x => match evD σ x with
    | some (.c (.ptr k _)) => match varOf τ k with
      | some _ => !an.op
      | none => false
    | some (.c (.rptr ..)) => !an.op
    | _ => false
  | .store _ x _ => match evD σ x with
    | some (.c (.ptr k _)) => match varOf τ k with
      | some _ => !an.cl
      | none => false
    | _ => false
  | .binOp op _ _ _ _ => isCmp op
  | .unOp op _ _ => match op with
    | .not => true
    | _ => false
  | .call c => match c.callee with
    | .builtin .len | .builtin .min | .builtin .max => true
    | _ => false
  | .pick _ x y => match evD σ x, evD σ y with
    | some (.c (.bool _)), some (.c (.bool _)) => an.tb.isNone
    | _, _ => false
  | _ => false

section
variable {P : Program} {an : An} {σ : Nat → Option D} {τ : Nat → Tk} {fr : Nat} {d : D} {T : List (Nat × Tk)} {K : Prop}

theorem ofV_K {x : EffV} (h : ofV x = some (d, T, K)) (hh : ∀ rk, x = some (d, rk, K) → K) : K := by
  obtain ⟨_, rk, hr⟩ := ofV_some h
  exact hh rk hr

theorem ofE_K {x : Option (D × List (Nat × Tk))} (h : ofE x = some (d, T, K)) : K := by
  unfold ofE at h
  split at h
  · simp only [Option.some.injEq, Prod.mk.injEq] at h
    rw [← h.2.2]; trivial
  · cases h

theorem map_K {α : Type} {x : Option α} {f : α → D × List Nat} {rk : List Nat} (h : (x.map fun a => ((f a).1, (f a).2, True)) = some (d, rk, K)) : K := by
  obtain ⟨_, _, he⟩ := Option.map_eq_some_iff.1 h
  simp only [Prod.mk.injEq] at he
  rw [← he.2.2]; trivial

theorem some_K {d' : D} {rk rk' : List Nat} (h : some (d', rk', True) = some (d, rk, K)) : K := by
  simp only [Option.some.injEq, Prod.mk.injEq] at h
  rw [← h.2.2]; trivial

theorem evMove_K {x : Operand} (h : evMove an σ fr x = some (d, T, K)) : K := by
  unfold evMove at h
  split at h
  · exact ofV_K h fun rk hr => map_K (f := fun a => (a, [])) hr
  · split at h
    · simp only [Option.some.injEq, Prod.mk.injEq] at h
      rw [← h.2.2]; trivial
    · cases h

theorem binC_K {op : BinOp} {t : TypeId} {c c' r : C} (hc : isCmp op = true) (h : binC P op t c c' = some (r, K)) : K := by
  unfold binC at h
  have fin : ∀ {r' : C}, some (r', True) = some (r, K) → K := fun h => by
    simp only [Option.some.injEq, Prod.mk.injEq] at h
    rw [← h.2]; trivial
  split at h
  · split at h
    · cases op <;> first
        | exact fin h
        | (cases hc; done)
    · cases op <;> first
        | (cases hc; done)
        | (cases h; done)
  · split at h
    · cases op <;> first
        | exact fin h
        | (cases hc; done)
        | (cases h; done)
    · cases h
  · cases op <;> first
      | exact fin h
      | (cases hc; done)
      | (cases h; done)
  · split at h
    · cases op <;> first
        | exact fin h
        | (cases hc; done)
        | (cases h; done)
    · cases h
  · cases h

theorem free_K {o : Op} (hf : free an o σ τ = true) (h : evOp P an o σ τ fr = some (d, T, K)) : K := by
  unfold evOp at h
  split at h
  · exact evMove_K h
  · exact evMove_K h
  · refine ofV_K h fun rk hr => ?_
    simp only [free] at hf
    unfold effPick at hr
    split at hr
    · rename_i b dx dy h1 h2 h3
      rw [h2, h3] at hf
      split at hf
      · rename_i e1 e2
        injection e1 with e1
        injection e2 with e2
        subst e1 e2
        cases htb : an.tb with
        | some _ => rw [htb] at hf; cases hf
        | none => rw [htb] at hr; exact some_K hr
      · cases hf
    · cases hr
  · simp only [free] at hf
    unfold evLoad at h
    split at hf
    · rename_i k off hx
      split at hf
      · rename_i q hq
        rw [hx] at h
        simp only [arrOf_none_of_var hq, hq] at h
        unfold effLoadO at h
        have ho : an.op = false := by simpa using hf
        rw [ho] at h
        obtain ⟨⟨d0, rk, K0⟩, hl, he⟩ := Option.map_eq_some_iff.1 h
        simp only [Prod.mk.injEq] at he
        obtain ⟨rfl, rfl, rfl⟩ := he
        unfold effLoad at hl
        rw [hx] at hl
        split at hl
        · rename_i e1 _ _
          injection e1 with e1
          injection e1 with e1
          subst e1
          simp only [ptrCells, hq] at hl
          split at hl
          · exact some_K hl
          · cases hl
        · cases hl
      · cases hf
    · rename_i r off hx
      rw [hx] at h
      simp only [] at h
      unfold effLoadO at h
      have ho : an.op = false := by simpa using hf
      rw [ho] at h
      obtain ⟨⟨d0, rk, K0⟩, hl, he⟩ := Option.map_eq_some_iff.1 h
      simp only [Prod.mk.injEq] at he
      obtain ⟨rfl, rfl, rfl⟩ := he
      unfold effLoad at hl
      rw [hx] at hl
      split at hl
      · rename_i e1 _ _
        injection e1 with e1
        injection e1 with e1
        subst e1
        simp only [ptrCells] at hl
        split at hl
        · exact some_K hl
        · cases hl
      · cases hl
    · cases hf
  · refine ofV_K h fun rk hr => ?_
    unfold effNil at hr
    split at hr
    · split at hr <;> first
        | exact some_K hr
        | cases hr
    · cases hr
  · refine ofV_K h fun rk hr => ?_
    simp only [free] at hf
    unfold effBinU at hr
    split at hr
    · obtain ⟨q, hq, he⟩ := Option.map_eq_some_iff.1 hr
      simp only [Prod.mk.injEq] at he
      obtain ⟨_, _, rfl⟩ := he
      unfold binS at hq
      split at hq <;> first
        | cases hf
        | exact binC_K hf hq
    · cases hr
  · refine ofV_K h fun rk hr => ?_
    simp only [free] at hf
    split at hf
    · unfold effUnU at hr
      simp only [] at hr
      unfold effUn at hr
      split at hr <;> first
        | exact some_K hr
        | cases hr
    · cases hf
  · cases hf
  · refine ofV_K h fun rk hr => ?_
    unfold effFieldAddr at hr
    split at hr
    · split at hr
      · cases hr
      · exact map_K (f := fun a => (.c a, [])) hr
    · cases hr
  · refine ofV_K h fun rk hr => ?_
    unfold effField at hr
    split at hr
    · exact map_K (f := fun a => (a, [])) hr
    · cases hr
  · refine ofV_K h fun rk hr => ?_
    unfold effExtract at hr
    split at hr
    · split at hr <;> first
        | exact some_K hr
        | cases hr
    · cases hr
  · refine ofV_K h fun rk hr => ?_
    unfold effMakeFunc at hr
    split at hr
    · exact some_K hr
    · cases hr
  · cases hf
  · cases hf
  · cases hf
  · refine ofV_K h fun rk hr => ?_
    unfold effBuild at hr
    split at hr
    · split at hr
      · exact map_K (f := fun a => (.g a, [])) hr
      · cases hr
    · split at hr
      · exact map_K (f := fun a => (.g a, [])) hr
      · cases hr
    · cases hr
  · exact ofE_K h
  · exact ofE_K h
  · exact ofE_K h
  · cases hf
  · simp only [free] at hf
    obtain ⟨_, h⟩ := ofS_some h
    unfold evStore at h
    split at hf
    · rename_i k off hx
      split at hf
      · rename_i q hq
        rw [hx] at h
        simp only [arrOf_none_of_var hq, hq] at h
        unfold effStoreC at h
        have ho : an.cl = false := by simpa using hf
        rw [ho] at h
        split at h
        · rename_i L K0 hl
          simp only [Option.some.injEq, Prod.mk.injEq] at h
          obtain ⟨_, rfl⟩ := h
          unfold effStore at hl
          rw [hx] at hl
          split at hl
          · rename_i e1 _ _
            injection e1 with e1
            injection e1 with e1
            subst e1
            simp only [] at hl
            obtain ⟨_, _, he⟩ := Option.map_eq_some_iff.1 hl
            simp only [Prod.mk.injEq] at he
            rw [← he.2]; trivial
          · cases hl
        · cases h
      · cases hf
    · cases hf
  · rename_i c
    simp only [free] at hf
    split at h
    · rename_i b hb
      rw [hb] at hf
      unfold evBuiltin at h
      split at h
      · refine ofV_K h fun rk hr => ?_
        unfold effLen at hr
        split at hr
        · split at hr
          · split at hr
            · obtain ⟨_, _, he⟩ := Option.map_eq_some_iff.1 hr
              simp only [Prod.mk.injEq] at he
              rw [← he.2.2]; trivial
            · cases hr
          · split at hr
            · exact some_K hr
            · cases hr
          · exact some_K hr
          · cases hr
        · cases hr
      · refine ofV_K h fun rk hr => ?_
        unfold effMin at hr
        split at hr
        · split at hr
          · exact some_K hr
          · cases hr
        · cases hr
      · refine ofV_K h fun rk hr => ?_
        unfold effMax at hr
        split at hr
        · split at hr
          · exact some_K hr
          · cases hr
        · cases hr
      · cases hf
      · cases h
    · rename_i hb; rw [hb] at hf; cases hf
    · cases h
  · cases h
end
end Go.V

/- The program logic V: steps that tell the same world otherwise: nil slices as empty rows, rows given up. -/
namespace Go.V
section
variable {P : Program} {w0 : World} {U : Anc} {N : Nat} {E : Env} {S : St} {a : Act} {w : World}

/-! ### another word for a block -/
theorem stp_retell (w : World) (E : Env) {τ : Nat → Tk} {k u : Nat} {b b' : Blk} (hk : τ k = .live u b) : Stp w w E E τ (upd τ k (.live u b')) (fun _ => False) := by
  refine ⟨Nat.le_refl _, fun _ _ => rfl, fun _ _ => rfl, fun _ hb => ⟨hb, rfl⟩, fun _ _ _ _ hb => ⟨hb, rfl⟩, fun j hb => ?_, fun j u2 b2 _ hl => ?_⟩
  · unfold born; rw [upd_eq]; split
    · simp
    · exact hb
  · rw [upd_eq] at hl
    split at hl
    · rename_i hj; subst hj
      injection hl with h1 _
      exact ⟨u, b, hk, by omega, fun _ => not_false⟩
    · exact ⟨u2, b2, hl, Nat.le_refl _, fun _ => not_false⟩

theorem RelE.retell (h : RelE w0 U N E S a w) {k u : Nat} {b b' : Blk} (hk : S.tok k = .live u b) (hb : BR w E S.tok k b') : RelE w0 U N E { S with tok := upd S.tok k (.live u b') } a w := by
  have st := stp_retell w E (b' := b') hk
  have hborn : born S.tok k := by simp [born, hk]
  refine h.stp st ⟨h.inv.os, h.inv.tape, h.inv.output, h.inv.size, h.inv.prot, h.inv.uno, h.inv.ult, h.inv.lt, fun b k p hb => st.brn k (h.inv.knx b k p hb), h.inv.inj, h.inv.ush, fun k hk => ?_⟩ h.defers h.tmps (fun _ _ hd => .inl ⟨hd, rfl⟩) (fun j u2 b2 hl => ?_) (fun j hj => ?_)
  · obtain ⟨h1, h2, h3⟩ := h.inv.anc k hk
    exact ⟨st.brn k h1, h2, h3⟩
  · simp only [upd_eq] at hl
    split at hl
    · rename_i hj; subst hj
      injection hl with _ h2
      subst h2
      exact .inr (BR.stp st not_false hborn hb)
    · exact .inl ⟨hl, not_false⟩
  · show upd S.tok k _ j = _
    have h1 := h.tnx j hj
    rw [upd_eq, if_neg (by rintro rfl; rw [hk] at h1; cases h1)]
    exact h1

/-! ### nil cells of a row -/
def rtT : Option (Bool × Nat × Nat) → T → T
  | some (true, s, e), .nils => .row s e []
  | some (false, s, _), .nils => .shr s []
  | _, x => x
def rtR : List (Option (Bool × Nat × Nat)) → List T → List T
  | c :: cs, x :: r => rtT c x :: rtR cs r
  | _, r => r

theorem rtR_length : ∀ (cs : List (Option (Bool × Nat × Nat))) (r : List T), (rtR cs r).length = r.length
  | [], r => by cases r <;> rfl
  | c :: cs, [] => rfl
  | c :: cs, x :: r => by simp [rtR, rtR_length cs r]
theorem rtR_get : ∀ (cs : List (Option (Bool × Nat × Nat))) (r : List T) (o : Nat) (x' : T), (rtR cs r)[o]? = some x' → ∃ c x, r[o]? = some x ∧ x' = rtT c x
  | [], r, o, x', h => ⟨none, x', by cases r <;> exact h, by cases x' <;> rfl⟩
  | c :: cs, [], o, x', h => by simp [rtR] at h
  | c :: cs, x :: r, 0, x', h => ⟨c, x, rfl, by simpa [rtR] using h.symm⟩
  | c :: cs, x :: r, o + 1, x', h => by simpa using rtR_get cs r o x' (by simpa [rtR] using h)

theorem rtT_sound {τ : Nat → Tk} {k n : Nat} {p : List (Nat × Nat)} {c : Option (Bool × Nat × Nat)} {x : T} {v : Value} (h : TO w E τ k n p x v) : TO w E τ k n p (rtT c x) v := by
  unfold rtT
  split
  · cases n with
    | zero => exact h.elim
    | succ n => simp only [TO] at h ⊢; exact .inl ⟨h, rfl⟩
  · cases n with
    | zero => exact h.elim
    | succ n => simp only [TO] at h ⊢; exact ⟨none, 0, h, by simp, by simp, fun hh => absurd rfl hh⟩
  · exact h

theorem rt_sound {τ : Nat → Tk} {k n s e : Nat} {p : List (Nat × Nat)} {xs : List (List T)} {v : Value} (cs : List (Option (Bool × Nat × Nat))) (h : TO w E τ k n p (.row s e xs) v) : TO w E τ k n p (.row s e (xs.map (rtR cs))) v := by
  cases n with
  | zero => exact h.elim
  | succ n =>
    simp only [TO] at h ⊢
    rcases h with ⟨h1, rfl⟩ | ⟨b, c, cur, hv, hb, hh, h1, h2, h3, h4, h5⟩
    · exact .inl ⟨h1, rfl⟩
    · refine .inr ⟨b, c, cur, by simpa using hv, hb, hh, by simpa using h1, h2, h3, fun r hr => ?_, fun i r o x hi ho => ?_⟩
      · obtain ⟨r0, h0, rfl⟩ := List.mem_map.1 hr
        rw [rtR_length]; exact h4 r0 h0
      · rw [List.getElem?_map] at hi
        obtain ⟨r0, h0, rfl⟩ := Option.map_eq_some_iff.1 hi
        obtain ⟨c, x0, hx0, rfl⟩ := rtR_get _ _ _ _ ho
        obtain ⟨v', hv', hr⟩ := h5 i r0 o x0 h0 hx0
        exact ⟨v', hv', rtT_sound hr⟩

/-! ### all rows of a block closed -/
def deads (ks : List Nat) : List (Nat × Tk) := ks.map fun k => (k, .dead)

def clsRs (τ : Nat → Tk) (k : Nat) : List (List T) → Option (List (List T) × List Nat)
  | [] => some ([], [])
  | r :: rs => match clsR τ k r with
    | some (r', ks) => match clsRs (updT τ (deads ks)) k rs with
      | some (rs', ks') => some (r' :: rs', ks ++ ks')
      | none => none
    | none => none

theorem clsR_ne {k : Nat} : ∀ {r : List T} {τ : Nat → Tk} {r' : List T} {ks : List Nat}, clsR τ k r = some (r', ks) → k ∉ ks
  | [], _, _, _, h => by simp only [clsR, Option.some.injEq, Prod.mk.injEq] at h; rw [← h.2]; simp
  | x :: r, τ, r', ks, h => by
    have skip : (match clsR τ k r with | some (r', ks) => some (x :: r', ks) | none => none) = some (r', ks) → k ∉ ks := by
      intro hx
      split at hx
      · rename_i r2 ks2 hr2
        simp only [Option.some.injEq, Prod.mk.injEq] at hx
        rw [← hx.2]; exact clsR_ne hr2
      · cases hx
    cases x with
    | tk k2 =>
      simp only [clsR] at h
      split at h
      · rename_i hb
        split at h
        · rename_i r2 ks2 hr2
          simp only [Option.some.injEq, Prod.mk.injEq] at h
          rw [← h.2]
          simp only [List.mem_cons, not_or]
          exact ⟨fun he => (by subst he; rw [Nat.beq_refl] at hb; cases hb), clsR_ne hr2⟩
        · cases h
      · cases h
    | _ => exact skip h

theorem updT_deads (ks : List Nat) (τ : Nat → Tk) (j : Nat) : updT τ (deads ks) j = if j ∈ ks then .dead else τ j := by
  induction ks generalizing τ with
  | nil => simp [deads, updT]
  | cons k ks ih =>
    have := ih (upd τ k .dead)
    simp only [deads, List.map_cons, updT] at this ⊢
    rw [this, upd_eq]
    by_cases h1 : j ∈ ks
    · simp [h1]
    · by_cases h2 : j = k <;> simp [h1, h2]

theorem clsT_eq (k u s e : Nat) (xs : List (List T)) (ks : List Nat) (τ : Nat → Tk) (hk : k ∉ ks) (j : Nat) : updT τ (clsT k u s e xs ks) j = if j = k then .live (u + ks.length) (.row s e xs) else if j ∈ ks then .dead else τ j := by
  have := updT_deads ks (upd τ k (.live (u + ks.length) (.row s e xs))) j
  simp only [clsT, updT, deads] at this ⊢
  rw [this, upd_eq]
  by_cases h1 : j ∈ ks
  · have : j ≠ k := fun he => hk (he ▸ h1)
    simp [h1, this]
  · by_cases h2 : j = k
    · subst h2; simp [hk]
    · simp [h1, h2]

theorem clsRs_congr {k : Nat} : ∀ (rs : List (List T)) {τ τ' : Nat → Tk}, (∀ j, j ≠ k → τ j = τ' j) → clsRs τ k rs = clsRs τ' k rs
  | [], _, _, _ => rfl
  | r :: rs, τ, τ', h => by
    unfold clsRs
    rw [clsR_congr r h]
    split
    · rename_i r' ks hc
      rw [clsRs_congr rs (τ := updT τ (deads ks)) (τ' := updT τ' (deads ks)) fun j hj => by rw [updT_deads, updT_deads, h j hj]]
    · rfl

theorem clsRs_ne {k : Nat} : ∀ {rs : List (List T)} {τ : Nat → Tk} {rs' : List (List T)} {ks : List Nat}, clsRs τ k rs = some (rs', ks) → k ∉ ks
  | [], _, _, _, h => by simp only [clsRs, Option.some.injEq, Prod.mk.injEq] at h; rw [← h.2]; simp
  | r :: rs, τ, rs', ks, h => by
    unfold clsRs at h
    split at h
    · rename_i r' ks1 h1
      split at h
      · rename_i rs2 ks2 h2
        simp only [Option.some.injEq, Prod.mk.injEq] at h
        rw [← h.2, List.mem_append, not_or]
        exact ⟨clsR_ne h1, clsRs_ne h2⟩
      · cases h
    · cases h

theorem clsRs_sound {k s e : Nat} : ∀ (todo : List (List T)) {S : St} {E : Env} {u : Nat} {pre rs' : List (List T)} {ks : List Nat}, RelE w0 U N E S a w → S.tok k = .live u (.row s e (pre ++ todo)) → clsRs S.tok k todo = some (rs', ks) →
    ∃ E', RelE w0 U N E' { S with tok := updT S.tok (clsT k u s e (pre ++ rs') ks) } a w
  | [], S, E, u, pre, rs', ks, h, hk, hc => by
    simp only [clsRs, Option.some.injEq, Prod.mk.injEq] at hc
    obtain ⟨rfl, rfl⟩ := hc
    refine ⟨E, h.congr rfl ?_ rfl⟩
    simp only [clsT, updT, List.map_nil, List.length_nil, Nat.add_zero]
    exact (upd_self hk).symm
  | r :: rs, S, E, u, pre, rs', ks, h, hk, hc => by
    unfold clsRs at hc
    split at hc
    · rename_i r' ks1 h1
      split at hc
      · rename_i rs2 ks2 h2
        simp only [Option.some.injEq, Prod.mk.injEq] at hc
        obtain ⟨rfl, rfl⟩ := hc
        have hset : ∀ x, (pre ++ r :: rs).set pre.length x = pre ++ x :: rs := fun x => by simp
        obtain ⟨E1, g1⟩ := clsR_sound (k := k) (s := s) (e := e) (xs := pre ++ r :: rs) (i := pre.length) (by simp) r (pre := []) h (by rw [List.nil_append, hset]; exact hk) h1
        rw [List.nil_append, hset] at g1
        have n1 := clsR_ne h1
        have hk1 : (updT S.tok (clsT k u s e (pre ++ r' :: rs) ks1)) k = .live (u + ks1.length) (.row s e ((pre ++ [r']) ++ rs)) := by
          rw [clsT_eq _ _ _ _ _ _ _ n1, if_pos rfl]; simp
        have hcg : clsRs (updT S.tok (clsT k u s e (pre ++ r' :: rs) ks1)) k rs = some (rs2, ks2) := by
          rw [← h2]
          exact clsRs_congr rs fun j hj => by rw [clsT_eq _ _ _ _ _ _ _ n1, updT_deads, if_neg hj]
        obtain ⟨E2, g2⟩ := clsRs_sound rs g1 hk1 hcg
        have n2 := clsRs_ne h2
        refine ⟨E2, g2.congr rfl ?_ rfl⟩
        funext j
        simp only []
        rw [clsT_eq _ _ _ _ _ _ _ n2, clsT_eq _ _ _ _ _ _ _ n1, clsT_eq _ _ _ _ _ _ _ (by rw [List.mem_append, not_or]; exact ⟨n1, n2⟩)]
        by_cases h3 : j = k
        · simp [h3, Nat.add_assoc]
        · by_cases h4 : j ∈ ks2 <;> by_cases h5 : j ∈ ks1 <;> simp [h3, h4, h5]
      · cases hc
    · cases hc

theorem clsRs_le {σ σ' : Nat → Option D} {k : Nat} : ∀ {rs : List (List T)} {τ τ' : Nat → Tk} {q : List (List T) × List Nat}, Le σ σ' τ τ' → clsRs τ k rs = some q → clsRs τ' k rs = some q
  | [], _, _, _, _, h => h
  | r :: rs, τ, τ', q, L, h => by
    unfold clsRs at h ⊢
    split at h
    · rename_i h1
      rw [clsR_le L h1]
      simp only []
      split at h
      · rename_i h2; rw [clsRs_le (Le.updT _ L) h2]; exact h
      · cases h
    · cases h

/-! ### a row that is given up: shared from here on -/
def labFrz (lab : Nat → Lab) (k : Nat) : Nat → Lab := fun b => match lab b with
  | .own j p => if j = k then .shared else .own j p
  | l => l

theorem RelE.freeze1 (h : RelE w0 U N E S a w) {k u s e : Nat} {xs : List (List T)} (hk : S.tok k = .live u (.row s e xs)) :
    ∃ E', RelE w0 U N E' { S with tok := upd S.tok k .dead } a w ∧ E'.n = E.n ∧ E'.hv = E.hv ∧ KeepS w w E.lab E'.lab ∧ TS w E'.lab E'.n (.shr s (shTss xs)) (E'.hv k) := by
  have hb := h.tok k u _ hk
  simp only [BR] at hb
  let E' : Env := { E with lab := labFrz E.lab k }
  have hS : KeepS w w E.lab E'.lab := fun b hb => ⟨by simp only [E', labFrz, hb], rfl⟩
  have st : Stp w w E E' S.tok (upd S.tok k .dead) (fun j => j = k) := by
    refine ⟨Nat.le_refl _, fun _ _ => rfl, fun _ _ => rfl, hS, fun j hj b p hb => ⟨by simp only [E', labFrz, hb]; rw [if_neg hj], rfl⟩, fun j hb => ?_, fun j u2 b2 _ hl => ?_⟩
    · unfold born; rw [upd_eq]; split
      · simp
      · exact hb
    · rw [upd_eq] at hl
      split at hl
      · cases hl
      · rename_i hj; exact ⟨u2, b2, hl, Nat.le_refl _, fun _ => hj⟩
  have src : ∀ b j p, E'.lab b = .own j p → E.lab b = .own j p ∧ j ≠ k := by
    intro b j p hb
    simp only [E', labFrz] at hb
    split at hb
    · rename_i j2 p2 hl
      split at hb
      · cases hb
      · rename_i hne
        injection hb with e1 e2
        subst e1 e2
        exact ⟨hl, hne⟩
    · rename_i hl; exact absurd hb (hl _ _)
  refine ⟨E', h.stp st ⟨h.inv.os, h.inv.tape, h.inv.output, h.inv.size, h.inv.prot, fun b j p hb hl => h.inv.uno b j p hb (src b j p hl).1, h.inv.ult, fun b hb => h.inv.lt b fun h1 => by simp only [E', labFrz, h1] at hb; exact hb rfl,
    fun b j p hb => st.brn j (h.inv.knx b j p (src b j p hb).1), fun b b' j p h1 h2 => h.inv.inj b b' j p (src b j p h1).1 (src b' j p h2).1, fun b hb hl => ?_, fun j hj => ?_⟩ h.defers h.tmps (fun _ _ hd => .inl ⟨hd, rfl⟩) (fun j u2 b2 hl => ?_) (fun j hj => ?_), rfl, rfl, hS, ?_⟩
  · simp only [E', labFrz] at hl
    split at hl
    · rename_i j2 p2 hl2; exact absurd hl2 (h.inv.uno b j2 p2 hb)
    · exact h.inv.ush b hb hl
  · obtain ⟨h1, h2, h3⟩ := h.inv.anc j hj
    exact ⟨st.brn j h1, h2, h3⟩
  · simp only [upd_eq] at hl
    split at hl
    · cases hl
    · rename_i hj; exact .inl ⟨hl, hj⟩
  · show upd S.tok k _ j = _
    have h1 := h.tnx j hj
    rw [upd_eq, if_neg (by rintro rfl; rw [hk] at h1; cases h1)]
    exact h1
  · have := TO.freeze (E' := E') hS (Nat.le_refl _) (fun b q hb => ⟨by simp only [E', labFrz, hb, if_true], rfl⟩) hb
    exact TS.sh this

def C.frz (τ : Nat → Tk) : C → C
  | .sl k => match rowOf τ k with
    | some (_, s, _, xs) => .lst s (shTss xs)
    | none => .sl k
  | c => c
def C.slks : List C → List Nat
  | [] => []
  | .sl k :: r => k :: C.slks r
  | _ :: r => C.slks r
def frzOk (τ : Nat → Tk) : List Nat → Bool
  | [] => true
  | k :: r => (rowOf τ k).isSome && frzOk (upd τ k .dead) r

theorem RelE.freezes : ∀ (ks : List Nat) {S : St} {E : Env}, RelE w0 U N E S a w → frzOk S.tok ks = true →
    ∃ E', RelE w0 U N E' { S with tok := updT S.tok (deads ks) } a w ∧ E'.n = E.n ∧ E'.hv = E.hv ∧ KeepS w w E.lab E'.lab ∧
      ∀ k ∈ ks, ∃ u s e xs, rowOf S.tok k = some (u, s, e, xs) ∧ TS w E'.lab E'.n (.shr s (shTss xs)) (E'.hv k)
  | [], S, E, h, _ => ⟨E, h, rfl, rfl, fun _ hb => ⟨hb, rfl⟩, by simp⟩
  | k :: ks, S, E, h, hok => by
    simp only [frzOk, Bool.and_eq_true] at hok
    obtain ⟨⟨u, s, e, xs⟩, hr⟩ := Option.isSome_iff_exists.1 hok.1
    obtain ⟨E1, g1, g2, g3, g4, g5⟩ := RelE.freeze1 h (rowOf_some hr)
    obtain ⟨E2, f1, f2, f3, f4, f5⟩ := RelE.freezes ks g1 hok.2
    refine ⟨E2, f1, f2.trans g2, f3.trans g3, fun b hb => ⟨(f4 b (g4 b hb).1).1, rfl⟩, fun j hj => ?_⟩
    rcases List.mem_cons.1 hj with rfl | hj
    · refine ⟨u, s, e, xs, hr, ?_⟩
      rw [f2, f3]
      exact TS.map f4 (Nat.le_refl _) g5
    · obtain ⟨u', s', e', xs', h1, h2⟩ := f5 j hj
      refine ⟨u', s', e', xs', ?_, h2⟩
      have : j ≠ k := by
        rintro rfl
        simp only [rowOf, upd_same] at h1
        cases h1
      simpa only [rowOf, upd_ne _ _ this] using h1

theorem frz_mem : ∀ {cs : List C} {k : Nat}, C.sl k ∈ cs → k ∈ C.slks cs
  | c :: cs, k, h => by
    rcases List.mem_cons.1 h with rfl | h
    · simp [C.slks]
    · have := frz_mem h
      cases c <;> simp [C.slks, this]

def A.mapC (f : C → C) : A → A
  | .c x => .c (f x)
  | .g xs => .g (xs.map f)
def D.mapC (f : C → C) : D → D
  | .c x => .c (f x)
  | .g xs => .g (xs.map f)
  | .tup xs => .tup (xs.map (A.mapC f))
  | .arr xs => .arr xs

theorem VR.mapC {E' : Env} {τ' : Nat → Tk} {f : C → C} {d : D} {v : Value} (hf : ∀ c v, c ∈ d.cs → VC w E' τ' c v → VC w E' τ' (f c) v) (h : VR w E' τ' d v) : VR w E' τ' (d.mapC f) v := by
  cases d with
  | c x => exact hf x v (by simp [D.cs]) h
  | g xs =>
    obtain ⟨vs, hv, ha⟩ := h
    exact ⟨vs, hv, all2_map_r ha fun c v hc hv => hf c v (by simpa [D.cs] using hc) hv⟩
  | arr xs => exact h
  | tup xs =>
    obtain ⟨vs, hv, ha⟩ := h
    refine ⟨vs, hv, all2_map_r ha fun x v hx hv => ?_⟩
    cases x with
    | c y => exact hf y v (by simp only [D.cs, List.mem_flatMap]; exact ⟨_, hx, by simp [A.cs]⟩) hv
    | g ys =>
      obtain ⟨vs2, hv2, ha2⟩ := hv
      exact ⟨vs2, hv2, all2_map_r ha2 fun c v hc hv => hf c v (by simp only [D.cs, List.mem_flatMap]; exact ⟨_, hx, by simpa [A.cs] using hc⟩) hv⟩

/-- What lies in a slot is given up. -/
theorem RelE.freezeD (h : RelE w0 U N E S a w) {t : Nat} {d : D} (hs : S.slot t = some d) (hok : frzOk S.tok (C.slks d.cs) = true) :
    ∃ E', RelE w0 U N E' { S with slot := upd S.slot t (some (d.mapC (C.frz S.tok))), tok := updT S.tok (deads (C.slks d.cs)) } a w := by
  obtain ⟨E', g1, g2, g3, g4, g5⟩ := RelE.freezes _ h hok
  refine ⟨E', (g1.slots (upd S.slot t (some (d.mapC (C.frz S.tok)))) fun t' d' hd => ?_)⟩
  rw [upd_eq] at hd
  split at hd
  · rename_i ht; subst ht
    injection hd with hd; subst hd
    refine VR.mapC (fun c v hc hv => ?_) (g1.slot t' d hs)
    cases c with
    | sl k =>
      obtain ⟨u, s, e, xs, h1, h2⟩ := g5 k (frz_mem hc)
      simp only [C.frz, h1]
      have h3 : v = E'.hv k := hv.2.1
      subst h3
      exact h2
    | _ => exact hv
  · exact g1.slot t' d' hd

theorem frzOk_le {σ σ' : Nat → Option D} : ∀ {ks : List Nat} {τ τ' : Nat → Tk}, Le σ σ' τ τ' → frzOk τ ks = true → frzOk τ' ks = true
  | [], _, _, _, _ => rfl
  | k :: ks, τ, τ', L, h => by
    simp only [frzOk, Bool.and_eq_true] at h ⊢
    obtain ⟨q, hq⟩ := Option.isSome_iff_exists.1 h.1
    exact ⟨by rw [L.row hq]; rfl, frzOk_le (L.upd _ _) h.2⟩
theorem frz_le {σ σ' : Nat → Option D} {τ τ' : Nat → Tk} (L : Le σ σ' τ τ') {ks : List Nat} (hok : frzOk τ ks = true) {c : C} (hc : ∀ k, c = .sl k → k ∈ ks) : C.frz τ' c = C.frz τ c := by
  cases c with
  | sl k =>
    have hk := hc k rfl
    have : ∀ {ks : List Nat} {τ : Nat → Tk}, frzOk τ ks = true → k ∈ ks → (rowOf τ k).isSome = true := by
      intro ks
      induction ks with
      | nil => intro τ _ h; cases h
      | cons j ks ih =>
        intro τ h hk
        simp only [frzOk, Bool.and_eq_true] at h
        rcases List.mem_cons.1 hk with rfl | hk
        · exact h.1
        · have := ih h.2 hk
          by_cases hj : k = j
          · subst hj; exact h.1
          · simpa only [rowOf, upd_ne _ _ hj] using this
    obtain ⟨q, hq⟩ := Option.isSome_iff_exists.1 (this hok hk)
    simp only [C.frz, hq, L.row hq]
  | _ => rfl
end
end Go.V

/- The program logic V: operations with what is told anew behind them. -/
namespace Go.V
section
variable {P : Program} {w0 : World} {U : Anc} {N : Nat} {E : Env} {S : St} {a : Act} {w : World}

/-! ### equality of structs -/
mutual
def eqT (P : Program) : Nat → TypeId → List C → List C → Option Bool
  | 0, _, _, _ => none
  | d + 1, t, cs, cs' => match P.underlying t with
    | some (.int _) => match cs, cs' with
      | [.int k a], [.int k' b] => match decide (k = k') with
        | true => some (a == b)
        | false => none
      | _, _ => none
    | some .bool => match cs, cs' with
      | [.bool a], [.bool b] => some (a == b)
      | _, _ => none
    | some (.struct fs) => match P.stoodInHeld t with
      | false => eqFs P d cs cs' fs.toList
      | true => none
    | _ => none
def eqFs (P : Program) : Nat → List C → List C → List Field → Option Bool
  | _, _, _, [] => some true
  | 0, _, _, _ => none
  | d + 1, cs, cs', f :: fs => match f.name == "_", szOf P f.type, aggOf P f.type with
    | false, some sz, some ag => match cut ag sz cs f.offset, cut ag sz cs' f.offset with
      | some x, some y => match eqT P d f.type (dcs x) (dcs y), eqFs P d cs cs' fs with
        | some a, some b => some (a && b)
        | _, _ => none
      | _, _ => none
    | _, _, _ => none
def dcs : D → List C
  | .c x => [x]
  | .g xs => xs
  | _ => []
end

/-- What a value's cells are, as eqT sees them. -/
def cellsV : Value → List Value
  | .agg vs => vs.toList
  | v => [v]

theorem eqT_sound (P : Program) (w : World) (E : Env) (τ : Nat → Tk) : ∀ n,
    (∀ t cs cs' b, eqT P n t cs cs' = some b → ∀ d x y, (∃ dx, dcs dx = cs ∧ VR w E τ dx x ∧ (∃ ag, aggOf P t = some ag ∧ (ag = true ↔ ∃ l, dx = .g l))) → (∃ dy, dcs dy = cs' ∧ VR w E τ dy y ∧ (∃ ag, aggOf P t = some ag ∧ (ag = true ↔ ∃ l, dy = .g l))) → (Op.equalIn (n + d) t x y).run P w = .ok b w) ∧
    (∀ cs cs' fs b, eqFs P n cs cs' fs = some b → ∀ d vs vs', All2 (VC w E τ) cs vs → All2 (VC w E τ) cs' vs' → (Op.eqFields (n + d) vs.toArray vs'.toArray fs).run P w = .ok b w) := by
  intro n
  induction n with
  | zero =>
    refine ⟨fun t cs cs' b h => by simp [eqT] at h, fun cs cs' fs b h d vs vs' _ _ => ?_⟩
    cases fs with
    | nil => simp only [eqFs, Option.some.injEq] at h; subst h; simp [Op.eqFields]
    | cons f fs => simp [eqFs] at h
  | succ n ih =>
    refine ⟨fun t cs cs' b h d x y hx hy => ?_, fun cs cs' fs b h d vs vs' hv hv' => ?_⟩
    · obtain ⟨dx, rfl, hx, ag, hag, hgx⟩ := hx
      obtain ⟨dy, rfl, hy, ag', hag', hgy⟩ := hy
      rw [hag] at hag'
      injection hag' with hag'
      subst hag'
      rw [show n + 1 + d = (n + d) + 1 by omega]
      unfold eqT at h
      split at h
      · rename_i k hu
        have hf : ag = false := by unfold aggOf at hag; rw [hu] at hag; simpa using hag.symm
        subst hf
        split at h
        · rename_i k a k' b' h1 h2
          have hdx : dx = .c (.int k a) := by cases dx <;> simp [dcs] at h1 <;> simp_all
          have hdy : dy = .c (.int k' b') := by cases dy <;> simp [dcs] at h2 <;> simp_all
          subst hdx hdy
          split at h
          · rename_i hk
            have hk := of_decide_eq_true hk
            subst hk
            injection h with h
            subst h
            have e1 : x = .int k a := hx
            have e2 : y = .int k b' := hy
            subst e1 e2
            simp [Op.equalIn, run_underlying hu]
          · cases h
        · cases h
      · rename_i hu
        have hf : ag = false := by unfold aggOf at hag; rw [hu] at hag; simpa using hag.symm
        subst hf
        split at h
        · rename_i a b' h1 h2
          have hdx : dx = .c (.bool a) := by cases dx <;> simp [dcs] at h1 <;> simp_all
          have hdy : dy = .c (.bool b') := by cases dy <;> simp [dcs] at h2 <;> simp_all
          subst hdx hdy
          injection h with h
          subst h
          have e1 : x = .bool a := hx
          have e2 : y = .bool b' := hy
          subst e1 e2
          simp [Op.equalIn, run_underlying hu]
        · cases h
      · rename_i fs hu
        have hf : ag = true := by unfold aggOf at hag; rw [hu] at hag; simpa using hag.symm
        obtain ⟨lx, rfl⟩ := hgx.1 hf
        obtain ⟨ly, rfl⟩ := hgy.1 hf
        obtain ⟨vs, rfl, ha⟩ := hx
        obtain ⟨vs', rfl, ha'⟩ := hy
        split at h
        · rename_i hst
          have hfo : P.fieldsOf t = fs := by simp [Program.fieldsOf, hu]
          rw [run_equalIn_struct (P := P) w (n + d) t vs.toArray vs'.toArray (by rw [hfo]; exact hu) hst, hfo]
          exact ih.2 _ _ _ _ h d vs vs' ha ha'
        · cases h
      · cases h
    · cases fs with
      | nil => simp only [eqFs, Option.some.injEq] at h; subst h; simp [Op.eqFields]
      | cons f fs =>
        simp only [eqFs] at h
        split at h
        · rename_i sz ag hn hsz hag
          split at h
          · rename_i x y hcx hcy
            split at h
            · rename_i r s hr hs
              injection h with h
              subst h
              have hn' : f.name ≠ "_" := by simpa using hn
              obtain ⟨vx, hvx, hrx⟩ := run_part_cut (S := ⟨fun _ => none, τ, 0⟩) hag hsz hv hcx
              obtain ⟨vy, hvy, hry⟩ := run_part_cut (S := ⟨fun _ => none, τ, 0⟩) hag hsz hv' hcy
              have hshape : ∀ {cs : List C} {x : D}, cut ag sz cs f.offset = some x → (ag = true ↔ ∃ l, x = .g l) := by
                intro cs x hc
                unfold cut at hc
                cases ag with
                | true =>
                  simp only [if_true] at hc
                  split at hc
                  · injection hc with hc; subst hc; simp
                  · cases hc
                | false =>
                  simp only [Bool.false_eq_true, if_false] at hc
                  split at hc
                  · injection hc with hc; subst hc; simp
                  · cases hc
              have he := ih.1 _ _ _ _ hr (d + 1) vx vy ⟨x, rfl, hrx, ag, hag, hshape hcx⟩ ⟨y, rfl, hry, ag, hag, hshape hcy⟩
              rw [show n + (d + 1) = n + 1 + d by omega] at he
              have hrest := ih.2 _ _ _ _ hs (d + 1) vs vs' hv hv'
              rw [show n + (d + 1) = n + 1 + d by omega] at hrest
              rw [Op.eqFields]
              simp only [if_pos hn', Sem.run_bind, hvx, hvy, he, Result.andThen_ok]
              cases r
              · simp
              · simpa using hrest
            · cases h
          · cases h
        · cases h

def effEqG (P : Program) (σ : Nat → Option D) (op : BinOp) (t : TypeId) (x y : Operand) : EffV :=
  match evD σ x, evD σ y, aggOf P t, P.eqGuardType P.depth t with
  | some (.g cs), some (.g cs'), some true, false => match eqT P 24 t cs cs' with
    | some b => match op with
      | .eql => some (.c (.bool b), [], True)
      | .neq => some (.c (.bool (!b)), [], True)
      | _ => none
    | none => none
  | _, _, _, _ => none

theorem effEqG_sound (h : RelE w0 U N E S a w) {o : Oper} {op : BinOp} {t ty : TypeId} {x y : Operand} (ho : o.op = .binOp op t x y ty) {d : D} {rk : List Nat} {K : Prop} (hx : effEqG P S.slot op t x y = some (d, rk, K)) (_ : K) : Val P a w E S.tok o d := by
  unfold effEqG at hx
  split at hx
  · rename_i cs cs' h1 h2 hag hg
    split at hx
    · rename_i b hb
      have v1 := evD_sound h h1
      have v2 := evD_sound h h2
      have he := (eqT_sound P w E S.tok 24).1 _ _ _ _ hb 9976 (a.eval x) (a.eval y) ⟨.g cs, rfl, v1, true, hag, by simp⟩ ⟨.g cs', rfl, v2, true, hag, by simp⟩
      have he : (Op.equal t (a.eval x) (a.eval y)).run P w = .ok b w := he
      obtain ⟨vs, e1, _⟩ := v1
      obtain ⟨vs', e2, _⟩ := v2
      have hgd : (eqGuard op t x y (a.eval x) (a.eval y)).run P w = .ok () w := by
        rw [e1, e2]
        cases op <;> simp [eqGuard, run_program, hg]
      split at hx
      · simp only [Option.some.injEq, Prod.mk.injEq] at hx
        obtain ⟨rfl, rfl, rfl⟩ := hx
        refine ⟨.bool b, ?_, rfl⟩
        simp only [execOp, ho, Sem.run_bind, hgd, Result.andThen_ok]
        rw [e1, e2] at he ⊢
        simp [binOp, he]
      · simp only [Option.some.injEq, Prod.mk.injEq] at hx
        obtain ⟨rfl, rfl, rfl⟩ := hx
        refine ⟨.bool (!b), ?_, rfl⟩
        simp only [execOp, ho, Sem.run_bind, hgd, Result.andThen_ok]
        rw [e1, e2] at he ⊢
        simp [binOp, he]
      · cases hx
    · cases hx
  · cases hx
end
end Go.V

/- The program logic V: operations with closings, promotions and freezings. -/
namespace Go.V
section
variable {P : Program} {w0 : World} {U : Anc} {N : Nat} {E : Env} {S : St} {a : Act} {w : World}

/-- Some rows of a block with nil told as an empty row. -/
theorem rt_rel {τ : Nat → Tk} {k n s e : Nat} {p : List (Nat × Nat)} {xs xs' : List (List T)} {v : Value} (hl : xs'.length = xs.length)
    (hr : ∀ (i : Nat) (r' : List T), xs'[i]? = some r' → ∃ r : List T, xs[i]? = some r ∧ (r' = r ∨ ∃ cs, r' = rtR cs r)) (h : TO w E τ k n p (.row s e xs) v) : TO w E τ k n p (.row s e xs') v := by
  cases n with
  | zero => exact h.elim
  | succ n =>
    simp only [TO] at h ⊢
    rcases h with ⟨h1, rfl⟩ | ⟨b, c, cur, g1, g2, g3, g4, g5, g6, g7, g8⟩
    · exact .inl ⟨h1, List.eq_nil_of_length_eq_zero hl⟩
    · refine .inr ⟨b, c, cur, by rw [hl]; exact g1, g2, g3, by rw [hl]; exact g4, g5, g6, fun q hq => ?_, fun i q o x hi ho => ?_⟩
      · obtain ⟨i, hi⟩ := List.mem_iff_getElem?.1 hq
        obtain ⟨r, h1, h2⟩ := hr i q hi
        have := g7 r (List.mem_of_getElem? h1)
        rcases h2 with rfl | ⟨cs, rfl⟩
        · exact this
        · rw [rtR_length]; exact this
      · obtain ⟨r, h1, h2⟩ := hr i q hi
        rcases h2 with rfl | ⟨cs, rfl⟩
        · exact g8 i q o x h1 ho
        · obtain ⟨c0, x0, hx0, rfl⟩ := rtR_get _ _ _ _ ho
          obtain ⟨v', hv', ht⟩ := g8 i r o x0 h1 hx0
          exact ⟨v', hv', rtT_sound ht⟩

/-! ### slices that are built of rows -/
def effBuildSliceK (P : Program) (an : An) (σ : Nat → Option D) (τ : Nat → Tk) (fr : Nat) (t : TypeId) (len : Nat) (parts : Array (Nat × Operand)) : Option (D × List (Nat × Tk)) :=
  match effBuildSlice P σ fr t len parts with
  | some (d, T) => match an.cl with
    | false => some (d, T)
    | true => match T with
      | [(k, .live u (.row s e rows))] => match clsRs (upd τ k (.live u (.row s e rows))) k rows with
        | some (rows', ks) => some (d, (k, .live (u + ks.length) (.row s e (rows'.map (rtR an.cols)))) :: deads ks)
        | none => none
      | _ => none
  | none => none

theorem updT_cons_deads {τ : Nat → Tk} {k : Nat} {x : Tk} {ks : List Nat} (hk : k ∉ ks) : updT τ ((k, x) :: deads ks) = upd (updT τ (deads ks)) k x := by
  funext j
  simp only [updT]
  rw [updT_deads, upd_eq, upd_eq, updT_deads]
  by_cases h : j = k
  · subst h; simp [hk]
  · simp [h]

/-- Behind a step: the rows closed, and nil told as an empty row. -/
theorem close_rt {k u s e : Nat} {rows rows' : List (List T)} {ks : List Nat} (cols : List (Option (Bool × Nat × Nat))) (h : RelE w0 U N E S a w) (hk : S.tok k = .live u (.row s e rows)) (hc : clsRs S.tok k rows = some (rows', ks)) :
    ∃ E', RelE w0 U N E' { S with tok := updT S.tok ((k, .live (u + ks.length) (.row s e (rows'.map (rtR cols)))) :: deads ks) } a w := by
  obtain ⟨E', g⟩ := clsRs_sound rows (pre := []) h hk hc
  have hn := clsRs_ne hc
  simp only [List.nil_append] at g
  have hk' : (updT S.tok (clsT k u s e rows' ks)) k = .live (u + ks.length) (.row s e rows') := by rw [clsT_eq _ _ _ _ _ _ _ hn, if_pos rfl]
  have hb := g.tok k _ _ hk'
  simp only [BR] at hb
  have := g.retell (b' := .row s e (rows'.map (rtR cols))) hk' (by simp only [BR]; exact rt_sound cols hb)
  refine ⟨E', this.congr rfl ?_ rfl⟩
  simp only []
  rw [updT_cons_deads hn]
  funext j
  rw [upd_eq, upd_eq, clsT_eq _ _ _ _ _ _ _ hn, updT_deads]
  by_cases h : j = k <;> simp [h]

theorem effBuildSliceK_sound (h : RelE w0 U N E S a w) {fr : Nat} (hk : S.tok fr = .unborn) (hlt : fr < S.nx) {o : Oper} (hd : dstOk N o.dst = true) {an : An} {t : TypeId} {len : Nat} {parts : Array (Nat × Operand)} (ho : o.op = .buildSlice t len parts) {d : D} {tk : List (Nat × Tk)}
    (hx : effBuildSliceK P an S.slot S.tok fr t len parts = some (d, tk)) : OpW P w0 U N S a w o d tk := by
  unfold effBuildSliceK at hx
  split at hx
  · rename_i d0 T hb
    have base := Eff.opW hd (effBuildSlice_sound (P := P) h hk hlt ho hb)
    split at hx
    · simp only [Option.some.injEq, Prod.mk.injEq] at hx
      obtain ⟨rfl, rfl⟩ := hx
      exact base
    · split at hx
      · rename_i k u s e rows
        split at hx
        · rename_i rows' ks hc
          simp only [Option.some.injEq, Prod.mk.injEq] at hx
          obtain ⟨rfl, rfl⟩ := hx
          refine OpW.then base fun E' a' w' hr => ?_
          obtain ⟨E2, h2⟩ := close_rt an.cols hr (k := k) (u := u) (s := s) (e := e) (rows := rows) (by simp only [updT, upd_same]) hc
          refine ⟨E2, h2.congr rfl ?_ rfl⟩
          simp only [updT]
          congr 1
          funext j
          rw [upd_eq, upd_eq, upd_eq]
          split <;> rfl
        · cases hx
      · cases hx
  · cases hx

theorem effBuildSliceK_le {σ σ' : Nat → Option D} {τ τ' : Nat → Tk} {an : An} {fr : Nat} (L : Le σ σ' τ τ') {t : TypeId} {n : Nat} {ps : Array (Nat × Operand)} {r : D × List (Nat × Tk)} (h : effBuildSliceK P an σ τ fr t n ps = some r) : effBuildSliceK P an σ' τ' fr t n ps = some r := by
  unfold effBuildSliceK at h ⊢
  split at h
  · rename_i hb
    rw [effBuildSlice_le L hb]
    simp only []
    split at h
    · exact h
    · split at h
      · split at h
        · rename_i hc; rw [clsRs_le (L.upd _ _) hc]; exact h
        · cases h
      · cases h
  · cases h

/-! ### slices that are made, with nil told as empty rows -/
def effMakeK (P : Program) (an : An) (σ : Nat → Option D) (fr : Nat) (t : TypeId) (l c : Operand) : Option (D × List (Nat × Tk) × Prop) :=
  match effMake P σ fr t l c with
  | some (d, T, K) => match an.cl with
    | false => some (d, T, K)
    | true => match T with
      | [(k, .live u (.row s e rows))] => some (d, [(k, .live u (.row s e (rows.map (rtR an.cols))))], K)
      | _ => none
  | none => none
theorem effMakeK_sound (h : RelE w0 U N E S a w) {fr : Nat} (hk : S.tok fr = .unborn) (hlt : fr < S.nx) {o : Oper} (hd : dstOk N o.dst = true) {an : An} {t : TypeId} {l c : Operand} (ho : o.op = .makeSlice t l c) {d : D} {tk : List (Nat × Tk)} {K : Prop}
    (hx : effMakeK P an S.slot fr t l c = some (d, tk, K)) (hK : K) : OpW P w0 U N S a w o d tk := by
  unfold effMakeK at hx
  split at hx
  · rename_i d0 T K0 hm
    split at hx
    · simp only [Option.some.injEq, Prod.mk.injEq] at hx
      obtain ⟨rfl, rfl, rfl⟩ := hx
      exact Eff.opW hd (effMake_sound h hk hlt ho hm hK)
    · split at hx
      · rename_i k u s e rows
        simp only [Option.some.injEq, Prod.mk.injEq] at hx
        obtain ⟨rfl, rfl, rfl⟩ := hx
        refine OpW.then (Eff.opW hd (effMake_sound h hk hlt ho hm hK)) fun E' a' w' hr => ?_
        have hk' : (updT S.tok [(k, .live u (.row s e rows))]) k = .live u (.row s e rows) := by simp only [updT, upd_same]
        have hb := hr.tok k _ _ hk'
        simp only [BR] at hb
        have h3 := hr.retell (b' := .row s e (rows.map (rtR an.cols))) hk' (by simp only [BR]; exact rt_sound _ hb)
        refine ⟨E', h3.congr rfl ?_ rfl⟩
        funext j
        simp only [updT, upd_eq]
        split <;> rfl
      · cases hx
  · cases hx
theorem effMakeK_le {σ σ' : Nat → Option D} {τ τ' : Nat → Tk} {an : An} {fr : Nat} (L : Le σ σ' τ τ') {t : TypeId} {l c : Operand} {r : D × List (Nat × Tk) × Prop} (h : effMakeK P an σ fr t l c = some r) : effMakeK P an σ' fr t l c = some r := by
  unfold effMakeK at h ⊢
  split at h
  · rename_i h0; rw [effMake_le L h0]; exact h
  · cases h

/-! ### an append of one row that names tokens -/
def appRow (P : Program) (an : An) (σ : Nat → Option D) (τ : Nat → Tk) (fr : Nat) (ts : Array TypeId) (xs : Array Operand) : Option (Nat × Nat × List (List T) × List T) :=
  match ts.toList, xs.toList with
  | [t, _], [x, y] => match P.underlying t, evD σ x, evD σ y with
    | some (.slice e), some (.c cx), some (.c cy) => match P.info? e with
      | some i => match srcRows τ i.size cy with
        | some (s, [r], _) => match cx with
          | .nils => some (s, e, [], r)
          | .sl k => match rowOf τ k with
            | some (_, _, _, rows) => some (s, e, rows, r)
            | none => none
          | _ => none
        | _ => none
      | none => none
    | _, _, _ => none
  | _, _ => none

def effAppendK (P : Program) (an : An) (σ : Nat → Option D) (τ : Nat → Tk) (fr : Nat) (ts : Array TypeId) (xs : Array Operand) : Option (D × List (Nat × Tk) × Prop) :=
  match effAppend P σ τ fr ts xs with
  | some (d, T, _, K) => match an.cl with
    | false => some (d, T, K)
    | true => match appRow P an σ τ fr ts xs with
      | some (s, e, rows, r) => match clsR (updT τ T) fr r with
        | some (r', ks) => some (d, T.dropLast ++ ((fr, .live (0 + ks.length) (.row s e (rows ++ [rtR an.cols r']))) :: deads ks), K)
        | none => none
      | none => none
  | none => none

theorem appRow_tok {fr : Nat} {an : An} {ts : Array TypeId} {xs : Array Operand} {σ : Nat → Option D} {τ : Nat → Tk} {d : D} {L : List (Nat × Tk)} {rk : List Nat} {K : Prop} {s e : Nat} {rows : List (List T)} {r : List T}
    (hap : effAppend P σ τ fr ts xs = some (d, L, rk, K)) (hr : appRow P an σ τ fr ts xs = some (s, e, rows, r)) : updT τ L fr = .live 0 (.row s e (rows ++ [r])) := by
  unfold appRow at hr
  split at hr
  · rename_i t t' x y h1 h2
    split at hr
    · rename_i e0 cx cy hu hcx hcy
      split at hr
      · rename_i i hi
        split at hr
        · rename_i s0 r0 rk' hsrc
          split at hr
          · simp only [Option.some.injEq, Prod.mk.injEq] at hr
            obtain ⟨rfl, rfl, rfl, rfl⟩ := hr
            rw [effAppend_nils h1 h2 hu hcx hcy hi hsrc hap]
            simp only [updT, upd_same]; rfl
          · rename_i k
            split at hr
            · rename_i u s' e' rows' hk
              simp only [Option.some.injEq, Prod.mk.injEq] at hr
              obtain ⟨rfl, rfl, rfl, rfl⟩ := hr
              rw [effAppend_sl h1 h2 hu hcx hcy hi hsrc hk hap]
              simp only [updT, upd_same]
            · cases hr
          · cases hr
        · cases hr
      · cases hr
    · cases hr
  · cases hr

theorem appRow_last {fr : Nat} {an : An} {ts : Array TypeId} {xs : Array Operand} {σ : Nat → Option D} {τ : Nat → Tk} {d : D} {L : List (Nat × Tk)} {rk : List Nat} {K : Prop} {q : Nat × Nat × List (List T) × List T}
    (hap : effAppend P σ τ fr ts xs = some (d, L, rk, K)) (hr : appRow P an σ τ fr ts xs = some q) : ∃ Y, L = L.dropLast ++ [(fr, Y)] := by
  unfold appRow at hr
  split at hr
  · rename_i t t' x y h1 h2
    split at hr
    · rename_i e0 cx cy hu hcx hcy
      split at hr
      · rename_i i hi
        split at hr
        · rename_i s0 r0 rk' hsrc
          split at hr
          · rw [effAppend_nils h1 h2 hu hcx hcy hi hsrc hap]
            exact ⟨_, rfl⟩
          · rename_i k
            split at hr
            · rename_i u s' e' rows' hk
              rw [effAppend_sl h1 h2 hu hcx hcy hi hsrc hk hap]
              exact ⟨_, rfl⟩
            · cases hr
          · cases hr
        · cases hr
      · cases hr
    · cases hr
  · cases hr

theorem effAppendK_sound (h : RelE w0 U N E S a w) {fr : Nat} (hk : S.tok fr = .unborn) (hlt : fr < S.nx) {o : Oper} (hd : dstOk N o.dst = true) {an : An} {ts : Array TypeId} {xs : Array Operand} (ho : o.op = .call { callee := .builtin .append, args := xs, argTypes := ts }) {d : D} {tk : List (Nat × Tk)} {K : Prop}
    (hx : effAppendK P an S.slot S.tok fr ts xs = some (d, tk, K)) (hK : K) : OpW P w0 U N S a w o d tk := by
  unfold effAppendK at hx
  split at hx
  · rename_i d0 L rk K0 hap
    split at hx
    · simp only [Option.some.injEq, Prod.mk.injEq] at hx
      obtain ⟨rfl, rfl, rfl⟩ := hx
      exact Eff.opW hd (effAppend_sound h hk hlt ho hap hK)
    · split at hx
      · rename_i s e rows r har
        split at hx
        · rename_i r' ks hcl
          simp only [Option.some.injEq, Prod.mk.injEq] at hx
          obtain ⟨rfl, rfl, rfl⟩ := hx
          have hT := appRow_tok hap har
          refine OpW.then (Eff.opW hd (effAppend_sound h hk hlt ho hap hK)) fun E' a' w' hr => ?_
          obtain ⟨E2, h2⟩ := close_app hr hT hcl
          have hn := clsR_ne hcl
          have hk' : (updT (updT S.tok L) (clsT fr 0 s e (rows ++ [r']) ks)) fr = .live (0 + ks.length) (.row s e (rows ++ [r'])) := by rw [clsT_eq _ _ _ _ _ _ _ hn, if_pos rfl]
          have hb := h2.tok fr _ _ hk'
          simp only [BR] at hb
          have h3 := h2.retell (b' := .row s e (rows ++ [rtR an.cols r'])) hk' (by
            simp only [BR]
            refine rt_rel (by simp) (fun i q hi => ?_) hb
            by_cases hlt : i < rows.length
            · rw [List.getElem?_append_left hlt] at hi
              exact ⟨q, by rw [List.getElem?_append_left hlt]; exact hi, .inl rfl⟩
            · rw [List.getElem?_append_right (by omega)] at hi
              have : i - rows.length = 0 := by
                rcases Nat.eq_zero_or_pos (i - rows.length) with h9 | h9
                · exact h9
                · rw [List.getElem?_eq_none (by simp; omega)] at hi; cases hi
              rw [this] at hi
              exact ⟨r', by rw [List.getElem?_append_right (by omega), this]; rfl, .inr ⟨_, by simpa using hi.symm⟩⟩)
          refine ⟨E2, h3.congr rfl ?_ rfl⟩
          simp only []
          obtain ⟨Y, hY⟩ := appRow_last hap har
          have hLe : ∀ j, j ≠ fr → updT S.tok L j = updT S.tok L.dropLast j := fun j hj => by
            conv => lhs; rw [hY]
            rw [updT_append]
            simp only [updT]
            rw [upd_ne _ _ hj]
          rw [updT_append, updT_cons_deads hn]
          funext j
          rw [upd_eq, upd_eq, clsT_eq _ _ _ _ _ _ _ hn, updT_deads]
          by_cases h9 : j = fr
          · simp [h9]
          · simp [h9, hLe j h9]
        · cases hx
      · cases hx
  · cases hx

theorem appRow_le {σ σ' : Nat → Option D} {τ τ' : Nat → Tk} {an : An} {fr : Nat} (L : Le σ σ' τ τ') {ts : Array TypeId} {xs : Array Operand} {r : Nat × Nat × List (List T) × List T} (h : appRow P an σ τ fr ts xs = some r) : appRow P an σ' τ' fr ts xs = some r := by
  unfold appRow at h ⊢
  split at h
  · split at h
    · rename_i h1 h2 h3
      rw [h1, L.ev h2, L.ev h3]
      simp only []
      split at h
      · split at h
        · rename_i h4
          rw [srcRows_le L h4]
          simp only []
          split at h
          · exact h
          · split at h
            · rename_i h5; simp only [L.row h5]; exact h
            · cases h
          · cases h
        · cases h
      · cases h
    · cases h
  · cases h

theorem effAppendK_le {σ σ' : Nat → Option D} {τ τ' : Nat → Tk} {an : An} {fr : Nat} (L : Le σ σ' τ τ') {ts : Array TypeId} {xs : Array Operand} {r : D × List (Nat × Tk) × Prop} (h : effAppendK P an σ τ fr ts xs = some r) : effAppendK P an σ' τ' fr ts xs = some r := by
  unfold effAppendK at h ⊢
  split at h
  · rename_i h0
    rw [effAppend_le L h0]
    simp only []
    split at h
    · exact h
    · split at h
      · rename_i h1
        rw [appRow_le L h1]
        simp only []
        split at h
        · rename_i h2; rw [clsR_le (Le.updT _ L) h2]; exact h
        · cases h
      · cases h
  · cases h

/-! ### a store of a token into a row -/
def effStoreK (P : Program) (an : An) (σ : Nat → Option D) (τ : Nat → Tk) (t : TypeId) (x y : Operand) : Option (List (Nat × Tk) × Prop) :=
  match effStore P an σ τ t x y with
  | some (L, K) => match an.cl with
    | false => some (L, K)
    | true => match evD σ x, (evD σ y).bind D.cells with
      | some (.c (.eptr k s i off)), some cs => match rowOf τ k, toTs cs with
        | some (u, _, e, rows), some ts => match (match an.r with | some r => some r | none => rows[i]?) with
          | some r => match clsR (updT τ L) k (setRange r off ts) with
            | some (r', ks) => some ((k, .live (u + 1 + ks.length) (.row s e (rows.set i (rtR an.cols r')))) :: deads ks, K ∧ i < rows.length)
            | none => none
          | none => none
        | _, _ => none
      | _, _ => none
  | none => none

theorem effStoreK_C {an : An} {σ : Nat → Option D} {τ : Nat → Tk} {t : TypeId} {x y : Operand} {tk : List (Nat × Tk)} {K : Prop} (h : effStoreK P an σ τ t x y = some (tk, K)) :
    (an.cl = false ∧ effStoreC P an σ τ t x y = some (tk, K)) ∨ ∃ (L : List (Nat × Tk)) (K0 : Prop) (k u s e i : Nat) (rows : List (List T)) (r' : List T) (ks : List Nat), effStoreC P an σ τ t x y = some (L ++ clsT k (u + 1) s e (rows.set i r') ks, K0 ∧ i < rows.length) ∧ (K ↔ (K0 ∧ i < rows.length)) ∧ k ∉ ks ∧ tk = (k, .live (u + 1 + ks.length) (.row s e (rows.set i (rtR an.cols r')))) :: deads ks ∧ (∃ b, updT τ L = upd τ k b) ∧ an.cl = true ∧ ∃ s' off, evD σ x = some (.c (.eptr k s' i off)) := by
  unfold effStoreK at h
  split at h
  · rename_i L K0 h0
    split at h
    · rename_i hcl
      exact .inl ⟨hcl, by unfold effStoreC; rw [h0, hcl]; exact h⟩
    · rename_i hcl
      split at h
      · rename_i k s i off cs hx hy
        split at h
        · rename_i u s' e rows ts hrow hts
          split at h
          · rename_i r hr
            split at h
            · rename_i r' ks hc
              simp only [Option.some.injEq, Prod.mk.injEq] at h
              obtain ⟨rfl, rfl⟩ := h
              refine .inr ⟨L, K0, k, u, s, e, i, rows, r', ks, ?_, Iff.rfl, clsR_ne hc, rfl, ?_, hcl, _, _, hx⟩
              · unfold effStoreC
                simp only [h0, hcl, hx, hy, hrow, hts]
                cases har : an.r with
                | none => simp only [har] at hr; simp only [hr, hc]
                | some r0 => simp only [har, Option.some.injEq] at hr; subst hr; simp only [hc]
              · unfold effStore at h0
                rw [hx, hy] at h0
                cases hsz : szOf P t with
                | none => simp [hsz] at h0
                | some sz =>
                  simp only [hsz, effStoreRow, hrow, hts] at h0
                  cases har : an.r with
                  | none =>
                    simp only [har] at hr h0
                    simp only [hr] at h0
                    split at h0
                    · simp only [Option.some.injEq, Prod.mk.injEq] at h0; exact ⟨_, by rw [← h0.1]; rfl⟩
                    · cases h0
                  | some r0 =>
                    simp only [har] at h0
                    split at h0
                    · simp only [Option.some.injEq, Prod.mk.injEq] at h0; exact ⟨_, by rw [← h0.1]; rfl⟩
                    · cases h0
            · cases h
          · cases h
        · cases h
      · cases h
  · cases h

theorem effStoreK_sound (h : RelE w0 U N E S a w) {o : Oper} (hd : dstOk N o.dst = true) {an : An} {t : TypeId} {x y : Operand} (ho : o.op = .store t x y) {tk : List (Nat × Tk)} {K : Prop} (hx : effStoreK P an S.slot S.tok t x y = some (tk, K)) (hK : K) :
    OpW P w0 U N S a w o (.c .dead) tk := by
  rcases effStoreK_C hx with ⟨_, h1⟩ | ⟨L, K0, k, u, s, e, i, rows, r', ks, h1, hKK, hn, rfl, ⟨b, hL⟩, _⟩
  · exact effStoreC_sound h hd ho h1 hK
  · have hK0 := hKK.1 hK
    refine OpW.then (effStoreC_sound h hd ho h1 hK0) fun E' a' w' hr => ?_
    have hk' : (updT S.tok (L ++ clsT k (u + 1) s e (rows.set i r') ks)) k = .live (u + 1 + ks.length) (.row s e (rows.set i r')) := by
      rw [updT_append, clsT_eq _ _ _ _ _ _ _ hn, if_pos rfl]
    have hb := hr.tok k _ _ hk'
    simp only [BR] at hb
    have h3 := hr.retell (b' := .row s e (rows.set i (rtR an.cols r'))) hk' (by
      simp only [BR]
      refine rt_rel (by simp) (fun j q hq => ?_) hb
      by_cases hj : j = i
      · subst hj
        rw [List.getElem?_set_self hK0.2] at hq
        injection hq with hq
        exact ⟨r', List.getElem?_set_self hK0.2, .inr ⟨_, hq.symm⟩⟩
      · rw [List.getElem?_set_ne (Ne.symm hj)] at hq
        exact ⟨q, by rw [List.getElem?_set_ne (Ne.symm hj)]; exact hq, .inl rfl⟩)
    refine ⟨E', h3.congr rfl ?_ rfl⟩
    simp only []
    rw [updT_append, updT_cons_deads hn, hL]
    funext j
    rw [upd_eq, upd_eq, clsT_eq _ _ _ _ _ _ _ hn, updT_deads, upd_eq]
    by_cases h9 : j = k <;> simp [h9]

theorem effStoreK_le {σ σ' : Nat → Option D} {τ τ' : Nat → Tk} {an : An} (L : Le σ σ' τ τ') {t : TypeId} {x y : Operand} {r : List (Nat × Tk) × Prop} (h : effStoreK P an σ τ t x y = some r) : effStoreK P an σ' τ' t x y = some r := by
  unfold effStoreK at h ⊢
  split at h
  · rename_i T K h0
    rw [effStore_le L h0]
    simp only []
    split at h
    · exact h
    · split at h
      · rename_i h1 h2
        obtain ⟨d, hd, h4⟩ := Option.bind_eq_some_iff.1 h2
        rw [L.ev h1, L.ev hd]
        simp only [Option.bind_some, h4]
        split at h
        · rename_i h5 h6
          rw [L.row h5, h6]
          simp only []
          split at h
          · split at h
            · rename_i h7; rw [clsR_le (Le.updT T L) h7]; exact h
            · cases h
          · cases h
        · cases h
      · cases h
  · cases h

/-! ### nil cells of a new variable -/
def promL (fr : Nat) (cs : List C) : List (Nat × Nat × Nat) → Option (List C × List (Nat × Tk))
  | [] => some (cs, [])
  | (j, s, e) :: r => match cs[j]? with
    | some .nils => match promL (fr + 1) (cs.set j (.sl fr)) r with
      | some (cs', T) => some (cs', (fr, .live 0 (.row s e [])) :: T)
      | none => none
    | _ => none

theorem promL_sound {k u t : Nat} : ∀ (l : List (Nat × Nat × Nat)) {fr : Nat} {cs cs' : List C} {T : List (Nat × Tk)} {S : St} {E : Env}, RelE w0 U N E S a w → S.tok k = .live u (.var t cs) → (∀ j, fr ≤ j → j < fr + l.length → S.tok j = .unborn) → fr + l.length ≤ S.nx → promL fr cs l = some (cs', T) →
    ∃ E', RelE w0 U N E' { S with tok := updT S.tok (T ++ [(k, .live u (.var t cs'))]) } a w
  | [], fr, cs, cs', T, S, E, h, hk, _, _, hp => by
    simp only [promL, Option.some.injEq, Prod.mk.injEq] at hp
    obtain ⟨rfl, rfl⟩ := hp
    exact ⟨E, h.congr rfl (by simp only [List.nil_append, updT]; exact (upd_self hk).symm) rfl⟩
  | (j, s, e) :: r, fr, cs, cs', T, S, E, h, hk, hf, hnx, hp => by
    unfold promL at hp

    split at hp
    · rename_i hj
      split at hp
      · rename_i cs2 T2 hp2
        simp only [Option.some.injEq, Prod.mk.injEq] at hp
        obtain ⟨rfl, rfl⟩ := hp
        simp only [List.length_cons] at hf hnx
        have hfr := hf fr (Nat.le_refl _) (by omega)
        have h1 := RelE.nilTok h hfr (by omega) s e
        have hne : k ≠ fr := by rintro rfl; rw [hk] at hfr; cases hfr
        have hk1 : (updT S.tok [(fr, Tk.live 0 (.row s e []))]) k = .live u (.var t cs) := by simp only [updT]; rw [upd_ne _ _ hne]; exact hk
        have hb := h1.tok k u _ hk1
        have h2 := h1.retell (b' := .var t (cs.set j (.sl fr))) hk1 (by
          obtain ⟨cur, g1, g2, g3, g4⟩ := hb
          refine ⟨cur, g1, g2, ?_, All2.of_get (by rw [List.length_set]; exact g4.len) fun q c hq => ?_⟩
          · rw [List.all_eq_true] at g3 ⊢
            intro c hc
            rcases List.mem_or_eq_of_mem_set hc with hc | rfl
            · exact g3 c hc
            · rfl
          · by_cases hqj : q = j
            · subst hqj
              have hlt := getElem?_lt hj
              rw [List.getElem?_set_self hlt] at hq
              injection hq with hq
              subst hq
              obtain ⟨v, hv, hr⟩ := g4.get hj
              refine ⟨v, hv, ?_⟩
              have hr : v = .slice none 0 0 := hr
              subst hr
              exact ⟨by simp [born, updT, upd_same], (upd_same _ _ _).symm, none, 0, 0, rfl⟩
            · rw [List.getElem?_set_ne (Ne.symm hqj)] at hq
              exact g4.get hq)
        have hf2 : ∀ q, fr + 1 ≤ q → q < fr + 1 + r.length → (upd (updT S.tok [(fr, Tk.live 0 (.row s e []))]) k (.live u (.var t (cs.set j (.sl fr))))) q = .unborn := by
          intro q h3 h4
          have h5 := hf q (by omega) (by omega)
          rw [upd_ne _ _ (by rintro rfl; rw [hk] at h5; cases h5)]
          simp only [updT]
          rw [upd_ne _ _ (by omega)]; exact h5
        obtain ⟨E3, h3⟩ := promL_sound (k := k) (u := u) (t := t) r h2 (by simp only [upd_same]) hf2 (by simp only []; omega) hp2
        refine ⟨E3, h3.congr rfl ?_ rfl⟩
        simp only [List.cons_append, updT]
        rw [updT_append, updT_append]
        simp only [updT]
        funext q
        rw [upd_eq, upd_eq]
        split
        · rfl
        · rename_i hq
          have hcg : ∀ (T : List (Nat × Tk)) (τ τ' : Nat → Tk), τ q = τ' q → updT τ T q = updT τ' T q := by
            intro T
            induction T with
            | nil => intro τ τ' h; exact h
            | cons p T ih => intro τ τ' h; obtain ⟨a, b⟩ := p; simp only [updT]; exact ih _ _ (by rw [upd_eq, upd_eq, h])
          exact hcg _ _ _ (by rw [upd_ne _ _ hq])
      · cases hp
    · cases hp

def promT (an : An) (fr : Nat) (T : List (Nat × Tk)) : Option (List (Nat × Tk)) :=
  match an.pr with
  | [] => some T
  | l => match T, Nat.ble l.length 30 with
    | [(k, .live u (.var t cs))], true => match promL (fr + 1) cs l with
      | some (cs', T') => some (T' ++ [(k, .live u (.var t cs'))])
      | none => none
    | _, _ => none

/-- Behind a step that leaves one variable anew: its nil cells as tokens. -/
theorem prom_opW {fr : Nat} (hfr : ∀ j, fr ≤ j → j < fr + 32 → S.tok j = .unborn) (hnx : fr + 32 ≤ S.nx) {o : Oper} {an : An} {d : D} {T T' : List (Nat × Tk)} (hk : ∀ k u b, T = [(k, .live u b)] → k ≤ fr ∨ fr + 32 ≤ k) (h : OpW P w0 U N S a w o d T) (hp : promT an fr T = some T') : OpW P w0 U N S a w o d T' := by
  unfold promT at hp
  split at hp
  · injection hp with hp; subst hp; exact h
  · rename_i l hne
    split at hp
    · rename_i k u t cs hl
      split at hp
      · rename_i cs' T2 hp2
        injection hp with hp
        subst hp
        have hl := Nat.le_of_ble_eq_true hl
        have hk := hk _ _ _ rfl
        refine OpW.then h fun E' a' w' hr => ?_
        obtain ⟨E2, h2⟩ := promL_sound _ hr (k := k) (u := u) (t := t) (cs := cs) (by simp only [updT, upd_same]) (fun j h1 h2 => by simp only [updT]; rw [upd_ne _ _ (by omega)]; exact hfr j (by omega) (by omega)) (by simp only []; omega) hp2
        refine ⟨E2, h2.congr rfl ?_ rfl⟩
        simp only []
        rw [updT_append, updT_append]
        simp only [updT]
        funext q
        rw [upd_eq, upd_eq]
        split
        · rfl
        · rename_i hq
          have hcg : ∀ (T : List (Nat × Tk)) (τ τ' : Nat → Tk), τ q = τ' q → updT τ T q = updT τ' T q := by
            intro T
            induction T with
            | nil => intro τ τ' h; exact h
            | cons p T ih => intro τ τ' h; obtain ⟨a, b⟩ := p; simp only [updT]; exact ih _ _ (by rw [upd_eq, upd_eq, h])
          exact hcg _ _ _ (by rw [upd_ne _ _ hq])
      · cases hp
    · cases hp
end
end Go.V

/- The program logic V: any operation, with what is told anew behind it. -/
namespace Go.V

def evStoreK (P : Program) (an : An) (σ : Nat → Option D) (τ : Nat → Tk) (fr : Nat) (t : TypeId) (x y : Operand) : Option (List (Nat × Tk) × Prop) :=
  match evD σ x with
  | some (.c (.ptr k off)) => match arrOf τ k with
    | some _ => effStoreA P σ τ t k off y
    | none => match varOf τ k with
      | some _ => match effStoreK P an σ τ t x y with
        | some (T, K) => match promT an fr T with
          | some T' => some (T', K)
          | none => none
        | none => none
      | none => none
  | _ => effStoreK P an σ τ t x y

def promE (an : An) (fr : Nat) (x : Option (D × List (Nat × Tk))) : Res := match x with
  | some (d, T) => match promT an fr T with
    | some T' => some (d, T', True)
    | none => none
  | none => none

def evOp1 (P : Program) (an : An) (o : Op) (σ : Nat → Option D) (τ : Nat → Tk) (fr : Nat) : Res :=
  match o with
  | .binOp op t x y _ => match evD σ x with
    | some (.g _) => ofV (effEqG P σ op t x y)
    | _ => ofV (effBinU P an σ op t x y)
  | .buildSlice t len parts => ofE (effBuildSliceK P an σ τ fr t len parts)
  | .makeSlice t l c => effMakeK P an σ fr t l c
  | .box t x => promE an fr (effBoxA an σ fr t x)
  | .alloc t => promE an fr (effAllocA P an fr t)
  | .store t x y => ofS (evStoreK P an σ τ fr t x y)
  | .call c => match c.callee with
    | .builtin .append => effAppendK P an σ τ fr c.argTypes c.args
    | _ => evOp P an o σ τ fr
  | _ => evOp P an o σ τ fr

def evOp2 (P : Program) (an : An) (o : Op) (σ : Nat → Option D) (τ : Nat → Tk) (fr : Nat) : Res :=
  match evOp1 P an o σ τ fr with
  | some (d, T, K) => match an.fz with
    | false => some (d, T, K)
    | true => match frzOk (updT τ T) (C.slks d.cs) with
      | true => some (d.mapC (C.frz (updT τ T)), T ++ deads (C.slks d.cs), K)
      | false => none
  | none => none

section
variable {P : Program} {w0 : World} {U : Anc} {N : Nat} {E : Env} {S : St} {a : Act} {w : World}

theorem effVar_single {fr : Nat} {t : TypeId} {d d' : D} {T : List (Nat × Tk)} (h : effVar fr t d = some (d', T)) : ∃ b, T = [(fr, b)] := by
  unfold effVar at h
  split at h
  · split at h
    · simp only [Option.some.injEq, Prod.mk.injEq] at h; exact ⟨_, h.2.symm⟩
    · cases h
  · cases h
theorem effVarA_single {fr : Nat} {t : TypeId} {d d' : D} {T : List (Nat × Tk)} (h : effVarA fr t d = some (d', T)) : ∃ b, T = [(fr, b)] := by
  unfold effVarA at h
  split at h
  · simp only [Option.some.injEq, Prod.mk.injEq] at h; exact ⟨_, h.2.symm⟩
  · cases h
theorem effBoxA_single {an : An} {σ : Nat → Option D} {fr : Nat} {t : TypeId} {x : Operand} {d' : D} {T : List (Nat × Tk)} (h : effBoxA an σ fr t x = some (d', T)) : ∃ b, T = [(fr, b)] := by
  unfold effBoxA at h
  split at h
  · unfold effBox at h
    split at h
    · exact effVar_single h
    · cases h
  · split at h
    · exact effVarA_single h
    · cases h
theorem effAllocA_single {an : An} {fr : Nat} {t : TypeId} {d' : D} {T : List (Nat × Tk)} (h : effAllocA P an fr t = some (d', T)) : ∃ b, T = [(fr, b)] := by
  unfold effAllocA at h
  split at h
  · unfold effAlloc at h
    split at h
    · exact effVar_single h
    · cases h
  · split at h
    · exact effVarA_single h
    · cases h
theorem single_le {T : List (Nat × Tk)} {fr : Nat} (h : ∃ b, T = [(fr, b)]) : ∀ k u b, T = [(k, Tk.live u b)] → k ≤ fr ∨ fr + 32 ≤ k := by
  obtain ⟨b, rfl⟩ := h
  intro k u b' he
  simp only [List.cons.injEq, Prod.mk.injEq] at he
  omega

theorem evStoreK_sound (h : RelE w0 U N E S a w) {fr : Nat} (hfr : ∀ j, fr ≤ j → j < fr + 32 → S.tok j = .unborn) (hnx : fr + 32 ≤ S.nx) {o : Oper} (hd : dstOk N o.dst = true) {an : An} {t : TypeId} {x y : Operand} (ho : o.op = .store t x y) {tk : List (Nat × Tk)} {K : Prop}
    (hx : evStoreK P an S.slot S.tok fr t x y = some (tk, K)) (hK : K) : OpW P w0 U N S a w o (.c .dead) tk := by
  unfold evStoreK at hx
  split at hx
  · rename_i k off hp
    split at hx
    · exact effStoreA_sound h hd ho hp hx hK
    · split at hx
      · rename_i q hv
        split at hx
        · rename_i T K0 hst
          split at hx
          · rename_i T' hT
            simp only [Option.some.injEq, Prod.mk.injEq] at hx
            obtain ⟨rfl, rfl⟩ := hx
            refine prom_opW hfr hnx (fun k2 u b he => ?_) (effStoreK_sound h hd ho hst hK) hT
            subst he
            -- the token that is written has been there
            have : k2 = k := by
              rcases effStoreK_C hst with ⟨hcl, h1⟩ | ⟨L, K1, k3, u3, s, e, i, rows, r', ks, h1, _, _, _, _, _, _, _, h2⟩
              · unfold effStoreC at h1
                simp only [hcl] at h1
                split at h1
                · rename_i L K2 h2
                  simp only [Option.some.injEq, Prod.mk.injEq] at h1
                  obtain ⟨rfl, _⟩ := h1
                  unfold effStore at h2
                  split at h2
                  · rename_i c xs sz e1 _ _
                    rw [hp] at e1
                    injection e1 with e1
                    injection e1 with e1
                    subst e1
                    simp only [] at h2
                    obtain ⟨tk', h3, h4⟩ := Option.map_eq_some_iff.1 h2
                    simp only [Prod.mk.injEq] at h4
                    rw [h4.1] at h3
                    unfold effStoreVar at h3
                    split at h3
                    · split at h3
                      · simp only [Option.some.injEq, List.cons.injEq, Prod.mk.injEq] at h3; exact h3.1.1.symm
                      · cases h3
                    · cases h3
                  · cases h2
                · cases h1
              · rw [hp] at h2; cases h2
            subst this
            obtain ⟨u', t', cs⟩ := q
            have hlive := varOf_some hv
            rcases Nat.lt_or_ge k2 fr with h9 | h9
            · exact .inl (by omega)
            · rcases Nat.lt_or_ge k2 (fr + 32) with h10 | h10
              · rw [hfr _ h9 h10] at hlive; cases hlive
              · exact .inr h10
          · cases hx
        · cases hx
      · cases hx
  · exact effStoreK_sound h hd ho hx hK

theorem evOp1_sound (h : RelE w0 U N E S a w) {fr : Nat} (hfr : ∀ j, fr ≤ j → j < fr + 32 → S.tok j = .unborn) (hnx : fr + 32 ≤ S.nx) {o : Oper} (hd : dstOk N o.dst = true) {an : An} {d : D} {T : List (Nat × Tk)} {K : Prop}
    (hx : evOp1 P an o.op S.slot S.tok fr = some (d, T, K)) (hK : K) : OpW P w0 U N S a w o d T := by
  have hf := hfr fr (Nat.le_refl _) (by omega)
  have hlt : fr < S.nx := by omega
  unfold evOp1 at hx
  split at hx
  · rename_i ho
    split at hx
    · obtain ⟨rfl, rk, hrk⟩ := ofV_some hx
      exact Val.opW h hd (effEqG_sound h ho hrk hK)
    · obtain ⟨rfl, rk, hrk⟩ := ofV_some hx
      exact Val.opW h hd (effBinU_sound h ho hrk hK)
  · rename_i ho; exact effBuildSliceK_sound h hf hlt hd ho (ofE_some hx)
  · rename_i ho; exact effMakeK_sound h hf hlt hd ho hx hK
  · rename_i ho
    unfold promE at hx
    split at hx
    · rename_i d0 T0 h0
      split at hx
      · rename_i T' hT
        simp only [Option.some.injEq, Prod.mk.injEq] at hx
        obtain ⟨rfl, rfl, _⟩ := hx
        exact prom_opW hfr hnx (single_le (effBoxA_single h0)) (Eff.opW hd (effBoxA_sound h hf hlt ho h0)) hT
      · cases hx
    · cases hx
  · rename_i ho
    unfold promE at hx
    split at hx
    · rename_i d0 T0 h0
      split at hx
      · rename_i T' hT
        simp only [Option.some.injEq, Prod.mk.injEq] at hx
        obtain ⟨rfl, rfl, _⟩ := hx
        exact prom_opW hfr hnx (single_le (effAllocA_single h0)) (Eff.opW hd (effAllocA_sound h hf hlt ho h0)) hT
      · cases hx
    · cases hx
  · rename_i ho
    obtain ⟨rfl, h2⟩ := ofS_some hx
    exact evStoreK_sound h hfr hnx hd ho h2 hK
  · rename_i c ho
    obtain ⟨cal, args, ts⟩ := c
    simp only [] at hx
    split at hx
    · exact effAppendK_sound h hf hlt hd ho hx hK
    · exact evOp_sound h hfr hnx hd hx hK
  · exact evOp_sound h hfr hnx hd hx hK

theorem evOp2_sound (h : RelE w0 U N E S a w) {fr : Nat} (hfr : ∀ j, fr ≤ j → j < fr + 32 → S.tok j = .unborn) (hnx : fr + 32 ≤ S.nx) {o : Oper} (hd : dstOk N o.dst = true) {an : An} {d : D} {T : List (Nat × Tk)} {K : Prop}
    (hx : evOp2 P an o.op S.slot S.tok fr = some (d, T, K)) (hK : K) : OpW P w0 U N S a w o d T := by
  unfold evOp2 at hx
  split at hx
  · rename_i d0 T0 K0 h0
    split at hx
    · simp only [Option.some.injEq, Prod.mk.injEq] at hx
      obtain ⟨rfl, rfl, rfl⟩ := hx
      exact evOp1_sound h hfr hnx hd h0 hK
    · split at hx
      · rename_i hok
        simp only [Option.some.injEq, Prod.mk.injEq] at hx
        obtain ⟨rfl, rfl, rfl⟩ := hx
        have base := evOp1_sound h hfr hnx hd h0 hK
        intro J Q hJ
        refine base J Q fun E' a' w' hr => ?_
        cases hdst : o.dst with
        | some t =>
          obtain ⟨E2, h2⟩ := RelE.freezeD hr (t := t) (d := d0) (by simp only [hdst, putS]; exact upd_same _ _ _) hok
          refine hJ E2 a' w' (h2.congr ?_ ?_ rfl)
          · simp only [hdst, putS]
            funext j
            rw [upd_eq, upd_eq, upd_eq]
            split <;> rfl
          · simp only []
            rw [updT_append]
        | none =>
          obtain ⟨E2, h2, _⟩ := RelE.freezes _ hr hok
          refine hJ E2 a' w' (h2.congr ?_ ?_ rfl)
          · simp only [hdst, putS]
          · simp only []
            rw [updT_append]
      · cases hx
  · cases hx

section
variable {σ σ' : Nat → Option D} {τ τ' : Nat → Tk} {an : An} {fr : Nat}
theorem effEqG_le (L : Le σ σ' τ τ') {op : BinOp} {t : TypeId} {x y : Operand} {r : D × List Nat × Prop} (h : effEqG P σ op t x y = some r) : effEqG P σ' op t x y = some r := by
  unfold effEqG at h ⊢
  split at h
  · rename_i h1 h2 h3 h4; rw [L.ev h1, L.ev h2, h3, h4]; exact h
  · cases h

theorem evStoreK_le (L : Le σ σ' τ τ') {t : TypeId} {x y : Operand} {r : List (Nat × Tk) × Prop} (h : evStoreK P an σ τ fr t x y = some r) : evStoreK P an σ' τ' fr t x y = some r := by
  cases hx : evD σ x with
  | none => unfold evStoreK effStoreK effStore at h; simp only [hx] at h; cases h
  | some d =>
    have hx' := L.ev hx
    unfold evStoreK at h ⊢
    rw [hx] at h
    rw [hx']
    split at h
    · split at h
      · rename_i h1; simp only [L.arr h1]; exact effStoreA_le L h
      · split at h
        · rename_i h2
          simp only [arrOf_none_of_var (L.var h2), L.var h2]
          split at h
          · rename_i h3; simp only [effStoreK_le L h3]; exact h
          · cases h
        · cases h
    · exact effStoreK_le L h

theorem promE_le {x y : Option (D × List (Nat × Tk))} {r : D × List (Nat × Tk) × Prop} (h : promE an fr x = some r) (hh : ∀ q, x = some q → y = some q) : promE an fr y = some r := by
  cases x with
  | none => cases h
  | some q => rw [hh q rfl]; exact h

theorem evOp1_le (L : Le σ σ' τ τ') {o : Op} {r : D × List (Nat × Tk) × Prop} (h : evOp1 P an o σ τ fr = some r) : evOp1 P an o σ' τ' fr = some r := by
  unfold evOp1 at h ⊢
  split at h
  · rename_i op t x y _
    cases hx : evD σ x with
    | none =>
      simp only [hx] at h
      obtain ⟨d, T, K⟩ := r
      obtain ⟨_, rk, hrk⟩ := ofV_some h
      unfold effBinU at hrk
      rw [hx] at hrk
      cases hrk
    | some d =>
      have hx' := L.ev hx
      rw [hx] at h
      rw [hx']
      split at h
      · exact ofV_le h fun _ => effEqG_le L
      · exact ofV_le h fun _ => effBinU_le L
  · exact ofE_le h fun _ => effBuildSliceK_le L
  · exact effMakeK_le L h
  · exact promE_le h fun _ => effBoxA_le L
  · exact h
  · exact ofS_le h fun _ => evStoreK_le L
  · split at h
    · exact effAppendK_le L h
    · exact evOp_le L h
  · exact evOp_le L h

theorem evOp2_le (L : Le σ σ' τ τ') {o : Op} {r : D × List (Nat × Tk) × Prop} (h : evOp2 P an o σ τ fr = some r) : evOp2 P an o σ' τ' fr = some r := by
  unfold evOp2 at h ⊢
  split at h
  · rename_i d T K h0
    rw [evOp1_le L h0]
    simp only []
    split at h
    · exact h
    · split at h
      · rename_i hok
        have L2 := Le.updT T L
        rw [frzOk_le L2 hok]
        have : d.mapC (C.frz (updT τ' T)) = d.mapC (C.frz (updT τ T)) := by
          have hc : ∀ c, c ∈ d.cs → C.frz (updT τ' T) c = C.frz (updT τ T) c := fun c hc => frz_le L2 hok fun k he => frz_mem (he ▸ hc)
          cases d with
          | c x => simp only [D.mapC]; rw [hc x (by simp [D.cs])]
          | g xs => simp only [D.mapC]; rw [List.map_congr_left fun c h => hc c (by simpa [D.cs] using h)]
          | arr xs => rfl
          | tup xs =>
            simp only [D.mapC]
            rw [List.map_congr_left fun x hx => ?_]
            cases x with
            | c y => simp only [A.mapC]; rw [hc y (by simp only [D.cs, List.mem_flatMap]; exact ⟨_, hx, by simp [A.cs]⟩)]
            | g ys => simp only [A.mapC]; rw [List.map_congr_left fun c h => hc c (by simp only [D.cs, List.mem_flatMap]; exact ⟨_, hx, by simpa [A.cs] using h⟩)]
        simp only [this]
        exact h
      · cases h
  · cases h
end
end

/-! ### a row put back where another one names it, behind an operation -/
def upC (τ : Nat → Tk) (k i o f : Nat) : Option (List (Nat × Tk)) :=
  match rowOf τ k, rowOf τ f, Nat.beq k f with
  | some (u, s, e, xs), some (_, s2, e2, ys), false => match xs[i]? with
    | some r => match r[o]? with
      | some (.tk f') => match Nat.beq f f' with
        | true => some [(k, .live (u + 1) (.row s e (xs.set i (r.set o (.row s2 e2 ys))))), (f, .dead)]
        | false => none
      | _ => none
    | none => none
  | _, _, _ => none
def evOp3 (P : Program) (an : An) (up : Option (Nat × Nat × Nat × Nat)) (o : Op) (σ : Nat → Option D) (τ : Nat → Tk) (fr : Nat) : Res :=
  match evOp2 P an o σ τ fr with
  | some (d, T, K) => match up with
    | none => some (d, T, K)
    | some (k, i, q, f) => match upC (updT τ T) k i q f with
      | some T2 => some (d, T ++ T2, K)
      | none => none
  | none => none
section
variable {P : Program} {w0 : World} {U : Anc} {N : Nat} {E : Env} {S : St} {a : Act} {w : World}
theorem upC_sound (h : RelE w0 U N E S a w) {k i o f : Nat} {T : List (Nat × Tk)} (hx : upC S.tok k i o f = some T) : ∃ E', RelE w0 U N E' { S with tok := updT S.tok T } a w := by
  unfold upC at hx
  split at hx
  · rename_i u s e xs u2 s2 e2 ys hk hf hne
    split at hx
    · rename_i r hr
      split at hx
      · rename_i f' ho
        split at hx
        · rename_i hb
          injection hx with hx
          subst hx
          have := Nat.eq_of_beq_eq_true hb
          subst this
          exact ⟨_, RelE.close h (rowOf_some hk) (rowOf_some hf) (fun he => by rw [he, Nat.beq_refl] at hne; cases hne) hr ho⟩
        · cases hx
      · cases hx
    · cases hx
  · cases hx
theorem evOp3_sound (h : RelE w0 U N E S a w) {fr : Nat} (hfr : ∀ j, fr ≤ j → j < fr + 32 → S.tok j = .unborn) (hnx : fr + 32 ≤ S.nx) {o : Oper} (hd : dstOk N o.dst = true) {an : An} {up : Option (Nat × Nat × Nat × Nat)} {d : D} {T : List (Nat × Tk)} {K : Prop}
    (hx : evOp3 P an up o.op S.slot S.tok fr = some (d, T, K)) (hK : K) : OpW P w0 U N S a w o d T := by
  unfold evOp3 at hx
  split at hx
  · rename_i d0 T0 K0 h0
    split at hx
    · simp only [Option.some.injEq, Prod.mk.injEq] at hx
      obtain ⟨rfl, rfl, rfl⟩ := hx
      exact evOp2_sound h hfr hnx hd h0 hK
    · split at hx
      · rename_i T2 hup
        simp only [Option.some.injEq, Prod.mk.injEq] at hx
        obtain ⟨rfl, rfl, rfl⟩ := hx
        intro J Q hJ
        refine evOp2_sound h hfr hnx hd h0 hK J Q fun E' a' w' hr => ?_
        obtain ⟨E2, h2⟩ := upC_sound hr hup
        refine hJ E2 a' w' (h2.congr rfl ?_ rfl)
        simp only []
        rw [updT_append]
      · cases hx
  · cases hx
end
theorem upC_le {σ σ' : Nat → Option D} {τ τ' : Nat → Tk} (L : Le σ σ' τ τ') {k i o f : Nat} {T : List (Nat × Tk)} (h : upC τ k i o f = some T) : upC τ' k i o f = some T := by
  unfold upC at h ⊢
  split at h
  · rename_i h1 h2 h3
    rw [L.row h1, L.row h2, h3]
    exact h
  · cases h
theorem evOp3_le {P : Program} {σ σ' : Nat → Option D} {τ τ' : Nat → Tk} {an : An} {fr : Nat} (L : Le σ σ' τ τ') {up : Option (Nat × Nat × Nat × Nat)} {o : Op} {r : D × List (Nat × Tk) × Prop} (h : evOp3 P an up o σ τ fr = some r) : evOp3 P an up o σ' τ' fr = some r := by
  unfold evOp3 at h ⊢
  split at h
  · rename_i d T K h0
    rw [evOp2_le L h0]
    cases up with
    | none => exact h
    | some q =>
      obtain ⟨k, i, o2, f⟩ := q
      simp only at h ⊢
      split at h
      · rename_i T2 hup
        rw [upC_le (Le.updT T L) hup]
        exact h
      · cases h
  · cases h

/-! ### a row inside a row that was looked at gets a token of its own -/
def opC (τ : Nat → Tk) (k u i o f : Nat) : Option (List (Nat × Tk)) :=
  match rowOf τ k with
  | some (u', s, e, xs) => match Nat.beq u u', xs[i]? with
    | true, some r => match r[o]? with
      | some (.row s2 e2 ys) => some [(k, .live (u' + 1) (.row s e (xs.set i (r.set o (.tk f))))), (f, .live 0 (.row s2 e2 ys))]
      | _ => none
    | _, _ => none
  | none => none
def evOp4 (P : Program) (an : An) (up : Option (Nat × Nat × Nat × Nat)) (po : Bool) (o : Op) (σ : Nat → Option D) (τ : Nat → Tk) (fr : Nat) : Res :=
  match po with
  | false => evOp3 P an up o σ τ fr
  | true => match evOp3 P an up o σ τ fr with
    | some (.c (.pk k u i q _ _ _), [], K) => match opC τ k u i q (fr + 31) with
      | some T2 => some (.c (.sl (fr + 31)), T2, K)
      | none => none
    | _ => none
section
variable {P : Program} {w0 : World} {U : Anc} {N : Nat} {E : Env} {S : St} {a : Act} {w : World}
theorem opC_sound (h : RelE w0 U N E S a w) {k u i o f : Nat} (hf : S.tok f = .unborn) (hlt : f < S.nx) {T : List (Nat × Tk)} (hx : opC S.tok k u i o f = some T) :
    ∃ E', RelE w0 U N E' { S with tok := updT S.tok T } a w ∧ born (updT S.tok T) f ∧ ∀ s e xs v, VC w E S.tok (.pk k u i o s e xs) v → VC w E' (updT S.tok T) (.sl f) v := by
  unfold opC at hx
  split at hx
  · rename_i u' s e xs hk
    split at hx
    · rename_i r hu hr
      have := Nat.eq_of_beq_eq_true hu
      subst this
      split at hx
      · rename_i s2 e2 ys ho
        injection hx with hx
        subst hx
        obtain ⟨E', h1, h2⟩ := RelE.open_ h (rowOf_some hk) hf hlt hr ho
        have hne : k ≠ f := by rintro rfl; rw [rowOf_some hk] at hf; cases hf
        have hb : born (updT S.tok [(k, .live (u + 1) (.row s e (xs.set i (r.set o (.tk f))))), (f, .live 0 (.row s2 e2 ys))]) f := by
          unfold born; simp only [updT]; rw [upd_same]; simp
        refine ⟨E', h1, hb, fun s' e' xs' v hv => ⟨hb, ?_, ?_⟩⟩
        · exact (h2 v ((hv.2 _ _ (rowOf_some hk)).2 rfl).2).symm
        · obtain ⟨A, c, h3, _⟩ := slice_shape ((hv.2 _ _ (rowOf_some hk)).2 rfl).1
          exact ⟨A, _, c, h3⟩
      · cases hx
    · cases hx
  · cases hx
theorem evOp4_sound (h : RelE w0 U N E S a w) {fr : Nat} (hfr : ∀ j, fr ≤ j → j < fr + 32 → S.tok j = .unborn) (hnx : fr + 32 ≤ S.nx) {o : Oper} (hd : dstOk N o.dst = true) {an : An} {up : Option (Nat × Nat × Nat × Nat)} {po : Bool} {d : D} {T : List (Nat × Tk)} {K : Prop}
    (hx : evOp4 P an up po o.op S.slot S.tok fr = some (d, T, K)) (hK : K) : OpW P w0 U N S a w o d T := by
  unfold evOp4 at hx
  split at hx
  · exact evOp3_sound h hfr hnx hd hx hK
  · split at hx
    · rename_i k u i q s e xs K0 h0
      split at hx
      · rename_i T2 hop
        simp only [Option.some.injEq, Prod.mk.injEq] at hx
        obtain ⟨rfl, rfl, rfl⟩ := hx
        intro J Q hJ
        refine evOp3_sound h hfr hnx hd h0 hK J Q fun E' a' w' hr => ?_
        have hr0 : RelE w0 U N E' { S with slot := putS S.slot o.dst (.c (.pk k u i q s e xs)) } a' w' := hr
        obtain ⟨E2, g1, g2, g3⟩ := opC_sound hr0 (f := fr + 31) (hfr _ (by omega) (by omega)) (by simp only; omega) hop
        refine hJ E2 a' w' (g1.slots _ fun t d' hd' => ?_)
        cases hdst : o.dst with
        | none =>
          rw [hdst] at hd' hr0 g1
          exact g1.slot t d' hd'
        | some t0 =>
          rw [hdst] at hd' hr0 g1
          simp only [putS] at hd'
          rw [upd_eq] at hd'
          split at hd'
          · rename_i ht
            subst ht
            injection hd' with hd'
            subst hd'
            exact g3 s e xs _ (hr0.slot t (.c (.pk k u i q s e xs)) (by simp only [putS]; exact upd_same _ _ _))
          · rename_i ht
            refine g1.slot t d' ?_
            simp only [putS]
            rw [upd_ne _ _ ht]
            exact hd'
      · cases hx
    · cases hx
end
theorem opC_le {σ σ' : Nat → Option D} {τ τ' : Nat → Tk} (L : Le σ σ' τ τ') {k u i o f : Nat} {T : List (Nat × Tk)} (h : opC τ k u i o f = some T) : opC τ' k u i o f = some T := by
  unfold opC at h ⊢
  split at h
  · rename_i h1
    rw [L.row h1]
    exact h
  · cases h
theorem evOp4_le {P : Program} {σ σ' : Nat → Option D} {τ τ' : Nat → Tk} {an : An} {fr : Nat} (L : Le σ σ' τ τ') {up : Option (Nat × Nat × Nat × Nat)} {po : Bool} {o : Op} {r : D × List (Nat × Tk) × Prop} (h : evOp4 P an up po o σ τ fr = some r) : evOp4 P an up po o σ' τ' fr = some r := by
  unfold evOp4 at h ⊢
  cases po with
  | false => exact evOp3_le L h
  | true =>
    simp only at h ⊢
    split at h
    · rename_i k u i q s e xs K h0
      rw [evOp3_le L h0]
      simp only
      split at h
      · rename_i T2 hop
        rw [opC_le L hop]
        exact h
      · cases h
    · cases h
end Go.V

/- Typed states over the program logic V: what slices hold is told by lists of tuples. -/
namespace Go.V

mutual
/-- What a cell holds: a number, a bool, a string, nil, or a slice of rows of such cells. -/
inductive CT where
  | int (k : IntKind)
  | bool
  | str
  | nif
  | sl (e : Nat) (r : CTs)
inductive CTs where
  | one (c : CT)
  | cons (c : CT) (r : CTs)
end

mutual
def CT.D : CT → Type
  | .int _ => Int
  | .bool => Bool
  | .str => ByteArray
  | .nif => Unit
  | .sl _ r => List r.D
def CTs.D : CTs → Type
  | .one c => c.D
  | .cons c r => c.D × r.D
end

mutual
def CT.dfl : (c : CT) → c.D
  | .int _ => (0 : Int)
  | .bool => false
  | .str => (ByteArray.empty : ByteArray)
  | .nif => ()
  | .sl _ _ => ([] : List _)
def CTs.dfl : (r : CTs) → r.D
  | .one c => c.dfl
  | .cons c r => (c.dfl, r.dfl)
end

def CTs.len : CTs → Nat
  | .one _ => 1
  | .cons _ r => r.len + 1

mutual
def CT.enc (own : Bool) : (c : CT) → c.D → T
  | .int k, n => .int k n
  | .bool, b => .bool b
  | .str, s => .str s
  | .nif, _ => .nilif
  | .sl e r, l => match own with
    | true => .row r.len e (l.map (r.enc own))
    | false => .shr r.len (l.map (r.enc own))
def CTs.enc (own : Bool) : (r : CTs) → r.D → List T
  | .one c, x => [c.enc own x]
  | .cons c r, x => c.enc own x.1 :: r.enc own x.2
end

mutual
def CT.beq : CT → CT → Bool
  | .int k, .int k' => decide (k = k')
  | .bool, .bool => true
  | .str, .str => true
  | .nif, .nif => true
  | .sl e r, .sl e' r' => Nat.beq e e' && r.beq r'
  | _, _ => false
def CTs.beq : CTs → CTs → Bool
  | .one c, .one c' => c.beq c'
  | .cons c r, .cons c' r' => c.beq c' && r.beq r'
  | _, _ => false
end

mutual
theorem CT.eq_of_beq : ∀ {c c' : CT}, c.beq c' = true → c = c'
  | .int k, .int k', h => by simp only [CT.beq, decide_eq_true_eq] at h; rw [h]
  | .bool, .bool, _ => rfl
  | .str, .str, _ => rfl
  | .nif, .nif, _ => rfl
  | .sl e r, .sl e' r', h => by
    simp only [CT.beq, Bool.and_eq_true] at h
    rw [Nat.eq_of_beq_eq_true h.1, CTs.eq_of_beq h.2]
  | .int _, .bool, h => by simp [CT.beq] at h
  | .int _, .str, h => by simp [CT.beq] at h
  | .int _, .nif, h => by simp [CT.beq] at h
  | .int _, .sl _ _, h => by simp [CT.beq] at h
  | .bool, .int _, h => by simp [CT.beq] at h
  | .bool, .str, h => by simp [CT.beq] at h
  | .bool, .nif, h => by simp [CT.beq] at h
  | .bool, .sl _ _, h => by simp [CT.beq] at h
  | .str, .int _, h => by simp [CT.beq] at h
  | .str, .bool, h => by simp [CT.beq] at h
  | .str, .nif, h => by simp [CT.beq] at h
  | .str, .sl _ _, h => by simp [CT.beq] at h
  | .nif, .int _, h => by simp [CT.beq] at h
  | .nif, .bool, h => by simp [CT.beq] at h
  | .nif, .str, h => by simp [CT.beq] at h
  | .nif, .sl _ _, h => by simp [CT.beq] at h
  | .sl _ _, .int _, h => by simp [CT.beq] at h
  | .sl _ _, .bool, h => by simp [CT.beq] at h
  | .sl _ _, .str, h => by simp [CT.beq] at h
  | .sl _ _, .nif, h => by simp [CT.beq] at h
theorem CTs.eq_of_beq : ∀ {c c' : CTs}, c.beq c' = true → c = c'
  | .one c, .one c', h => by rw [CT.eq_of_beq (c := c) (c' := c') (by simpa only [CTs.beq] using h)]
  | .cons c r, .cons c' r', h => by
    simp only [CTs.beq, Bool.and_eq_true] at h
    rw [CT.eq_of_beq h.1, CTs.eq_of_beq h.2]
  | .one _, .cons _ _, h => by simp [CTs.beq] at h
  | .cons _ _, .one _, h => by simp [CTs.beq] at h
end

/-- A list of one kind taken as a list of another, where they are the same. -/
def castL (r r' : CTs) (l : List r.D) : Option (List r'.D) := if h : r.beq r' = true then some (CTs.eq_of_beq h ▸ l) else none
theorem castL_some {r r' : CTs} {l : List r.D} {l' : List r'.D} (h : castL r r' l = some l') : r = r' ∧ HEq l l' := by
  unfold castL at h
  split at h
  · rename_i hb
    have he := CTs.eq_of_beq hb
    subst he
    injection h with h
    subst h
    exact ⟨rfl, HEq.rfl⟩
  · cases h

/-- The element at an index. -/
def rd {α : Type} (d : α) (l : List α) (i : Int) : α := l.getD i.toNat d

theorem enc_length (own : Bool) : ∀ (r : CTs) (x : r.D), (r.enc own x).length = r.len
  | .one _, _ => by simp [CTs.enc, CTs.len]
  | .cons _ r, x => by simp [CTs.enc, CTs.len, enc_length own r x.2]

theorem map_rd {own : Bool} {r : CTs} {l : List r.D} {i : Nat} (h : i < l.length) (d : r.D) : (l.map (r.enc own))[i]? = some (r.enc own (rd d l i)) := by
  rw [List.getElem?_map, List.getElem?_eq_getElem h]
  simp [rd, List.getD_eq_getElem?_getD, List.getElem?_eq_getElem h]

mutual
theorem CT.sh_enc (own : Bool) : ∀ (c : CT) (x : c.D), shT (c.enc own x) = c.enc false x
  | .int _, _ => by simp [CT.enc, shT]
  | .bool, _ => by simp [CT.enc, shT]
  | .str, _ => by simp [CT.enc, shT]
  | .nif, _ => by simp [CT.enc, shT]
  | .sl e r, l => by
    have h : ∀ l : List r.D, shTss (l.map (r.enc own)) = l.map (r.enc false) := fun l => by
      rw [shTss_map, List.map_map]
      exact List.map_congr_left fun x _ => CTs.sh_enc own r x
    have h := h l
    cases own <;> simp only [CT.enc, shT, h]
theorem CTs.sh_enc (own : Bool) : ∀ (r : CTs) (x : r.D), shTs (r.enc own x) = r.enc false x
  | .one c, x => by simp only [CTs.enc, shTs]; rw [CT.sh_enc own c x]
  | .cons c r, x => by simp only [CTs.enc, shTs]; rw [CT.sh_enc own c x.1, CTs.sh_enc own r x.2]
end
theorem sh_rows (own : Bool) (r : CTs) (l : List r.D) : shTss (l.map (r.enc own)) = l.map (r.enc false) := by
  rw [shTss_map, List.map_map]
  exact List.map_congr_left fun x _ => CTs.sh_enc own r x

/-! ### cells, values, blocks -/
inductive TC where
  | c (x : C)
  | pk (k u i o e : Nat) (r : CTs) (l : List r.D)
  | lst (r : CTs) (l : List r.D)
  | pptr (k u i o j off : Nat) (r : CTs) (x : r.D)
  | rptr (off : Nat) (r : CTs) (x : r.D)

inductive TA where
  | c (x : TC)
  | g (xs : List TC)

inductive TD where
  | c (x : TC)
  | g (xs : List TC)
  | tup (xs : List TA)
  | arr (ct : CT) (xs : List ct.D)

inductive TB where
  | row (own : Bool) (e : Nat) (r : CTs) (l : List r.D)
  | hole (e : Nat) (r : CTs) (l : List r.D) (i o f : Nat)
  | lit (s e : Nat) (rows : List (List TC))
  | var (t : TypeId) (cs : List TC)
  | arr (t : TypeId) (ct : CT) (xs : List ct.D)

inductive TTk where
  | unborn
  | dead
  | live (u : Nat) (b : TB)

def TC.den : TC → C
  | .c x => x
  | .pk k u i o e r l => .pk k u i o r.len e (l.map (r.enc true))
  | .lst r l => .lst r.len (l.map (r.enc false))
  | .pptr k u i o j off r x => .pptr k u i o r.len j (r.enc true x) off
  | .rptr off r x => .rptr (r.enc false x) off
def TA.den : TA → A
  | .c x => .c x.den
  | .g xs => .g (xs.map TC.den)
def TD.den : TD → D
  | .c x => .c x.den
  | .g xs => .g (xs.map TC.den)
  | .tup xs => .tup (xs.map TA.den)
  | .arr ct xs => .arr (xs.map (ct.enc true))
/-- A cell that is written out in a row. -/
def litT (x : TC) : T := match toT x.den with
  | some y => y
  | none => .nilif
def TB.den : TB → Blk
  | .row own e r l => .row r.len e (l.map (r.enc own))
  | .hole e r l i o f => .row r.len e ((l.map (r.enc true)).set i ((r.enc true (rd r.dfl l i)).set o (.tk f)))
  | .lit s e rows => .row s e (rows.map fun r => r.map litT)
  | .var t cs => .var t (cs.map TC.den)
  | .arr t ct xs => .arr t (xs.map (ct.enc true))
def TTk.den : TTk → Tk
  | .unborn => .unborn
  | .dead => .dead
  | .live u b => .live u b.den
def denS (σ : Nat → Option TD) : Nat → Option D := fun t => (σ t).map TD.den
def denK (τ : Nat → TTk) : Nat → Tk := fun k => (τ k).den
def denT (T : List (Nat × TTk)) : List (Nat × Tk) := T.map fun p => (p.1, p.2.den)

/-! ### what has no lists in it -/
def erC : TC → Option C
  | .c x => some x
  | _ => none
def erCs : List TC → Option (List C)
  | [] => some []
  | x :: r => match erC x, erCs r with
    | some y, some ys => some (y :: ys)
    | _, _ => none
def erA : TA → Option A
  | .c x => (erC x).map .c
  | .g xs => (erCs xs).map .g
def erAs : List TA → Option (List A)
  | [] => some []
  | x :: r => match erA x, erAs r with
    | some y, some ys => some (y :: ys)
    | _, _ => none
def erD : TD → Option D
  | .c x => (erC x).map .c
  | .g xs => (erCs xs).map .g
  | .tup xs => (erAs xs).map .tup
  | .arr _ _ => none
def erB : TB → Option Blk
  | .var t cs => (erCs cs).map (.var t)
  | _ => none
def erS (σ : Nat → Option TD) : Nat → Option D := fun t => match σ t with
  | some d => erD d
  | none => none
def erK (τ : Nat → TTk) : Nat → Tk := fun k => match τ k with
  | .live u b => match erB b with
    | some b' => .live u b'
    | none => .dead
  | .dead => .dead
  | .unborn => .unborn

theorem erC_den {x : TC} {y : C} (h : erC x = some y) : x.den = y := by
  cases x <;> simp [erC] at h; exact h
theorem erCs_den : ∀ {xs : List TC} {ys : List C}, erCs xs = some ys → xs.map TC.den = ys
  | [], ys, h => by simp [erCs] at h; simp [h]
  | x :: r, ys, h => by
    unfold erCs at h
    split at h
    · rename_i h1 h2
      injection h with h
      subst h
      simp [erC_den h1, erCs_den h2]
    · cases h
theorem erA_den {x : TA} {y : A} (h : erA x = some y) : x.den = y := by
  cases x with
  | c x => obtain ⟨z, hz, rfl⟩ := Option.map_eq_some_iff.1 h; simp [TA.den, erC_den hz]
  | g xs => obtain ⟨z, hz, rfl⟩ := Option.map_eq_some_iff.1 h; simp only [TA.den, erCs_den hz]
theorem erAs_den : ∀ {xs : List TA} {ys : List A}, erAs xs = some ys → xs.map TA.den = ys
  | [], ys, h => by simp [erAs] at h; simp [h]
  | x :: r, ys, h => by
    unfold erAs at h
    split at h
    · rename_i h1 h2
      injection h with h
      subst h
      simp [erA_den h1, erAs_den h2]
    · cases h
theorem erD_den {x : TD} {y : D} (h : erD x = some y) : x.den = y := by
  cases x with
  | c x => obtain ⟨z, hz, rfl⟩ := Option.map_eq_some_iff.1 h; simp [TD.den, erC_den hz]
  | g xs => obtain ⟨z, hz, rfl⟩ := Option.map_eq_some_iff.1 h; simp only [TD.den, erCs_den hz]
  | tup xs => obtain ⟨z, hz, rfl⟩ := Option.map_eq_some_iff.1 h; simp only [TD.den, erAs_den hz]
  | arr ct xs => cases h
theorem erB_den {x : TB} {y : Blk} (h : erB x = some y) : x.den = y := by
  cases x with
  | var t cs => obtain ⟨z, hz, rfl⟩ := Option.map_eq_some_iff.1 h; simp only [TB.den, erCs_den hz]
  | _ => cases h

theorem er_le (σ : Nat → Option TD) (τ : Nat → TTk) : Le (erS σ) (denS σ) (erK τ) (denK τ) := by
  refine ⟨fun {t d} h => ?_, fun {k u b} h => ?_⟩
  · unfold erS at h
    unfold denS
    split at h
    · rename_i d' hd; rw [hd]; simp [erD_den h]
    · cases h
  · unfold erK at h
    unfold denK
    split at h
    · rename_i u' b' hk
      split at h
      · rename_i b2 hb
        injection h with h1 h2
        subst h1 h2
        rw [hk]; simp only [TTk.den, erB_den hb]
      · cases h
    · cases h
    · cases h

/-! ### back -/
def ofC (x : C) : TC := .c x
def ofA : A → TA
  | .c x => .c (.c x)
  | .g xs => .g (xs.map .c)
def ofD : D → Option TD
  | .c x => some (.c (.c x))
  | .g xs => some (.g (xs.map .c))
  | .tup xs => some (.tup (xs.map ofA))
  | .arr _ => none
def ofB : Blk → Option TB
  | .var t cs => some (.var t (cs.map .c))
  | _ => none
def ofTk : Tk → Option TTk
  | .unborn => some .unborn
  | .dead => some .dead
  | .live u b => match ofB b with
    | some b' => some (.live u b')
    | none => none
def ofTks : List (Nat × Tk) → Option (List (Nat × TTk))
  | [] => some []
  | (k, x) :: r => match ofTk x, ofTks r with
    | some y, some ys => some ((k, y) :: ys)
    | _, _ => none

theorem map_den_c (xs : List C) : (xs.map TC.c).map TC.den = xs := by
  rw [List.map_map]; exact List.map_id'' (fun _ => rfl) xs
theorem ofA_den (x : A) : (ofA x).den = x := by
  cases x with
  | c x => rfl
  | g xs => simp only [ofA, TA.den, map_den_c]
theorem ofD_den {d : D} {d' : TD} (h : ofD d = some d') : d'.den = d := by
  cases d with
  | c x => injection h with h; subst h; rfl
  | g xs => injection h with h; subst h; simp only [TD.den, map_den_c]
  | tup xs =>
    injection h with h; subst h
    simp only [TD.den, List.map_map]
    congr 1
    exact List.map_id'' (fun x => ofA_den x) xs
  | arr _ => cases h
theorem ofTk_den {x : Tk} {y : TTk} (h : ofTk x = some y) : y.den = x := by
  cases x with
  | unborn => injection h with h; subst h; rfl
  | dead => injection h with h; subst h; rfl
  | live u b =>
    simp only [ofTk] at h
    split at h
    · rename_i b' hb
      injection h with h; subst h
      cases b with
      | var t cs => injection hb with hb; subst hb; simp only [TTk.den, TB.den, map_den_c]
      | _ => cases hb
    · cases h
theorem ofTks_den : ∀ {T : List (Nat × Tk)} {T' : List (Nat × TTk)}, ofTks T = some T' → denT T' = T
  | [], T', h => by simp [ofTks] at h; subst h; rfl
  | (k, x) :: r, T', h => by
    unfold ofTks at h
    split at h
    · rename_i h1 h2
      injection h with h
      subst h
      have := ofTks_den h2
      simp only [denT, List.map_cons] at this ⊢
      rw [ofTk_den h1, this]
    · cases h

/-- A condition, if there is one. -/
def Hd : Option Prop → Prop
  | none => True
  | some p => p
abbrev TRes := Option (TD × List (Nat × TTk) × Option Prop)

/-- What the typed evaluation of an operation owes to the one of V. -/
def Good (P : Program) (fz : Bool) (o : Op) (σ : Nat → Option TD) (τ : Nat → TTk) (fr : Nat) (d : TD) (T : List (Nat × TTk)) (K : Option Prop) : Prop :=
  Hd K → ∃ (an : An) (K' : Prop), an.fz = fz ∧ evOp1 P an o (denS σ) (denK τ) fr = some (d.den, denT T, K') ∧ K'

/-- An operation whose condition is nothing. -/
def free1 (an : An) (o : Op) (σ : Nat → Option D) (τ : Nat → Tk) : Bool :=
  match o with
  | .binOp op t x y z => match evD σ x with
    | some (.g _) => true
    | _ => free an (.binOp op t x y z) σ τ
  | .unOp op t x => free an (.unOp op t x) σ τ
  | .pick c x y => free an (.pick c x y) σ τ
  | .nilCheck _ => true
  | .makeFunc _ _ _ => true
  | .call c => match c.callee with
    | .builtin .min | .builtin .max => true
    | _ => false
  | _ => false

theorem free1_K {P : Program} {an : An} {o : Op} {σ : Nat → Option D} {τ : Nat → Tk} {fr : Nat} {d : D} {T : List (Nat × Tk)} {K : Prop} (hf : free1 an o σ τ = true) (h : evOp1 P an o σ τ fr = some (d, T, K)) : K := by
  unfold free1 at hf
  split at hf
  · rename_i op t x y z
    simp only [evOp1] at h
    split at hf
    · rename_i hx
      rw [hx] at h
      refine ofV_K h fun rk hr => ?_
      unfold effEqG at hr
      split at hr
      · split at hr
        · split at hr <;> first
            | exact some_K hr
            | cases hr
        · cases hr
      · cases hr
    · rename_i hx
      split at h
      · rename_i q hq; exact absurd hq (hx _)
      · exact free_K (P := P) (an := an) (fr := fr) hf (by simpa only [evOp] using h)
  · rename_i op t x; exact free_K (P := P) (fr := fr) (o := .unOp op t x) hf h
  · rename_i c x y; exact free_K (P := P) (fr := fr) (o := .pick c x y) hf h
  · rename_i x; exact free_K (P := P) (fr := fr) (an := an) (σ := σ) (τ := τ) (o := .nilCheck x) rfl h
  · rename_i a b c; exact free_K (P := P) (fr := fr) (an := an) (σ := σ) (τ := τ) (o := .makeFunc a b c) rfl h
  · rename_i c
    obtain ⟨cal, args, ts⟩ := c
    simp only at hf
    split at hf
    · exact free_K (P := P) (fr := fr) (an := an) (σ := σ) (τ := τ) (o := .call { callee := .builtin .min, args := args, argTypes := ts }) rfl h
    · exact free_K (P := P) (fr := fr) (an := an) (σ := σ) (τ := τ) (o := .call { callee := .builtin .max, args := args, argTypes := ts }) rfl h
    · cases hf
  · cases hf

/-- An operation on what has no lists in it. -/
def tEr (P : Program) (an : An) (o : Op) (σ : Nat → Option TD) (τ : Nat → TTk) (fr : Nat) : TRes :=
  match evOp1 P an o (erS σ) (erK τ) fr with
  | some (d, T, K) => match ofD d, ofTks T with
    | some d', some T' => match free1 an o (erS σ) (erK τ) with
      | true => some (d', T', none)
      | false => some (d', T', some K)
    | _, _ => none
  | none => none
theorem tEr_good {P : Program} {an : An} {o : Op} {σ : Nat → Option TD} {τ : Nat → TTk} {fr : Nat} {d : TD} {T : List (Nat × TTk)} {K : Option Prop} (h : tEr P an o σ τ fr = some (d, T, K)) : Good P an.fz o σ τ fr d T K := by
  intro hK
  unfold tEr at h
  split at h
  · rename_i d0 T0 K0 h0
    split at h
    · rename_i d' T' hd hT
      split at h
      · rename_i hf
        simp only [Option.some.injEq, Prod.mk.injEq] at h
        obtain ⟨rfl, rfl, rfl⟩ := h
        exact ⟨an, _, rfl, by rw [ofD_den hd, ofTks_den hT]; exact evOp1_le (er_le σ τ) h0, free1_K hf h0⟩
      · simp only [Option.some.injEq, Prod.mk.injEq] at h
        obtain ⟨rfl, rfl, rfl⟩ := h
        exact ⟨an, _, rfl, by rw [ofD_den hd, ofTks_den hT]; exact evOp1_le (er_le σ τ) h0, hK⟩
    · cases h
  · cases h
end Go.V

/- Typed states: operations that read or move. -/
namespace Go.V
section
variable {P : Program} {σ : Nat → Option TD} {τ : Nat → TTk} {fr : Nat} {fz : Bool}

def tev (σ : Nat → Option TD) : Operand → Option TD
  | .tmp t => σ t
  | .const v => match vD v with
    | some d => ofD d
    | none => none
  | .func f => some (.c (.c (.fn f [])))
  | .global _ => none

theorem tev_den {x : Operand} {d : TD} (h : tev σ x = some d) : evD (denS σ) x = some d.den := by
  cases x with
  | tmp t => simp only [tev] at h; simp only [evD, denS, h, Option.map_some]
  | const v =>
    simp only [tev] at h
    simp only [evD]
    split at h
    · rename_i d' hd; rw [hd, ofD_den h]
    · cases h
  | func f => simp only [tev, Option.some.injEq] at h; subst h; rfl
  | global _ => cases h

theorem denK_live {k u : Nat} {b : TB} (h : τ k = .live u b) : denK τ k = .live u b.den := by simp only [denK, h, TTk.den]
theorem rowOf_den {k u e : Nat} {own : Bool} {r : CTs} {l : List r.D} (h : τ k = .live u (.row own e r l)) : rowOf (denK τ) k = some (u, r.len, e, l.map (r.enc own)) := by
  simp only [rowOf, denK_live h, TB.den]
theorem varOf_den {k u : Nat} {t : TypeId} {cs : List TC} (h : τ k = .live u (.var t cs)) : varOf (denK τ) k = some (u, t, cs.map TC.den) := by
  simp only [varOf, denK_live h, TB.den]
theorem arrOf_den {k u : Nat} {t : TypeId} {ct : CT} {xs : List ct.D} (h : τ k = .live u (.arr t ct xs)) : arrOf (denK τ) k = some (u, t, xs.map (ct.enc true)) := by
  simp only [arrOf, denK_live h, TB.den]

/-- Any block that is read as rows. -/
def trowOf (τ : Nat → TTk) (k : Nat) : Option (Nat × Nat × Nat × Nat) := match τ k with
  | .live u (.row _ e r l) => some (u, r.len, e, l.length)
  | .live u (.hole e r l _ _ _) => some (u, r.len, e, l.length)
  | .live u (.lit s e rows) => some (u, s, e, rows.length)
  | _ => none
theorem trowOf_den {k u s e n : Nat} (h : trowOf τ k = some (u, s, e, n)) : ∃ xs, rowOf (denK τ) k = some (u, s, e, xs) ∧ xs.length = n := by
  unfold trowOf at h
  split at h
  · rename_i h1
    simp only [Option.some.injEq, Prod.mk.injEq] at h
    obtain ⟨rfl, rfl, rfl, rfl⟩ := h
    exact ⟨_, rowOf_den h1, by simp⟩
  · rename_i h1
    simp only [Option.some.injEq, Prod.mk.injEq] at h
    obtain ⟨rfl, rfl, rfl, rfl⟩ := h
    refine ⟨((_ : List _).map (CTs.enc true _)).set _ ((CTs.enc true _ (rd (CTs.dfl _) _ _)).set _ (.tk _)), by simp only [rowOf, denK_live h1, TB.den]; rfl, by simp⟩
  · rename_i rows h1
    simp only [Option.some.injEq, Prod.mk.injEq] at h
    obtain ⟨rfl, rfl, rfl, rfl⟩ := h
    exact ⟨rows.map fun r => r.map litT, by simp only [rowOf, denK_live h1, TB.den], by simp⟩
  · cases h

/-! ### cells of rows -/
def ldT (own : Bool) (k u i : Nat) : Nat → (r : CTs) → r.D → List TC
  | o, .one c, x => [cell c x o]
  | o, .cons c r, x => cell c x.1 o :: ldT own k u i (o + 1) r x.2
where cell : (c : CT) → c.D → Nat → TC
  | .int kd, n, _ => .c (.int kd n)
  | .bool, b, _ => .c (.bool b)
  | .str, s, _ => .c (.str s)
  | .nif, _, _ => .c .nilif
  | .sl e r, l, o => match own with
    | true => .pk k u i o e r l
    | false => .lst r l
def ldNT : (r : CTs) → r.D → List TC
  | .one c, x => [cell c x]
  | .cons c r, x => cell c x.1 :: ldNT r x.2
where cell : (c : CT) → c.D → TC
  | .int kd, n => .c (.int kd n)
  | .bool, b => .c (.bool b)
  | .str, s => .c (.str s)
  | .nif, _ => .c .nilif
  | .sl _ _, _ => .c .dead
def cellT : (c : CT) → c.D → TC
  | .int kd, n => .c (.int kd n)
  | .bool, b => .c (.bool b)
  | .str, s => .c (.str s)
  | .nif, _ => .c .nilif
  | .sl _ r, l => .lst r l
def ldST : (r : CTs) → r.D → List TC
  | .one c, x => [cellT c x]
  | .cons c r, x => cellT c x.1 :: ldST r x.2

theorem ldT_den (own : Bool) (k u i : Nat) : ∀ (o : Nat) (r : CTs) (x : r.D), (ldT own k u i o r x).map TC.den = ldOs k u i o (r.enc own x)
  | o, .one c, x => by
    cases c <;> simp only [ldT, ldT.cell, List.map_cons, List.map_nil, CTs.enc, CT.enc, ldOs, ldO, TC.den]
    cases own <;> rfl
  | o, .cons c r, x => by
    have ih := ldT_den own k u i (o + 1) r x.2
    cases c <;> simp only [ldT, ldT.cell, List.map_cons, CTs.enc, CT.enc, ldOs, ldO, TC.den, ih]
    cases own <;> rfl
theorem ldNT_den : ∀ (r : CTs) (x : r.D), (ldNT r x).map TC.den = (r.enc true x).map ldN
  | .one c, x => by cases c <;> simp only [ldNT, ldNT.cell, List.map_cons, List.map_nil, CTs.enc, CT.enc, ldN, TC.den]
  | .cons c r, x => by
    have ih := ldNT_den r x.2
    cases c <;> simp only [ldNT, ldNT.cell, List.map_cons, CTs.enc, CT.enc, ldN, TC.den, ih]
theorem ldST_den : ∀ (r : CTs) (x : r.D), (ldST r x).map TC.den = (r.enc false x).map ldS
  | .one c, x => by cases c <;> simp only [ldST, cellT, List.map_cons, List.map_nil, CTs.enc, CT.enc, ldS, TC.den]
  | .cons c r, x => by
    have ih := ldST_den r x.2
    cases c <;> simp only [ldST, cellT, List.map_cons, CTs.enc, CT.enc, ldS, TC.den, ih]

def cutT (ag : Bool) (sz : Nat) (cs : List TC) (off : Nat) : Option TD :=
  match ag with
  | true => match Nat.ble (off + sz) cs.length with
    | true => some (.g ((cs.drop off).take sz))
    | false => none
  | false => match cs[off]? with
    | some c => some (.c c)
    | none => none
theorem cutT_den {ag : Bool} {sz off : Nat} {cs : List TC} {d : TD} (h : cutT ag sz cs off = some d) : cut ag sz (cs.map TC.den) off = some d.den := by
  unfold cutT at h
  unfold cut
  split at h
  · split at h
    · rename_i hb
      injection h with h
      subst h
      have := Nat.le_of_ble_eq_true hb
      simp only [if_true, List.length_map]
      rw [if_pos this, TD.den, List.map_take, List.map_drop]
    · cases h
  · split at h
    · rename_i c hc
      injection h with h
      subst h
      simp only [Bool.false_eq_true, if_false, List.getElem?_map, hc, Option.map_some, TD.den]
    · cases h

/-! ### load -/
/-- A cell of an array of scalars. -/
def arrC : (ct : CT) → ct.D → Option TC
  | .int k, n => some (.c (.int k n))
  | .bool, b => some (.c (.bool b))
  | .str, s => some (.c (.str s))
  | _, _ => none
theorem arrC_den {ct : CT} {x : ct.D} {c : TC} (h : arrC ct x = some c) : c.den = ofT (ct.enc true x) := by
  cases ct <;> simp only [arrC, Option.some.injEq, reduceCtorEq] at h <;> subst h <;> simp only [CT.enc, ofT, TC.den]

def tLoad (P : Program) (σ : Nat → Option TD) (τ : Nat → TTk) (t : TypeId) (x : Operand) : TRes :=
  match tev σ x, aggOf P t, szOf P t with
  | some (.c (.c (.ptr k off))), some ag, some sz => match τ k with
    | .live _ (.var _ cs) => match cutT ag sz cs off with
      | some d => some (d, [], none)
      | none => none
    | .live _ (.arr _ ct xs) => match ag with
      | false => match arrC ct (rd ct.dfl xs off) with
        | some c => some (.c c, [], some (off < xs.length))
        | none => none
      | true => match Nat.beq off 0 with
        | true => some (.arr ct xs, [], some (xs.length = sz))
        | false => none
    | _ => none
  | some (.c (.c (.eptr k s i off))), some ag, some sz => match τ k with
    | .live u (.row own _ r l) => match cutT ag sz (ldT own k u i 0 r (rd r.dfl l i)) off, Nat.beq s r.len with
      | some d, true => some (d, [], some (i < l.length))
      | _, _ => none
    | _ => none
  | some (.c (.pptr k u _ _ _ off r y)), some ag, some sz => match τ k with
    | .live u' _ => match cutT ag sz (ldNT r y) off, Nat.beq u u' with
      | some d, true => some (d, [], none)
      | _, _ => none
    | _ => none
  | some (.c (.rptr off r y)), some ag, some sz => match cutT ag sz (ldST r y) off with
    | some d => some (d, [], none)
    | none => none
  | _, _, _ => none

theorem ev1_load {an : An} {t : TypeId} {x : Operand} {σ : Nat → Option D} {τ : Nat → Tk} : evOp1 P an (.load t x) σ τ fr = evLoad P an σ τ fr t x := rfl

theorem tLoad_good {t : TypeId} {x : Operand} {d : TD} {T : List (Nat × TTk)} {K : Option Prop} (h : tLoad P σ τ t x = some (d, T, K)) : Good P fz (.load t x) σ τ fr d T K := by
  intro hK
  unfold tLoad at h
  split at h
  · rename_i k off ag sz hx hag hsz
    have hx := tev_den hx
    simp only [TD.den, TC.den] at hx
    split at h
    · rename_i u t' cs hk
      split at h
      · rename_i d' hc
        simp only [Option.some.injEq, Prod.mk.injEq] at h
        obtain ⟨rfl, rfl, rfl⟩ := h
        try dsimp only [Hd] at hK
        have hv := varOf_den hk
        refine ⟨{ fz := fz }, True, rfl, ?_, trivial⟩
        rw [ev1_load]
        simp only [evLoad, hx, arrOf_none_of_var hv, hv, effLoadO, effLoad, hag, hsz, ptrCells, cutT_den hc, Option.map_some, denT, List.map_nil]
      · cases h
    · rename_i u t' ct xs hk
      have ha := arrOf_den hk
      split at h
      · split at h
        · rename_i c hc
          simp only [Option.some.injEq, Prod.mk.injEq] at h
          obtain ⟨rfl, rfl, rfl⟩ := h
          try dsimp only [Hd] at hK
          refine ⟨{ fz := fz, x := some (ct.enc true (rd ct.dfl xs off)) }, (xs.map (ct.enc true))[off]? = some (ct.enc true (rd ct.dfl xs off)), rfl, ?_, ?_⟩
          · rw [ev1_load]
            simp only [evLoad, hx, ha, effLoadA, hag, hsz, TD.den, arrC_den hc, denT, List.map_nil]
          · rw [List.getElem?_map, List.getElem?_eq_getElem hK]
            simp [rd, List.getD_eq_getElem?_getD, List.getElem?_eq_getElem hK]
        · cases h
      · split at h
        · rename_i hb
          simp only [Option.some.injEq, Prod.mk.injEq] at h
          obtain ⟨rfl, rfl, rfl⟩ := h
          try dsimp only [Hd] at hK
          have := Nat.eq_of_beq_eq_true hb
          subst this
          refine ⟨{ fz := fz }, (xs.map (ct.enc true)).length = sz, rfl, ?_, ?_⟩
          · rw [ev1_load]
            simp only [evLoad, hx, ha, effLoadA, hag, hsz, TD.den, denT, List.map_nil]
          · simpa using hK
        · cases h
    · cases h
  · rename_i k s i off ag sz hx hag hsz
    have hx := tev_den hx
    simp only [TD.den, TC.den] at hx
    split at h
    · rename_i u own e r l hk
      split at h
      · rename_i d' hc hs
        simp only [Option.some.injEq, Prod.mk.injEq] at h
        obtain ⟨rfl, rfl, rfl⟩ := h
        try dsimp only [Hd] at hK
        have hs := Nat.eq_of_beq_eq_true hs
        subst hs
        have hr := rowOf_den hk
        have hc := cutT_den hc
        rw [ldT_den] at hc
        refine ⟨{ fz := fz, r := some (r.enc own (rd r.dfl l i)) }, r.len = r.len ∧ (l.map (r.enc own))[i]? = some (r.enc own (rd r.dfl l i)), rfl, ?_, ?_⟩
        · rw [ev1_load]
          simp only [evLoad, hx, effLoadO, effLoad, hag, hsz, ptrCells, hr, hc, Option.map_some, denT, List.map_nil]
        · exact ⟨rfl, map_rd hK _⟩
      · cases h
    · cases h
  · rename_i k u i o j off r y ag sz hx hag hsz
    have hx := tev_den hx
    simp only [TD.den, TC.den] at hx
    split at h
    · rename_i u' b hk
      split at h
      · rename_i d' hc hb
        simp only [Option.some.injEq, Prod.mk.injEq] at h
        obtain ⟨rfl, rfl, rfl⟩ := h
        try dsimp only [Hd] at hK
        have hb := Nat.eq_of_beq_eq_true hb
        subst hb
        have hc := cutT_den hc
        rw [ldNT_den] at hc
        refine ⟨{ fz := fz }, u = u, rfl, ?_, ?_⟩
        · rw [ev1_load]
          simp only [evLoad, hx, effLoadO, effLoad, hag, hsz, ptrCells, denK_live hk, hc, Option.map_some, denT, List.map_nil]
        · trivial
      · cases h
    · cases h
  · rename_i off r y ag sz hx hag hsz
    have hx := tev_den hx
    simp only [TD.den, TC.den] at hx
    split at h
    · rename_i d' hc
      simp only [Option.some.injEq, Prod.mk.injEq] at h
      obtain ⟨rfl, rfl, rfl⟩ := h
      try dsimp only [Hd] at hK
      have hc := cutT_den hc
      rw [ldST_den] at hc
      refine ⟨{ fz := fz }, True, rfl, ?_, trivial⟩
      rw [ev1_load]
      simp only [evLoad, hx, effLoadO, effLoad, hag, hsz, ptrCells, hc, Option.map_some, denT, List.map_nil]
    · cases h
  · cases h

/-! ### a load that takes an inner row out -/
def cellAt : (r : CTs) → r.D → Nat → Option (Nat × (q : CTs) × List q.D)
  | .one c, x, 0 => slOf c x
  | .cons c _, x, 0 => slOf c x.1
  | .cons _ r, x, o + 1 => cellAt r x.2 o
  | _, _, _ => none
where slOf : (c : CT) → c.D → Option (Nat × (q : CTs) × List q.D)
  | .sl e q, l => some (e, ⟨q, l⟩)
  | _, _ => none
theorem cellAt_den : ∀ {r : CTs} {x : r.D} {o e : Nat} {q : CTs} {l : List q.D}, cellAt r x o = some (e, ⟨q, l⟩) → (r.enc true x)[o]? = some (.row q.len e (l.map (q.enc true)))
  | .one c, x, 0, e, q, l, h => by
    cases c <;> simp only [cellAt, cellAt.slOf, reduceCtorEq, Option.some.injEq, Prod.mk.injEq, Sigma.mk.injEq] at h
    obtain ⟨rfl, rfl, rfl⟩ := h
    try dsimp only [Hd] at hK
    simp [CTs.enc, CT.enc]
  | .one c, x, o + 1, e, q, l, h => by simp [cellAt] at h
  | .cons c r, x, 0, e, q, l, h => by
    cases c <;> simp only [cellAt, cellAt.slOf, reduceCtorEq, Option.some.injEq, Prod.mk.injEq, Sigma.mk.injEq] at h
    obtain ⟨rfl, rfl, rfl⟩ := h
    try dsimp only [Hd] at hK
    simp [CTs.enc, CT.enc]
  | .cons c r, x, o + 1, e, q, l, h => by
    simp only [CTs.enc, List.getElem?_cons_succ]
    exact cellAt_den (by simpa only [cellAt] using h)

def tLoadO (P : Program) (σ : Nat → Option TD) (τ : Nat → TTk) (fr : Nat) (t : TypeId) (x : Operand) : TRes :=
  match tev σ x, aggOf P t, szOf P t with
  | some (.c (.c (.eptr k s i off))), some false, some _ => match τ k with
    | .live u (.row true e r l) => match cellAt r (rd r.dfl l i) off, Nat.beq s r.len with
      | some (e2, ⟨q, l2⟩), true => some (.c (.c (.sl fr)), [(k, .live (u + 1) (.hole e r l i off fr)), (fr, .live 0 (.row true e2 q l2))], some (i < l.length))
      | _, _ => none
    | _ => none
  | _, _, _ => none
theorem tLoadO_good {t : TypeId} {x : Operand} {d : TD} {T : List (Nat × TTk)} {K : Option Prop} (h : tLoadO P σ τ fr t x = some (d, T, K)) : Good P fz (.load t x) σ τ fr d T K := by
  intro hK
  unfold tLoadO at h
  split at h
  · rename_i k s i off sz hx hag hsz
    have hx := tev_den hx
    simp only [TD.den, TC.den] at hx
    split at h
    · rename_i u e r l hk
      split at h
      · rename_i e2 q l2 hc hs
        simp only [Option.some.injEq, Prod.mk.injEq] at h
        obtain ⟨rfl, rfl, rfl⟩ := h
        try dsimp only [Hd] at hK
        have hs := Nat.eq_of_beq_eq_true hs
        subst hs
        have hr := rowOf_den hk
        refine ⟨{ fz := fz, op := true, r := some (r.enc true (rd r.dfl l i)) }, r.len = r.len ∧ (l.map (r.enc true))[i]? = some (r.enc true (rd r.dfl l i)), rfl, ?_, ?_⟩
        · rw [ev1_load]
          simp only [evLoad, hx, effLoadO, hag, hsz, hr, cellAt_den hc, denT, List.map_cons, List.map_nil, TTk.den, TB.den, TD.den, TC.den]
        · exact ⟨rfl, map_rd hK _⟩
      · cases h
    · cases h
  · cases h
end
end Go.V

/- Typed states: addresses, parts, lengths, aggregates, new variables. -/
namespace Go.V
section
variable {P : Program} {σ : Nat → Option TD} {τ : Nat → TTk} {fr : Nat} {fz : Bool}

def appT : CTs → CTs → CTs
  | .one c, q => .cons c q
  | .cons c r, q => .cons c (appT r q)
def repT (r : CTs) : Nat → Option CTs
  | 0 => none
  | n + 1 => match n with
    | 0 => some r
    | _ + 1 => match repT r n with
      | some q => some (appT r q)
      | none => none
def fldsT (g : TypeId → Option CTs) : List TypeId → Option CTs
  | [] => none
  | t :: ts => match ts with
    | [] => g t
    | _ :: _ => match g t, fldsT g ts with
      | some r, some q => some (appT r q)
      | _, _ => none
/-- The cells of a type. -/
def rowT (P : Program) : Nat → TypeId → Option CTs
  | 0, _ => none
  | d + 1, t => match P.underlying t with
    | some (.int k) => some (.one (.int k))
    | some .bool => some (.one .bool)
    | some .string => some (.one .str)
    | some (.slice e) => match rowT P d e with
      | some r => some (.one (.sl e r))
      | none => none
    | some (.struct fs) => fldsT (rowT P d) (fs.toList.map (·.type))
    | some (.array n e) => match rowT P d e with
      | some r => repT r n
      | none => none
    | _ => none

/-! ### move -/
def tMove (P : Program) (sh : Bool) (σ : Nat → Option TD) (fr : Nat) (ty : TypeId) (x : Operand) : TRes :=
  match tev σ x with
  | some (.c (.c .nils)) => match rowT P 9 ty with
    | some (.one (.sl e r)) => some (.c (.c (.sl fr)), [(fr, .live 0 (.row (!sh) e r []))], none)
    | _ => some (.c (.c .nils), [], none)
  | some d => some (d, [], none)
  | none => none
theorem tMove_good {sh : Bool} {ty : TypeId} {x : Operand} {o : Op} (ho : o = .move x ∨ o = .assign x) {d : TD} {T : List (Nat × TTk)} {K : Option Prop} (h : tMove P sh σ fr ty x = some (d, T, K)) : Good P fz o σ τ fr d T K := by
  intro hK
  have e1 : ∀ an σ τ, evOp1 P an o σ τ fr = evMove an σ fr x := by intro an σ τ; rcases ho with rfl | rfl <;> rfl
  have plain : ∀ {d}, tev σ x = some d → ∃ (an : An) (K' : Prop), an.fz = fz ∧ evOp1 P an o (denS σ) (denK τ) fr = some (d.den, denT [], K') ∧ K' := fun {d} hx =>
    ⟨{ fz := fz }, True, rfl, by rw [e1]; simp only [evMove, effMove, tev_den hx, Option.map_some, ofV, denT, List.map_nil], trivial⟩
  unfold tMove at h
  split at h
  · rename_i hx
    split at h
    · rename_i e r hr
      simp only [Option.some.injEq, Prod.mk.injEq] at h
      obtain ⟨rfl, rfl, rfl⟩ := h
      try dsimp only [Hd] at hK
      refine ⟨{ fz := fz, nl := some (r.len, e) }, True, rfl, ?_, trivial⟩
      rw [e1]
      simp only [evMove, tev_den hx, TD.den, TC.den, denT, List.map_cons, List.map_nil, TTk.den, TB.den]
    · simp only [Option.some.injEq, Prod.mk.injEq] at h
      obtain ⟨rfl, rfl, rfl⟩ := h
      try dsimp only [Hd] at hK
      exact plain hx
  · rename_i d' _ hx
    simp only [Option.some.injEq, Prod.mk.injEq] at h
    obtain ⟨rfl, rfl, rfl⟩ := h
    try dsimp only [Hd] at hK
    exact plain hx
  · cases h

/-! ### addresses -/
def TC.shift (c : TC) (n : Nat) : Option TC :=
  match c with
  | .c x => match x with
    | .ptr k off => some (.c (.ptr k (off + n)))
    | .eptr k s i off => some (.c (.eptr k s i (off + n)))
    | _ => none
  | .pptr k u i o j off r y => some (.pptr k u i o j (off + n) r y)
  | .rptr off r y => some (.rptr (off + n) r y)
  | _ => none
theorem TC.shift_den {c c' : TC} {n : Nat} (h : c.shift n = some c') : c.den.shift n = some c'.den := by
  unfold TC.shift at h
  split at h
  · split at h <;> first
      | (injection h with h; subst h; rfl)
      | cases h
  · injection h with h; subst h; rfl
  · injection h with h; subst h; rfl
  · cases h

def tFieldAddr (P : Program) (σ : Nat → Option TD) (t : TypeId) (x : Operand) (f : Nat) : TRes :=
  match tev σ x, fieldOf P t f with
  | some (.c c), some (off, s, _) => match Nat.beq s 0, c.shift off with
    | false, some c' => some (.c c', [], none)
    | _, _ => none
  | _, _ => none
theorem tFieldAddr_good {t : TypeId} {x : Operand} {f : Nat} {d : TD} {T : List (Nat × TTk)} {K : Option Prop} (h : tFieldAddr P σ t x f = some (d, T, K)) : Good P fz (.fieldAddr t x f) σ τ fr d T K := by
  intro hK
  unfold tFieldAddr at h
  split at h
  · rename_i c off s ag hx hf
    split at h
    · rename_i c' hs hc
      simp only [Option.some.injEq, Prod.mk.injEq] at h
      obtain ⟨rfl, rfl, rfl⟩ := h
      try dsimp only [Hd] at hK
      have hs : ¬ s = 0 := by rintro rfl; cases hs
      refine ⟨{ fz := fz }, True, rfl, ?_, trivial⟩
      show ofV (effFieldAddr P (denS σ) t x f) = _
      simp only [effFieldAddr, tev_den hx, TD.den, hf, if_neg hs, TC.shift_den hc, Option.map_some, ofV, denT, List.map_nil]
    · cases h
  · cases h

def tField (P : Program) (σ : Nat → Option TD) (t : TypeId) (x : Operand) (f : Nat) : TRes :=
  match tev σ x, fieldOf P t f with
  | some (.g cs), some (off, s, ag) => match cutT ag s cs off with
    | some d => some (d, [], none)
    | none => none
  | _, _ => none
theorem tField_good {t : TypeId} {x : Operand} {f : Nat} {d : TD} {T : List (Nat × TTk)} {K : Option Prop} (h : tField P σ t x f = some (d, T, K)) : Good P fz (.field t x f) σ τ fr d T K := by
  intro hK
  unfold tField at h
  split at h
  · rename_i cs off s ag hx hf
    split at h
    · rename_i d' hc
      simp only [Option.some.injEq, Prod.mk.injEq] at h
      obtain ⟨rfl, rfl, rfl⟩ := h
      try dsimp only [Hd] at hK
      refine ⟨{ fz := fz }, True, rfl, ?_, trivial⟩
      show ofV (effField P (denS σ) t x f) = _
      simp only [effField, tev_den hx, TD.den, hf, cutT_den hc, Option.map_some, ofV, denT, List.map_nil]
    · cases h
  · cases h

def tExtract (σ : Nat → Option TD) (x : Operand) (i : Nat) : TRes :=
  match tev σ x with
  | some (.tup as) => match as[i]? with
    | some (.c c) => some (.c c, [], none)
    | some (.g cs) => some (.g cs, [], none)
    | none => none
  | _ => none
theorem tExtract_good {x : Operand} {i : Nat} {d : TD} {T : List (Nat × TTk)} {K : Option Prop} (h : tExtract σ x i = some (d, T, K)) : Good P fz (.extract x i) σ τ fr d T K := by
  intro hK
  unfold tExtract at h
  split at h
  · rename_i as hx
    split at h
    · rename_i c hc
      simp only [Option.some.injEq, Prod.mk.injEq] at h
      obtain ⟨rfl, rfl, rfl⟩ := h
      try dsimp only [Hd] at hK
      refine ⟨{ fz := fz }, True, rfl, ?_, trivial⟩
      show ofV (effExtract (denS σ) x i) = _
      simp only [effExtract, tev_den hx, TD.den, List.getElem?_map, hc, Option.map_some, TA.den, ofV, denT, List.map_nil]
    · rename_i c hc
      simp only [Option.some.injEq, Prod.mk.injEq] at h
      obtain ⟨rfl, rfl, rfl⟩ := h
      try dsimp only [Hd] at hK
      refine ⟨{ fz := fz }, True, rfl, ?_, trivial⟩
      show ofV (effExtract (denS σ) x i) = _
      simp only [effExtract, tev_den hx, TD.den, List.getElem?_map, hc, Option.map_some, TA.den, ofV, denT, List.map_nil]
    · cases h
  · cases h

def tIndex (P : Program) (σ : Nat → Option TD) (t : TypeId) (x ix : Operand) : TRes :=
  match tev σ x, tev σ ix, P.underlying t with
  | some (.g cs), some (.c (.c (.int _ n))), some (.array len e) => match szOf P e, aggOf P e with
    | some sz, some ag => match cutT ag sz cs (n.toNat * sz) with
      | some d => some (d, [], some (0 ≤ n ∧ n < (len : Int)))
      | none => none
    | _, _ => none
  | _, _, _ => none
theorem tIndex_good {t : TypeId} {x ix : Operand} {d : TD} {T : List (Nat × TTk)} {K : Option Prop} (h : tIndex P σ t x ix = some (d, T, K)) : Good P fz (.index t x ix) σ τ fr d T K := by
  intro hK
  unfold tIndex at h
  split at h
  · rename_i cs k n len e hx hi hu
    split at h
    · rename_i sz ag hsz hag
      split at h
      · rename_i d' hc
        simp only [Option.some.injEq, Prod.mk.injEq] at h
        obtain ⟨rfl, rfl, rfl⟩ := h
        try dsimp only [Hd] at hK
        refine ⟨{ fz := fz }, _, rfl, ?_, hK⟩
        show ofV (effIndex P (denS σ) t x ix) = _
        simp only [effIndex, tev_den hx, tev_den hi, TD.den, TC.den, hu, hsz, hag, cutT_den hc, Option.map_some, ofV, denT, List.map_nil]
      · cases h
    · cases h
  · cases h

def tIndexAddr (P : Program) (σ : Nat → Option TD) (τ : Nat → TTk) (t : TypeId) (x ix : Operand) : TRes :=
  match tev σ x, tev σ ix, P.underlying t with
  | some (.c c), some (.c (.c (.int _ n))), some (.slice e) => match szOf P e with
    | some sz => match c with
      | .c (.sl k) => match trowOf τ k with
        | some (_, s, _, len) => match Nat.beq s sz with
          | true => some (.c (.c (.eptr k s n.toNat 0)), [], some (0 ≤ n ∧ n < (len : Int)))
          | false => none
        | none => none
      | .c (.sub k s lo hi) => match Nat.beq s sz with
        | true => some (.c (.c (.eptr k s (lo + n.toNat) 0)), [], some (0 ≤ n ∧ (lo : Int) + n < (hi : Int)))
        | false => none
      | .lst r l => match Nat.beq r.len sz with
        | true => some (.c (.rptr 0 r (rd r.dfl l n)), [], some (0 ≤ n ∧ n < (l.length : Int)))
        | false => none
      | .pk k u i o _ r l => match τ k, Nat.beq r.len sz with
        | .live u' _, true => match Nat.beq u u' with
          | true => some (.c (.pptr k u i o n.toNat 0 r (rd r.dfl l n)), [], some (0 ≤ n ∧ n < (l.length : Int)))
          | false => none
        | _, _ => none
      | _ => none
    | none => none
  | some (.c c), some (.c (.c (.int _ n))), some (.array len e) => match szOf P e with
    | some sz => match c.shift (n.toNat * sz) with
      | some c' => some (.c c', [], some (0 ≤ n ∧ n < (len : Int)))
      | none => none
    | none => none
  | _, _, _ => none

theorem rd_toNat {α : Type} (d : α) (l : List α) (n : Int) : rd d l (n.toNat : Int) = rd d l n := by unfold rd; rw [Int.toNat_natCast]

theorem tIndexAddr_good {t : TypeId} {x ix : Operand} {d : TD} {T : List (Nat × TTk)} {K : Option Prop} (h : tIndexAddr P σ τ t x ix = some (d, T, K)) : Good P fz (.indexAddr t x ix) σ τ fr d T K := by
  intro hK
  unfold tIndexAddr at h
  have e1 : ∀ (an : An) σ τ, evOp1 P an (.indexAddr t x ix) σ τ fr = ofV (effIndexAddr P an σ τ t x ix) := fun _ _ _ => rfl
  split at h
  · rename_i c k n e hx hi hu
    split at h
    · rename_i sz hsz
      replace hx := tev_den hx
      replace hi := tev_den hi
      simp only [TD.den, TC.den] at hx hi
      split at h
      · rename_i k
        split at h
        · rename_i u s e' len hk
          obtain ⟨xs, hrow, hlen⟩ := trowOf_den hk
          split at h
          · rename_i hb
            simp only [Option.some.injEq, Prod.mk.injEq] at h
            obtain ⟨rfl, rfl, rfl⟩ := h
            try dsimp only [Hd] at hK
            have hb := Nat.eq_of_beq_eq_true hb
            subst hb hlen
            refine ⟨{ fz := fz }, 0 ≤ n ∧ n < (xs.length : Int) ∧ s = s, rfl, ?_, hK.1, hK.2, rfl⟩
            rw [e1]
            simp only [effIndexAddr, hx, hi, hu, hsz, TC.den, hrow, ofV, denT, List.map_nil, TD.den]
          · cases h
        · cases h
      · rename_i k s lo hi'
        split at h
        · rename_i hb
          simp only [Option.some.injEq, Prod.mk.injEq] at h
          obtain ⟨rfl, rfl, rfl⟩ := h
          try dsimp only [Hd] at hK
          have hb := Nat.eq_of_beq_eq_true hb
          subst hb
          refine ⟨{ fz := fz }, 0 ≤ n ∧ (lo : Int) + n < (hi' : Int) ∧ s = s, rfl, ?_, hK.1, hK.2, rfl⟩
          rw [e1]
          simp only [effIndexAddr, hx, hi, hu, hsz, TC.den, ofV, denT, List.map_nil, TD.den]
        · cases h
      · rename_i r l
        split at h
        · rename_i hb
          simp only [Option.some.injEq, Prod.mk.injEq] at h
          obtain ⟨rfl, rfl, rfl⟩ := h
          try dsimp only [Hd] at hK
          have hb := Nat.eq_of_beq_eq_true hb
          subst hb
          have hm := map_rd (own := false) (l := l) (i := n.toNat) (by omega) r.dfl
          rw [rd_toNat] at hm
          refine ⟨{ fz := fz, r := some (r.enc false (rd r.dfl l n)) }, 0 ≤ n ∧ (l.map (r.enc false))[n.toNat]? = some (r.enc false (rd r.dfl l n)) ∧ r.len = r.len, rfl, ?_, hK.1, hm, rfl⟩
          rw [e1]
          simp only [effIndexAddr, hx, hi, hu, hsz, TC.den, ofV, denT, List.map_nil, TD.den]
        · cases h
      · rename_i k u i o e' r l
        split at h
        · rename_i u' b hk hb
          split at h
          · rename_i hu'
            simp only [Option.some.injEq, Prod.mk.injEq] at h
            obtain ⟨rfl, rfl, rfl⟩ := h
            try dsimp only [Hd] at hK
            have hb := Nat.eq_of_beq_eq_true hb
            have hu' := Nat.eq_of_beq_eq_true hu'
            subst hb hu'
            have hm := map_rd (own := true) (l := l) (i := n.toNat) (by omega) r.dfl
            rw [rd_toNat] at hm
            refine ⟨{ fz := fz, r := some (r.enc true (rd r.dfl l n)) }, 0 ≤ n ∧ (l.map (r.enc true))[n.toNat]? = some (r.enc true (rd r.dfl l n)) ∧ r.len = r.len ∧ u = u, rfl, ?_, hK.1, hm, rfl, rfl⟩
            rw [e1]
            simp only [effIndexAddr, hx, hi, hu, hsz, TC.den, denK_live hk, ofV, denT, List.map_nil, TD.den]
          · cases h
        · cases h
      · cases h
    · cases h
  · rename_i c k n len e hx hi hu
    split at h
    · rename_i sz hsz
      replace hx := tev_den hx
      replace hi := tev_den hi
      simp only [TD.den] at hx
      simp only [TD.den, TC.den] at hi
      split at h
      · rename_i c' hc
        simp only [Option.some.injEq, Prod.mk.injEq] at h
        obtain ⟨rfl, rfl, rfl⟩ := h
        try dsimp only [Hd] at hK
        refine ⟨{ fz := fz }, _, rfl, ?_, hK⟩
        rw [e1]
        simp only [effIndexAddr, hx, hi, hu, hsz, TC.shift_den hc, Option.map_some, ofV, denT, List.map_nil, TD.den]
      · cases h
    · cases h
  · cases h

/-! ### lengths, parts of slices -/
def tlenC (τ : Nat → TTk) : TC → Option Int
  | .c (.sl k) => match trowOf τ k with
    | some (_, _, _, n) => some (n : Int)
    | none => none
  | .c (.sub _ _ lo hi) => some ((hi - lo : Nat) : Int)
  | .lst _ l => some (l.length : Int)
  | .pk k u _ _ _ _ l => match τ k with
    | .live u' _ => match Nat.beq u u' with
      | true => some (l.length : Int)
      | false => none
    | _ => none
  | .c .nils => some 0
  | _ => none
theorem tlenC_den {c : TC} {n : Int} (h : tlenC τ c = some n) : ∃ rk, lenC (denK τ) c.den = some (n, rk) := by
  unfold tlenC at h
  split at h
  · split at h
    · rename_i hk
      obtain ⟨xs, hrow, hlen⟩ := trowOf_den hk
      injection h with h
      subst h
      exact ⟨_, by simp only [TC.den, lenC, hrow, hlen]; rfl⟩
    · cases h
  · injection h with h; subst h; exact ⟨_, rfl⟩
  · injection h with h; subst h; exact ⟨_, by simp only [TC.den, lenC, List.length_map]; rfl⟩
  · split at h
    · rename_i hk
      split at h
      · rename_i hb
        injection h with h
        subst h
        have hb := Nat.eq_of_beq_eq_true hb
        subst hb
        exact ⟨_, by simp only [TC.den, lenC, denK_live hk, if_true, List.length_map]; rfl⟩
      · cases h
    · cases h
  · injection h with h; subst h; exact ⟨_, rfl⟩
  · cases h

def tLen (P : Program) (σ : Nat → Option TD) (τ : Nat → TTk) (ts : Array TypeId) (xs : Array Operand) : TRes :=
  match ts.toList, xs.toList with
  | [t], [x] => match P.underlying t with
    | some (.slice _) => match tev σ x with
      | some (.c c) => match tlenC τ c with
        | some n => some (.c (.c (.int .i64 n)), [], none)
        | none => none
      | _ => none
    | some .string => match tev σ x with
      | some (.c (.c (.str s))) => some (.c (.c (.int .i64 (s.size : Int))), [], none)
      | _ => none
    | some (.array n _) => some (.c (.c (.int .i64 (n : Int))), [], none)
    | _ => none
  | _, _ => none
theorem tLen_good {ts : Array TypeId} {xs : Array Operand} {d : TD} {T : List (Nat × TTk)} {K : Option Prop} (h : tLen P σ τ ts xs = some (d, T, K)) : Good P fz (.call { callee := .builtin .len, args := xs, argTypes := ts }) σ τ fr d T K := by
  intro hK
  have e1 : ∀ (an : An) σ τ, evOp1 P an (.call { callee := .builtin .len, args := xs, argTypes := ts }) σ τ fr = ofV (effLen P σ τ ts xs) := fun _ _ _ => rfl
  unfold tLen at h
  split at h
  · rename_i t x h1 h2
    split at h
    · rename_i hu
      split at h
      · rename_i c hx
        split at h
        · rename_i n hn
          simp only [Option.some.injEq, Prod.mk.injEq] at h
          obtain ⟨rfl, rfl, rfl⟩ := h
          try dsimp only [Hd] at hK
          obtain ⟨rk, hrk⟩ := tlenC_den hn
          refine ⟨{ fz := fz }, True, rfl, ?_, trivial⟩
          rw [e1]
          simp only [effLen, h1, h2, hu, tev_den hx, TD.den, hrk, Option.map_some, ofV, denT, List.map_nil]; rfl
        · cases h
      · cases h
    · rename_i hu
      split at h
      · rename_i s hx
        simp only [Option.some.injEq, Prod.mk.injEq] at h
        obtain ⟨rfl, rfl, rfl⟩ := h
        try dsimp only [Hd] at hK
        refine ⟨{ fz := fz }, True, rfl, ?_, trivial⟩
        rw [e1]
        simp only [effLen, h1, h2, hu, tev_den hx, TD.den, TC.den, ofV, denT, List.map_nil]
      · cases h
    · rename_i n e hu
      simp only [Option.some.injEq, Prod.mk.injEq] at h
      obtain ⟨rfl, rfl, rfl⟩ := h
      try dsimp only [Hd] at hK
      refine ⟨{ fz := fz }, True, rfl, ?_, trivial⟩
      rw [e1]
      simp only [effLen, h1, h2, hu, TD.den, TC.den, ofV, denT, List.map_nil]
    · cases h
  · cases h

def tbound (σ : Nat → Option TD) (dflt : Int) : Option Operand → Option Int
  | none => some dflt
  | some x => match tev σ x with
    | some (.c (.c (.int _ n))) => some n
    | _ => none
theorem tbound_den {z n : Int} {x : Option Operand} (h : tbound σ z x = some n) : boundD (denS σ) z x = some n := by
  cases x with
  | none => exact h
  | some x =>
    simp only [tbound] at h
    split at h
    · rename_i hx; simp only [boundD, tev_den hx, TD.den, TC.den]; exact h
    · cases h

def tSlice (P : Program) (σ : Nat → Option TD) (τ : Nat → TTk) (t : TypeId) (x : Operand) (lo hi mx : Option Operand) : TRes :=
  match mx, tev σ x, P.underlying t with
  | none, some (.c c), some (.slice e) => match szOf P e, tlenC τ c with
    | some sz, some n => match tbound σ 0 lo, tbound σ n hi with
      | some l, some h => match c with
        | .c (.sl k) => match trowOf τ k with
          | some (_, s, _, _) => match Nat.beq s sz with
            | true => some (.c (.c (.sub k s l.toNat h.toNat)), [], some (0 ≤ l ∧ l ≤ h ∧ h ≤ n))
            | false => none
          | none => none
        | .c (.sub k s a b) => match Nat.beq s sz with
          | true => some (.c (.c (.sub k s (a + l.toNat) (a + h.toNat))), [], some (0 ≤ l ∧ l ≤ h ∧ h ≤ n))
          | false => none
        | .lst r xs => match Nat.beq r.len sz with
          | true => some (.c (.lst r ((xs.take h.toNat).drop l.toNat)), [], some (0 ≤ l ∧ l ≤ h ∧ h ≤ n))
          | false => none
        | _ => none
      | _, _ => none
    | _, _ => none
  | _, _, _ => none
theorem tSlice_good {t : TypeId} {x : Operand} {lo hi mx : Option Operand} {d : TD} {T : List (Nat × TTk)} {K : Option Prop} (h : tSlice P σ τ t x lo hi mx = some (d, T, K)) : Good P fz (.slice t x lo hi mx) σ τ fr d T K := by
  intro hK
  have e1 : ∀ (an : An) σ τ, evOp1 P an (.slice t x lo hi mx) σ τ fr = ofV (effSlice P σ τ t x lo hi mx) := fun _ _ _ => rfl
  unfold tSlice at h
  split at h
  · rename_i c e hx hu
    split at h
    · rename_i sz n hsz hn
      obtain ⟨rk, hrk⟩ := tlenC_den hn
      split at h
      · rename_i l hh hl hhh
        replace hx := tev_den hx
        simp only [TD.den] at hx
        split at h
        · rename_i k
          split at h
          · rename_i u s e' len hk
            obtain ⟨xs, hrow, hlen⟩ := trowOf_den hk
            split at h
            · rename_i hb
              simp only [Option.some.injEq, Prod.mk.injEq] at h
              obtain ⟨rfl, rfl, rfl⟩ := h
              try dsimp only [Hd] at hK
              have hb := Nat.eq_of_beq_eq_true hb
              subst hb
              simp only [TC.den] at hrk hx
              refine ⟨{ fz := fz }, 0 ≤ l ∧ l ≤ hh ∧ hh ≤ n ∧ s = s, rfl, ?_, hK.1, hK.2.1, hK.2.2, rfl⟩
              rw [e1]
              simp only [effSlice, hx, hu, hsz, hrk, tbound_den hl, tbound_den hhh, ofV, denT, List.map_nil, TC.den, TD.den]
              simp only [hrow]
            · cases h
          · cases h
        · rename_i k s a b
          split at h
          · rename_i hb
            simp only [Option.some.injEq, Prod.mk.injEq] at h
            obtain ⟨rfl, rfl, rfl⟩ := h
            try dsimp only [Hd] at hK
            have hb := Nat.eq_of_beq_eq_true hb
            subst hb
            simp only [TC.den] at hrk hx
            refine ⟨{ fz := fz }, 0 ≤ l ∧ l ≤ hh ∧ hh ≤ n ∧ s = s, rfl, ?_, hK.1, hK.2.1, hK.2.2, rfl⟩
            rw [e1]
            simp only [effSlice, hx, hu, hsz, hrk, tbound_den hl, tbound_den hhh, ofV, denT, List.map_nil, TC.den, TD.den]
          · cases h
        · rename_i r xs
          split at h
          · rename_i hb
            simp only [Option.some.injEq, Prod.mk.injEq] at h
            obtain ⟨rfl, rfl, rfl⟩ := h
            try dsimp only [Hd] at hK
            have hb := Nat.eq_of_beq_eq_true hb
            subst hb
            simp only [TC.den] at hrk hx
            refine ⟨{ fz := fz }, 0 ≤ l ∧ l ≤ hh ∧ hh ≤ n ∧ r.len = r.len, rfl, ?_, hK.1, hK.2.1, hK.2.2, rfl⟩
            rw [e1]
            simp only [effSlice, hx, hu, hsz, hrk, tbound_den hl, tbound_den hhh, ofV, denT, List.map_nil, TC.den, TD.den, List.map_drop, List.map_take]
          · cases h
        · cases h
      · cases h
    · cases h
  · cases h
end
end Go.V

/- Typed states: aggregates, variables. -/
namespace Go.V
section
variable {P : Program} {σ : Nat → Option TD} {τ : Nat → TTk} {fr : Nat} {fz : Bool}

def TD.cells : TD → Option (List TC)
  | .c x => some [x]
  | .g xs => some xs
  | _ => none
theorem TD.cells_den {d : TD} {cs : List TC} (h : d.cells = some cs) : d.den.cells = some (cs.map TC.den) := by
  cases d <;> simp only [TD.cells, Option.some.injEq, reduceCtorEq] at h <;> subst h <;> rfl

def TC.lies : TC → Bool
  | .c x => x.lies
  | .lst _ _ => true
  | _ => false
theorem TC.lies_den {x : TC} (h : x.lies = true) : x.den.lies = true := by
  cases x <;> first
    | exact h
    | rfl
    | cases h
theorem lies_map {cs : List TC} (h : cs.all TC.lies = true) : (cs.map TC.den).all C.lies = true := by
  rw [List.all_eq_true] at h ⊢
  intro c hc
  obtain ⟨x, hx, rfl⟩ := List.mem_map.1 hc
  exact TC.lies_den (h x hx)

def tparts (σ : Nat → Option TD) : List (Nat × Operand) → Option (List (Nat × List TC))
  | [] => some []
  | (i, x) :: r => match tev σ x, tparts σ r with
    | some d, some ps => match d.cells with
      | some cs => match cs.all TC.lies with
        | true => some ((i, cs) :: ps)
        | false => none
      | none => none
    | _, _ => none
def denP (ps : List (Nat × List TC)) : List (Nat × List C) := ps.map fun p => (p.1, p.2.map TC.den)
theorem tparts_den : ∀ {xs : List (Nat × Operand)} {ps : List (Nat × List TC)}, tparts σ xs = some ps → partsD (denS σ) xs = some (denP ps)
  | [], ps, h => by simp [tparts] at h; subst h; rfl
  | (i, x) :: r, ps, h => by
    unfold tparts at h
    split at h
    · rename_i d ps' h1 h2
      split at h
      · rename_i cs hcs
        split at h
        · rename_i hl
          injection h with h
          subst h
          simp only [partsD, tev_den h1, tparts_den h2, TD.cells_den hcs, lies_map hl, if_true]
          rfl
        · cases h
      · cases h
    · cases h

def tfill (place : Nat → Option (Nat × Nat)) (cs : List TC) : List (Nat × List TC) → Option (List TC)
  | [] => some cs
  | (i, xs) :: rest => match place i with
    | none => none
    | some (off, size) => match Nat.beq xs.length size, Nat.ble (off + size) cs.length with
      | true, true => tfill place (setRange cs off xs) rest
      | _, _ => none
theorem setRange_map {α β : Type} (f : α → β) (cs : List α) (off : Nat) (xs : List α) : (setRange cs off xs).map f = setRange (cs.map f) off (xs.map f) := by
  simp [setRange]
theorem tfill_den {place : Nat → Option (Nat × Nat)} : ∀ {ps : List (Nat × List TC)} {cs cs' : List TC}, tfill place cs ps = some cs' → fillC place (cs.map TC.den) (denP ps) = some (cs'.map TC.den)
  | [], cs, cs', h => by simp [tfill] at h; subst h; rfl
  | (i, xs) :: rest, cs, cs', h => by
    unfold tfill at h
    simp only [denP, List.map_cons, fillC]
    split at h
    · cases h
    · rename_i off size hp
      split at h
      · rename_i h1 h2
        rw [hp]
        simp only []
        have h1 := Nat.eq_of_beq_eq_true h1
        have h2 := Nat.le_of_ble_eq_true h2
        rw [if_pos ⟨by simpa using h1, by simpa using h2⟩, ← setRange_map]
        exact tfill_den h
      · cases h

def tBuild (P : Program) (σ : Nat → Option TD) (t : TypeId) (parts : Array (Nat × Operand)) : TRes :=
  match zeroD P t, tparts σ parts.toList, P.underlying t with
  | some (.g zc), some ps, some (.struct fs) => match placesOf P fs.toList with
    | some pl => match tfill (fun i => pl[i]?) (zc.map TC.c) ps with
      | some cs => some (.g cs, [], none)
      | none => none
    | none => none
  | some (.g zc), some ps, some (.array _ e) => match szOf P e with
    | some s => match tfill (fun i => some (i * s, s)) (zc.map TC.c) ps with
      | some cs => some (.g cs, [], none)
      | none => none
    | none => none
  | _, _, _ => none
theorem tBuild_good {t : TypeId} {parts : Array (Nat × Operand)} {d : TD} {T : List (Nat × TTk)} {K : Option Prop} (h : tBuild P σ t parts = some (d, T, K)) : Good P fz (.build t parts) σ τ fr d T K := by
  intro hK
  have e1 : ∀ (an : An) σ τ, evOp1 P an (.build t parts) σ τ fr = ofV (effBuild P σ t parts) := fun _ _ _ => rfl
  unfold tBuild at h
  split at h
  · rename_i zc ps fs hz hp hu
    split at h
    · rename_i pl hpl
      split at h
      · rename_i cs hcs
        simp only [Option.some.injEq, Prod.mk.injEq] at h
        obtain ⟨rfl, rfl, rfl⟩ := h
        try dsimp only [Hd] at hK
        have hf := tfill_den hcs
        rw [map_den_c] at hf
        refine ⟨{ fz := fz }, True, rfl, ?_, trivial⟩
        rw [e1]
        simp only [effBuild, hz, tparts_den hp, hu, hpl, hf, Option.map_some, ofV, denT, List.map_nil, TD.den]
      · cases h
    · cases h
  · rename_i zc ps n e hz hp hu
    split at h
    · rename_i s hs
      split at h
      · rename_i cs hcs
        simp only [Option.some.injEq, Prod.mk.injEq] at h
        obtain ⟨rfl, rfl, rfl⟩ := h
        try dsimp only [Hd] at hK
        have hf := tfill_den hcs
        rw [map_den_c] at hf
        refine ⟨{ fz := fz }, True, rfl, ?_, trivial⟩
        rw [e1]
        simp only [effBuild, hz, tparts_den hp, hu, hs, hf, Option.map_some, ofV, denT, List.map_nil, TD.den]
      · cases h
    · cases h
  · cases h

/-! ### variables, with nil slices as empty rows -/
def nilPos : Nat → CTs → List TC → List (Nat × Nat × CTs)
  | j, .one c, x :: _ => np j c x
  | j, .cons c r, x :: xs => match np j c x with
    | [] => nilPos (j + 1) r xs
    | p :: _ => p :: nilPos (j + 1) r xs
  | _, _, [] => []
where np (j : Nat) : CT → TC → List (Nat × Nat × CTs)
  | .sl e r, .c .nils => [(j, e, r)]
  | _, _ => []
def tpromL (sh : Bool) (fr : Nat) (cs : List TC) : List (Nat × Nat × CTs) → Option (List TC × List (Nat × TTk))
  | [] => some (cs, [])
  | (j, e, r) :: q => match cs[j]? with
    | some (.c .nils) => match tpromL sh (fr + 1) (cs.set j (.c (.sl fr))) q with
      | some (cs', T) => some (cs', (fr, .live 0 (.row (!sh) e r [])) :: T)
      | none => none
    | _ => none
theorem tpromL_den {sh : Bool} : ∀ {l : List (Nat × Nat × CTs)} {fr : Nat} {cs cs' : List TC} {T : List (Nat × TTk)}, tpromL sh fr cs l = some (cs', T) → promL fr (cs.map TC.den) (l.map fun p => (p.1, p.2.2.len, p.2.1)) = some (cs'.map TC.den, denT T)
  | [], fr, cs, cs', T, h => by simp only [tpromL, Option.some.injEq, Prod.mk.injEq] at h; obtain ⟨rfl, rfl⟩ := h; rfl
  | (j, e, r) :: q, fr, cs, cs', T, h => by
    unfold tpromL at h
    split at h
    · rename_i hj
      split at h
      · rename_i cs2 T2 h2
        simp only [Option.some.injEq, Prod.mk.injEq] at h
        obtain ⟨rfl, rfl⟩ := h
        have ih := tpromL_den h2
        rw [List.map_set] at ih
        simp only [List.map_cons, promL, List.getElem?_map, hj, Option.map_some, TC.den]
        simp only [TC.den] at ih
        rw [ih]
        simp only [denT, List.map_cons, TTk.den, TB.den, List.map_nil]
      · cases h
    · cases h

def varPos (P : Program) (t : TypeId) (cs : List TC) : List (Nat × Nat × CTs) := match rowT P 9 t with
  | some r => nilPos 0 r cs
  | none => []
def tVar (P : Program) (sh : Bool) (fr k u : Nat) (t : TypeId) (cs : List TC) : Option (List (Nat × TTk)) :=
  match varPos P t cs with
  | [] => some [(k, .live u (.var t cs))]
  | p :: l => match Nat.ble (l.length + 1) 30, tpromL sh (fr + 1) cs (p :: l) with
    | true, some (cs', T) => some (T ++ [(k, .live u (.var t cs'))])
    | _, _ => none
theorem tVar_den {sh : Bool} {k u : Nat} {t : TypeId} {cs : List TC} {T : List (Nat × TTk)} (h : tVar P sh fr k u t cs = some T) (an : An) (ha : an.pr = (varPos P t cs).map fun p => (p.1, p.2.2.len, p.2.1)) :
    promT an fr [(k, .live u (.var t (cs.map TC.den)))] = some (denT T) := by
  unfold tVar at h
  unfold promT
  split at h
  · rename_i hp
    injection h with h
    subst h
    rw [ha, hp]
    rfl
  · rename_i p l hp
    split at h
    · rename_i cs' T' hb h2
      injection h with h
      subst h
      rw [ha, hp]
      have := tpromL_den h2
      simp only [List.map_cons] at this ⊢
      simp only [List.length_cons, List.length_map, hb, this]
      simp only [denT, List.map_append, List.map_cons, List.map_nil, TTk.den, TB.den]
    · cases h

/-- Cells that are all of one scalar kind. -/
def arrL (ct : CT) : List TC → Option (List ct.D)
  | [] => some []
  | x :: r => match arrX ct x, arrL ct r with
    | some y, some ys => some (y :: ys)
    | _, _ => none
where arrX : (ct : CT) → TC → Option ct.D
  | .int k, .c (.int k' n) => match decide (k = k') with
    | true => some n
    | false => none
  | .bool, .c (.bool b) => some b
  | _, _ => none
theorem arrX_den : ∀ {ct : CT} {x : TC} {y : ct.D}, arrL.arrX ct x = some y → toS x.den = some (ct.enc true y)
  | .int k, .c (.int k' n), y, h => by
    simp only [arrL.arrX] at h
    split at h
    · rename_i hk
      injection h with h
      subst h
      have hk := of_decide_eq_true hk
      subst hk
      rfl
    · cases h
  | .bool, .c (.bool b), y, h => by simp only [arrL.arrX] at h; injection h with h; subst h; rfl
theorem arrL_den {ct : CT} : ∀ {cs : List TC} {xs : List ct.D}, arrL ct cs = some xs → toSs (cs.map TC.den) = some (xs.map (ct.enc true))
  | [], xs, h => by simp [arrL] at h; subst h; rfl
  | x :: r, xs, h => by
    unfold arrL at h
    split at h
    · rename_i h1 h2
      injection h with h
      subst h
      simp only [List.map_cons, toSs, arrX_den h1, arrL_den h2]
    · cases h
/-- A list of zeros, told by its length. -/
def arrZ (ct : CT) (cs : List TC) : Option (List ct.D) := match cs.all (isZ ct) with
  | true => some (List.replicate cs.length ct.dfl)
  | false => none
where isZ : CT → TC → Bool
  | .int k, .c (.int k' n) => match decide (k = k'), n with
    | true, .ofNat 0 => true
    | _, _ => false
  | .bool, .c (.bool b) => !b
  | _, _ => false
theorem isZ_den : ∀ {ct : CT} {x : TC}, arrZ.isZ ct x = true → toS x.den = some (ct.enc true ct.dfl)
  | .int k, .c (.int k' n), h => by
    simp only [arrZ.isZ] at h
    split at h
    · rename_i hk
      have hk := of_decide_eq_true hk
      subst hk
      rfl
    · cases h
  | .bool, .c (.bool b), h => by simp only [arrZ.isZ, Bool.not_eq_true'] at h; subst h; rfl
theorem arrZ_den {ct : CT} : ∀ {cs : List TC} {xs : List ct.D}, arrZ ct cs = some xs → toSs (cs.map TC.den) = some (xs.map (ct.enc true)) := by
  intro cs xs h
  unfold arrZ at h
  split at h
  · rename_i ha
    injection h with h
    subst h
    induction cs with
    | nil => rfl
    | cons x r ih =>
      simp only [List.all_cons, Bool.and_eq_true] at ha
      simp only [List.map_cons, toSs, isZ_den ha.1, ih ha.2, List.length_cons, List.replicate_succ]
  · cases h

/-- The kind of an array's cells. -/
def arrCT (P : Program) (t : TypeId) : Option CT := match P.underlying t with
  | some (.array _ _) => match rowT P 9 t with
    | some (.one c) => some c
    | some (.cons c _) => some c
    | none => none
  | _ => none

def tVarA (P : Program) (an : Bool) (sh : Bool) (fr : Nat) (t : TypeId) (d : TD) : TRes :=
  match an with
  | false => match d.cells with
    | some cs => match cs.all TC.lies, tVar P sh fr fr 0 t cs with
      | true, some T => some (.c (.c (.ptr fr 0)), T, none)
      | _, _ => none
    | none => none
  | true => match arrCT P t, d with
    | some ct, .g cs => match (match arrZ ct cs with | some xs => some xs | none => arrL ct cs) with
      | some xs => some (.c (.c (.ptr fr 0)), [(fr, .live 0 (.arr t ct xs))], none)
      | none => none
    | some _, .arr ct xs => some (.c (.c (.ptr fr 0)), [(fr, .live 0 (.arr t ct xs))], none)
    | _, _ => none

theorem toSs_self {ct : CT} : ∀ (xs : List ct.D), arrD (TD.arr ct xs).den = some (xs.map (ct.enc true)) := fun _ => rfl

theorem tVarA_den {an sh : Bool} {t : TypeId} {d d' : TD} {T : List (Nat × TTk)} {K : Option Prop} (h : tVarA P an sh fr t d = some (d', T, K)) :
    K = none ∧ ∃ (a0 : An), a0.fz = fz ∧ a0.arr = an ∧ promE a0 fr (match an with | false => effVar fr t d.den | true => effVarA fr t d.den) = some (d'.den, denT T, True) := by
  cases an with
  | false =>
    simp only [tVarA] at h
    split at h
    · rename_i cs hcs
      split at h
      · rename_i T' hl hT
        simp only [Option.some.injEq, Prod.mk.injEq] at h
        obtain ⟨rfl, rfl, rfl⟩ := h
        try dsimp only [Hd] at hK
        refine ⟨rfl, { fz := fz, pr := (varPos P t cs).map fun p => (p.1, p.2.2.len, p.2.1) }, rfl, rfl, ?_⟩
        simp only [effVar, TD.cells_den hcs, lies_map hl, if_true, promE]
        rw [tVar_den hT _ rfl]
        rfl
      · cases h
    · cases h
  | true =>
    simp only [tVarA] at h
    split at h
    · rename_i ct cs hct hold
      split at h
      · rename_i xs hxs
        simp only [Option.some.injEq, Prod.mk.injEq] at h
        obtain ⟨rfl, rfl, rfl⟩ := h
        try dsimp only [Hd] at hK
        have hs : toSs (cs.map TC.den) = some (xs.map (ct.enc true)) := by
          cases hz : arrZ ct cs with
          | some ys => rw [hz] at hxs; injection hxs with hxs; subst hxs; exact arrZ_den hz
          | none => rw [hz] at hxs; exact arrL_den hxs
        refine ⟨rfl, { fz := fz, arr := true }, rfl, rfl, ?_⟩
        simp only [effVarA, arrD, TD.den, hs, promE, promT, denT, List.map_cons, List.map_nil, TTk.den, TB.den, TC.den]
      · cases h
    · rename_i ct xs hct hold
      simp only [Option.some.injEq, Prod.mk.injEq] at h
      obtain ⟨rfl, rfl, rfl⟩ := h
      try dsimp only [Hd] at hK
      refine ⟨rfl, { fz := fz, arr := true }, rfl, rfl, ?_⟩
      simp only [effVarA, arrD, TD.den, promE, promT, denT, List.map_cons, List.map_nil, TTk.den, TB.den, TC.den]
    · cases h

def tBox (P : Program) (an : Bool) (sh : Bool) (σ : Nat → Option TD) (fr : Nat) (t : TypeId) (x : Operand) : TRes :=
  match tev σ x with
  | some d => tVarA P an sh fr t d
  | none => none
theorem tBox_good {an sh : Bool} {t : TypeId} {x : Operand} {d : TD} {T : List (Nat × TTk)} {K : Option Prop} (h : tBox P an sh σ fr t x = some (d, T, K)) : Good P fz (.box t x) σ τ fr d T K := by
  intro hK
  unfold tBox at h
  split at h
  · rename_i d0 hx
    obtain ⟨rfl, a0, h1, h2, h3⟩ := tVarA_den (fz := fz) h
    refine ⟨a0, True, h1, ?_, trivial⟩
    show promE a0 fr (effBoxA a0 (denS σ) fr t x) = _
    rw [← h3]
    congr 1
    unfold effBoxA effBox
    rw [h2, tev_den hx]
    cases an <;> rfl
  · cases h

def tAlloc (P : Program) (an : Bool) (sh : Bool) (fr : Nat) (t : TypeId) : TRes :=
  match zeroD P t with
  | some d => match ofD d with
    | some d' => tVarA P an sh fr t d'
    | none => none
  | none => none
theorem tAlloc_good {an sh : Bool} {t : TypeId} {d : TD} {T : List (Nat × TTk)} {K : Option Prop} (h : tAlloc P an sh fr t = some (d, T, K)) : Good P fz (.alloc t) σ τ fr d T K := by
  intro hK
  unfold tAlloc at h
  split at h
  · rename_i d0 hz
    split at h
    · rename_i d1 hd1
      obtain ⟨rfl, a0, h1, h2, h3⟩ := tVarA_den (fz := fz) h
      refine ⟨a0, True, h1, ?_, trivial⟩
      show promE a0 fr (effAllocA P a0 fr t) = _
      rw [← h3]
      congr 1
      unfold effAllocA effAlloc
      rw [h2, hz]
      rw [ofD_den hd1]
      cases an <;> rfl
    · cases h
  · cases h
end
end Go.V

/- Typed states: slices that are built, made, appended to, written. -/
namespace Go.V
section
variable {P : Program} {σ : Nat → Option TD} {τ : Nat → TTk} {fr : Nat} {fz : Bool}

theorem denK_upd (τ : Nat → TTk) (k : Nat) (x : TTk) : denK (upd τ k x) = upd (denK τ) k x.den := by
  funext j
  simp only [denK, upd_eq]
  split <;> rfl

/-- A cell that goes into a row: its datum, and the token that is used up. -/
def toX (own : Bool) (fr : Nat) (τ : Nat → TTk) : (c : CT) → TC → Option (c.D × Option Nat)
  | .int k, .c (.int k' n) => match decide (k = k') with
    | true => some (n, none)
    | false => none
  | .bool, .c (.bool b) => some (b, none)
  | .str, .c (.str s) => some (s, none)
  | .nif, .c .nilif => some ((), none)
  | .sl _ _, .c .nils => some ([], none)
  | .sl e r, .c (.sl k) => match own, τ k, Nat.beq fr k with
    | true, .live _ (.row true e' r' l), false => match Nat.beq e e', castL r' r l with
      | true, some l' => some (l', some k)
      | _, _ => none
    | _, _, _ => none
  | .sl _ r, .lst r' l => match own with
    | false => match castL r' r l with
      | some l' => some (l', none)
      | none => none
    | true => none
  | _, _ => none

def eatO (τ : Nat → TTk) : Option Nat → Nat → TTk
  | some k => upd τ k .dead
  | none => τ
def consO : Option Nat → List Nat → List Nat
  | some k, ks => k :: ks
  | none, ks => ks
def colC (own : Bool) : CT → Option (Bool × Nat × Nat)
  | .sl e r => some (own, r.len, e)
  | _ => none
def colsOf (own : Bool) : CTs → List (Option (Bool × Nat × Nat))
  | .one c => [colC own c]
  | .cons c r => colC own c :: colsOf own r

/-- What one cell comes to: closed, and nil told as an empty row. -/
def Cell1 (own : Bool) (fr : Nat) (τ : Nat → TTk) (c : CT) (v : TC) (x : c.D) (q : Option Nat) : Prop :=
  ∃ t t', toT v.den = some t ∧ rtT (colC own c) t' = c.enc own x ∧ ∀ r r' ks, clsR (denK (eatO τ q)) fr r = some (r', ks) → clsR (denK τ) fr (t :: r) = some (t' :: r', consO q ks)

theorem clsR_plain {t : T} {τ : Nat → Tk} {k : Nat} {r r' : List T} {ks : List Nat} (ht : ∀ j, t ≠ .tk j) (h : clsR τ k r = some (r', ks)) : clsR τ k (t :: r) = some (t :: r', ks) := by
  cases t <;> first
    | (exact absurd rfl (ht _))
    | simp only [clsR, h]

theorem toX_cell {own : Bool} : ∀ {c : CT} {v : TC} {x : c.D} {q : Option Nat}, toX own fr τ c v = some (x, q) → Cell1 own fr τ c v x q := by
  intro c v x q h
  unfold toX at h
  split at h
  · split at h
    · rename_i hk
      have hk := of_decide_eq_true hk
      subst hk
      simp only [Option.some.injEq, Prod.mk.injEq] at h
      obtain ⟨rfl, rfl⟩ := h
      exact ⟨_, _, rfl, rfl, fun r r' ks hr => clsR_plain (by simp) hr⟩
    · cases h
  · simp only [Option.some.injEq, Prod.mk.injEq] at h
    obtain ⟨rfl, rfl⟩ := h
    exact ⟨_, _, rfl, rfl, fun r r' ks hr => clsR_plain (by simp) hr⟩
  · simp only [Option.some.injEq, Prod.mk.injEq] at h
    obtain ⟨rfl, rfl⟩ := h
    exact ⟨_, _, rfl, rfl, fun r r' ks hr => clsR_plain (by simp) hr⟩
  · simp only [Option.some.injEq, Prod.mk.injEq] at h
    obtain ⟨rfl, rfl⟩ := h
    exact ⟨_, _, rfl, rfl, fun r r' ks hr => clsR_plain (by simp) hr⟩
  · simp only [Option.some.injEq, Prod.mk.injEq] at h
    obtain ⟨rfl, rfl⟩ := h
    refine ⟨.nils, .nils, rfl, ?_, fun r r' ks hr => clsR_plain (by simp) hr⟩
    cases own <;> rfl
  · rename_i e r k
    split at h
    · rename_i u e' r' l hk hb
      split at h
      · rename_i l' he hl
        simp only [Option.some.injEq, Prod.mk.injEq] at h
        obtain ⟨rfl, rfl⟩ := h
        obtain ⟨rfl, hl⟩ := castL_some hl
        have hl := eq_of_heq hl
        subst hl
        have he := Nat.eq_of_beq_eq_true he
        subst he
        refine ⟨.tk k, .row r'.len e (l.map (r'.enc true)), rfl, rfl, fun r0 r1 ks hr => ?_⟩
        simp only [clsR, rowOf_den hk, hb]
        rw [eatO, denK_upd] at hr
        rw [show (TTk.dead).den = Tk.dead from rfl] at hr
        rw [hr]
        rfl
      · cases h
    · cases h
  · rename_i e r r' l
    split at h
    · split at h
      · rename_i l' hl
        simp only [Option.some.injEq, Prod.mk.injEq] at h
        obtain ⟨rfl, rfl⟩ := h
        obtain ⟨rfl, hl⟩ := castL_some hl
        have hl := eq_of_heq hl
        subst hl
        exact ⟨_, _, rfl, rfl, fun r r' ks hr => clsR_plain (by simp) hr⟩
      · cases h
    · cases h
  · cases h

def toRow (own : Bool) (fr : Nat) : (Nat → TTk) → (r : CTs) → List TC → Option (r.D × List Nat)
  | τ, .one c, [v] => match toX own fr τ c v with
    | some (x, q) => some (x, consO q [])
    | none => none
  | τ, .cons c r, v :: vs => match toX own fr τ c v with
    | some (x, q) => match toRow own fr (eatO τ q) r vs with
      | some (y, ks) => some ((x, y), consO q ks)
      | none => none
    | none => none
  | _, _, _ => none

/-- What a row of cells comes to. -/
def RowIs (own : Bool) (fr : Nat) (τ : Nat → TTk) (r : CTs) (vs : List TC) (x : r.D) (ks : List Nat) : Prop :=
  ∃ ts ts', toTs (vs.map TC.den) = some ts ∧ clsR (denK τ) fr ts = some (ts', ks) ∧ rtR (colsOf own r) ts' = r.enc own x

theorem toRow_is {own : Bool} : ∀ {r : CTs} {τ : Nat → TTk} {vs : List TC} {x : r.D} {ks : List Nat}, toRow own fr τ r vs = some (x, ks) → RowIs own fr τ r vs x ks
  | .one c, τ, [v], x, ks, h => by
    simp only [toRow] at h
    split at h
    · rename_i x0 q hx
      simp only [Option.some.injEq, Prod.mk.injEq] at h
      obtain ⟨rfl, rfl⟩ := h
      obtain ⟨t, t', h1, h2, h3⟩ := toX_cell hx
      refine ⟨[t], [t'], by simp only [List.map_cons, List.map_nil, toTs, h1], h3 [] [] [] rfl, ?_⟩
      simp only [colsOf, rtR, CTs.enc]
      rw [h2]
    · cases h
  | .cons c r, τ, v :: vs, x, ks, h => by
    simp only [toRow] at h
    split at h
    · rename_i x0 q hx
      split at h
      · rename_i y ks' hy
        simp only [Option.some.injEq, Prod.mk.injEq] at h
        obtain ⟨rfl, rfl⟩ := h
        obtain ⟨t, t', h1, h2, h3⟩ := toX_cell hx
        obtain ⟨ts, ts', g1, g2, g3⟩ := toRow_is hy
        refine ⟨t :: ts, t' :: ts', by simp only [List.map_cons, toTs, h1, g1], h3 _ _ _ g2, ?_⟩
        simp only [colsOf, rtR, CTs.enc, h2, g3]
      · cases h
    · cases h
  | .one c, τ, [], x, ks, h => by simp [toRow] at h
  | .one c, τ, _ :: _ :: _, x, ks, h => by simp [toRow] at h
  | .cons c r, τ, [], x, ks, h => by simp [toRow] at h

def eats (τ : Nat → TTk) : List Nat → Nat → TTk
  | [] => τ
  | k :: ks => eats (upd τ k .dead) ks
theorem eats_den : ∀ (ks : List Nat) (τ : Nat → TTk), denK (eats τ ks) = updT (denK τ) (deads ks)
  | [], _ => rfl
  | k :: ks, τ => by
    rw [eats, eats_den ks, denK_upd]
    rfl

def toRows (own : Bool) (fr : Nat) (r : CTs) : (Nat → TTk) → List (List TC) → Option (List r.D × List Nat)
  | _, [] => some ([], [])
  | τ, vs :: rest => match toRow own fr τ r vs with
    | some (x, ks) => match toRows own fr r (eats τ ks) rest with
      | some (xs, ks') => some (x :: xs, ks ++ ks')
      | none => none
    | none => none
def tss : List (List TC) → Option (List (List T))
  | [] => some []
  | vs :: rest => match toTs (vs.map TC.den), tss rest with
    | some x, some xs => some (x :: xs)
    | _, _ => none
theorem toRows_is {own : Bool} {r : CTs} : ∀ {rows : List (List TC)} {τ : Nat → TTk} {l : List r.D} {ks : List Nat}, toRows own fr r τ rows = some (l, ks) →
    ∃ xs xs', tss rows = some xs ∧ clsRs (denK τ) fr xs = some (xs', ks) ∧ xs'.map (rtR (colsOf own r)) = l.map (r.enc own)
  | [], τ, l, ks, h => by
    simp only [toRows, Option.some.injEq, Prod.mk.injEq] at h
    obtain ⟨rfl, rfl⟩ := h
    exact ⟨[], [], rfl, rfl, rfl⟩
  | vs :: rest, τ, l, ks, h => by
    simp only [toRows] at h
    split at h
    · rename_i x ks1 hx
      split at h
      · rename_i l2 ks2 h2
        simp only [Option.some.injEq, Prod.mk.injEq] at h
        obtain ⟨rfl, rfl⟩ := h
        obtain ⟨ts, ts', a1, a2, a3⟩ := toRow_is hx
        obtain ⟨xs, xs', b1, b2, b3⟩ := toRows_is h2
        rw [eats_den] at b2
        refine ⟨ts :: xs, ts' :: xs', by simp only [tss, a1, b1], ?_, by simp only [List.map_cons, a3, b3]⟩
        simp only [clsRs, a2, b2]
      · cases h
    · cases h

/-! ### rows out of a flat list of cells -/
def chunksG {α : Type} (s : Nat) (xs : List α) : Nat → List (List α)
  | 0 => []
  | n + 1 => xs.take s :: chunksG s (xs.drop s) n

theorem toTs_append : ∀ {as bs : List C} {xs ys : List T}, toTs as = some xs → toTs bs = some ys → toTs (as ++ bs) = some (xs ++ ys)
  | [], bs, xs, ys, h1, h2 => by simp [toTs] at h1; subst h1; exact h2
  | a :: as, bs, xs, ys, h1, h2 => by
    unfold toTs at h1
    split at h1
    · rename_i x xs' h3 h4
      injection h1 with h1
      subst h1
      simp only [List.cons_append, toTs, h3, toTs_append h4 h2]
    · cases h1

theorem chunks_den {s : Nat} : ∀ {n : Nat} {cs : List TC} {xs : List (List T)}, cs.length = n * s → tss (chunksG s cs n) = some xs → ∃ ts, toTs (cs.map TC.den) = some ts ∧ chunks s ts n = xs
  | 0, cs, xs, hl, h => by
    simp only [chunksG, tss, Option.some.injEq] at h
    subst h
    have : cs = [] := List.eq_nil_of_length_eq_zero (by omega)
    subst this
    exact ⟨[], rfl, rfl⟩
  | n + 1, cs, xs, hl, h => by
    simp only [chunksG, tss] at h
    split at h
    · rename_i x xs' h1 h2
      injection h with h
      subst h
      rw [Nat.add_mul] at hl
      obtain ⟨ts, g1, g2⟩ := chunks_den (by simp; omega) h2
      have hx : x.length = s := by
        have := (toTs_get h1).1
        simp at this
        omega
      refine ⟨x ++ ts, ?_, ?_⟩
      · have := toTs_append h1 g1
        rwa [← List.map_append, List.take_append_drop] at this
      · simp only [chunks]
        rw [List.take_append_of_le_length (by omega), List.take_of_length_le (by omega), List.drop_append_of_le_length (by omega), List.drop_of_length_le (by omega), List.nil_append, g2]
    · cases h

def TC.isTok : TC → Bool
  | .c (.sl _) => true
  | _ => false
def TC.isLst : TC → Bool
  | .lst _ _ => true
  | _ => false

theorem tfill_length {place : Nat → Option (Nat × Nat)} : ∀ {ps : List (Nat × List TC)} {c0 c1 : List TC}, tfill place c0 ps = some c1 → c1.length = c0.length
  | [], c0, c1, h => by simp [tfill] at h; rw [h]
  | (i, ys) :: ps, c0, c1, h => by
    unfold tfill at h
    split at h
    · cases h
    · split at h
      · rename_i h1 h2
        have h1 := Nat.eq_of_beq_eq_true h1
        have h2 := Nat.le_of_ble_eq_true h2
        rw [tfill_length h, setRange_length _ _ _ (by omega)]
      · cases h

theorem rep_map {α β : Type} (f : α → β) (xs : List α) : ∀ n, (rep xs n).map f = rep (xs.map f) n
  | 0 => rfl
  | n + 1 => by simp [rep, rep_map f xs n]

def tDeads (ks : List Nat) : List (Nat × TTk) := ks.map fun k => (k, .dead)
theorem tDeads_den (ks : List Nat) : denT (tDeads ks) = deads ks := by simp [tDeads, denT, deads, TTk.den]

def tBuildSlice (P : Program) (cl sh : Bool) (σ : Nat → Option TD) (τ : Nat → TTk) (fr : Nat) (t : TypeId) (len : Nat) (parts : Array (Nat × Operand)) : TRes :=
  match P.underlying t, tparts σ parts.toList with
  | some (.slice e), some ps => match szOf P e, (zeroD P e).bind D.cells, rowT P 9 e with
    | some s, some zc, some r => match Nat.beq zc.length s && Nat.blt 0 s && Nat.ble (len * s) 16777216, tfill (fun i => some (i * s, s)) (rep (zc.map TC.c) len) ps with
      | true, some cs => match Nat.beq r.len s with
        | true => match !cl && cs.any TC.isTok with
          | true => match tss (chunksG s cs len) with
            | some _ => some (.c (.c (.sl fr)), [(fr, .live 0 (.lit s e (chunksG s cs len)))], none)
            | none => none
          | false => match toRows (!(sh || cs.any TC.isLst)) fr r τ (chunksG s cs len) with
            | some (l, ks) => some (.c (.c (.sl fr)), (fr, .live ks.length (.row (!(sh || cs.any TC.isLst)) e r l)) :: tDeads ks, none)
            | none => none
        | false => none
      | _, _ => none
    | _, _, _ => none
  | _, _ => none

theorem litT_tss : ∀ {rows : List (List TC)} {xs : List (List T)}, tss rows = some xs → (rows.map fun r => r.map litT) = xs
  | [], xs, h => by simp [tss] at h; subst h; rfl
  | vs :: rest, xs, h => by
    simp only [tss] at h
    split at h
    · rename_i x xs' h1 h2
      injection h with h
      subst h
      simp only [List.map_cons, litT_tss h2]
      congr 1
      have : ∀ {vs : List TC} {x : List T}, toTs (vs.map TC.den) = some x → vs.map litT = x := by
        intro vs
        induction vs with
        | nil => intro x h; simp [toTs] at h; subst h; rfl
        | cons v vs ih =>
          intro x h
          simp only [List.map_cons, toTs] at h
          split at h
          · rename_i y ys h3 h4
            injection h with h
            subst h
            simp only [List.map_cons, ih h4, litT, h3]
          · cases h
      exact this h1
    · cases h

theorem tBuildSlice_good {cl sh : Bool} {t : TypeId} {len : Nat} {parts : Array (Nat × Operand)} {d : TD} {T : List (Nat × TTk)} {K : Option Prop} (h : tBuildSlice P cl sh σ τ fr t len parts = some (d, T, K)) : Good P fz (.buildSlice t len parts) σ τ fr d T K := by
  intro hK
  have e1 : ∀ (an : An) σ τ, evOp1 P an (.buildSlice t len parts) σ τ fr = ofE (effBuildSliceK P an σ τ fr t len parts) := fun _ _ _ => rfl
  unfold tBuildSlice at h
  split at h
  · rename_i e ps hu hp
    split at h
    · rename_i s zc r hs hz hr
      split at h
      · rename_i cs hc hcs
        simp only [Bool.and_eq_true] at hc
        obtain ⟨⟨hc1, hc2⟩, hc3⟩ := hc
        have hc1 := Nat.eq_of_beq_eq_true hc1
        have hc2 : 0 < s := Nat.le_of_ble_eq_true hc2
        have hc3 := Nat.le_of_ble_eq_true hc3
        have hlen : cs.length = len * s := by rw [tfill_length hcs, rep_length, List.length_map, hc1]
        have hfill := tfill_den hcs
        rw [rep_map, map_den_c] at hfill
        have base : ∀ {xs : List (List V.T)}, tss (chunksG s cs len) = some xs → effBuildSlice P (denS σ) fr t len parts = some (.c (.sl fr), [(fr, .live 0 (.row s e xs))]) := by
          intro xs hxs
          obtain ⟨ts, g1, g2⟩ := chunks_den hlen hxs
          simp only [effBuildSlice, hu, tparts_den hp, hs, hz, hfill, g1, g2, hc1, hc2, hc3, and_self, if_true]
        split at h
        · split at h
          · split at h
            · rename_i xs hxs
              simp only [Option.some.injEq, Prod.mk.injEq] at h
              obtain ⟨rfl, rfl, rfl⟩ := h
              try dsimp only [Hd] at hK
              refine ⟨{ fz := fz }, True, rfl, ?_, trivial⟩
              rw [e1]
              simp only [effBuildSliceK, base hxs, ofE, denT, List.map_cons, List.map_nil, TTk.den, TB.den, TD.den, TC.den, litT_tss hxs]
            · cases h
          · split at h
            · rename_i l ks hrow
              simp only [Option.some.injEq, Prod.mk.injEq] at h
              obtain ⟨rfl, rfl, rfl⟩ := h
              try dsimp only [Hd] at hK
              obtain ⟨xs, xs', a1, a2, a3⟩ := toRows_is hrow
              rename_i hrl _ _ _
              have hrl := Nat.eq_of_beq_eq_true hrl
              refine ⟨{ fz := fz, cl := true, cols := colsOf (!(sh || cs.any TC.isLst)) r }, True, rfl, ?_, trivial⟩
              rw [e1]
              have hcong : clsRs (upd (denK τ) fr (.live 0 (.row s e xs))) fr xs = some (xs', ks) := by
                rw [← a2]
                exact clsRs_congr xs fun j hj => upd_ne _ _ hj
              simp only [effBuildSliceK, base a1, hcong, ofE, a3]
              simp only [denT, List.map_cons, TTk.den, TB.den, TD.den, TC.den, hrl, Nat.zero_add]
              rw [← tDeads_den ks]; rfl
            · cases h
        · cases h
      · cases h
    · cases h
  · cases h

def tMake (P : Program) (sh : Bool) (σ : Nat → Option TD) (fr : Nat) (t : TypeId) (l c : Operand) : TRes :=
  match P.underlying t, tev σ l, tev σ c with
  | some (.slice e), some (.c (.c (.int _ n))), some (.c (.c (.int _ m))) => match P.info? e, (zeroD P e).bind D.cells, rowT P 9 e with
    | some i, some zc, some r => match Nat.beq zc.length i.size && Nat.blt 0 i.size && zc.all C.lies && Nat.beq r.len i.size, toRow (!sh) fr (fun _ => .unborn) r (zc.map TC.c) with
      | true, some (z, []) => some (.c (.c (.sl fr)), [(fr, .live 0 (.row (!sh) e r (List.replicate n.toNat z)))], some (0 ≤ n ∧ n = m ∧ (i.bytes : Int) * n ≤ 281474976710656 ∧ n ≤ 9223372036854775807))
      | _, _ => none
    | _, _, _ => none
  | _, _, _ => none

theorem clsR_nil : ∀ {r r' : List T} {τ : Nat → Tk} {k : Nat}, clsR τ k r = some (r', []) → r' = r
  | [], r', τ, k, h => by simp [clsR] at h; exact h
  | x :: r, r', τ, k, h => by
    have skip : (match clsR τ k r with | some (r', ks) => some (x :: r', ks) | none => none) = some (r', []) → r' = x :: r := by
      intro hx
      split at hx
      · rename_i r2 ks2 hr2
        simp only [Option.some.injEq, Prod.mk.injEq] at hx
        obtain ⟨rfl, rfl⟩ := hx
        rw [clsR_nil hr2]
      · cases hx
    cases x with
    | tk k2 =>
      simp only [clsR] at h
      split at h
      · split at h
        · simp at h
        · cases h
      · cases h
    | _ => exact skip h

theorem tMake_good {sh : Bool} {t : TypeId} {l c : Operand} {d : TD} {T : List (Nat × TTk)} {K : Option Prop} (h : tMake P sh σ fr t l c = some (d, T, K)) : Good P fz (.makeSlice t l c) σ τ fr d T K := by
  intro hK
  have e1 : ∀ (an : An) σ τ, evOp1 P an (.makeSlice t l c) σ τ fr = effMakeK P an σ fr t l c := fun _ _ _ => rfl
  unfold tMake at h
  split at h
  · rename_i e kl n kc m hu hl hc
    split at h
    · rename_i i zc r hi hz hr
      split at h
      · rename_i z hcond hrow
        simp only [Option.some.injEq, Prod.mk.injEq] at h
        obtain ⟨rfl, rfl, rfl⟩ := h
        try dsimp only [Hd] at hK
        simp only [Bool.and_eq_true] at hcond
        obtain ⟨⟨⟨h1, h2⟩, h3⟩, h4⟩ := hcond
        have h1 := Nat.eq_of_beq_eq_true h1
        have h2 : 0 < i.size := Nat.le_of_ble_eq_true h2
        have h4 := Nat.eq_of_beq_eq_true h4
        obtain ⟨ts, ts', a1, a2, a3⟩ := toRow_is hrow
        have := clsR_nil a2
        subst this
        rw [map_den_c] at a1
        refine ⟨{ fz := fz, cl := true, cols := colsOf (!sh) r }, _, rfl, ?_, hK⟩
        rw [e1]
        simp only [effMakeK, effMake, hu, tev_den hl, tev_den hc, TD.den, TC.den, hi, hz, a1, h1, h2, h3, and_self, if_true, List.map_replicate, a3, denT, List.map_cons, List.map_nil, TTk.den, TB.den, h4]
      · cases h
    · cases h
  · cases h
end
end Go.V

/- Typed states: stores and appends. -/
namespace Go.V
section
variable {P : Program} {σ : Nat → Option TD} {τ : Nat → TTk} {fr : Nat} {fz : Bool}

/-! ### a row with some cells anew -/
def setRow (own : Bool) (fr : Nat) : (Nat → TTk) → (r : CTs) → r.D → Nat → List TC → Option (r.D × List Nat)
  | _, .one _, x, 0, [] => some (x, [])
  | τ, .one c, _, 0, [v] => match toX own fr τ c v with
    | some (x, q) => some (x, consO q [])
    | none => none
  | _, .cons _ _, x, 0, [] => some (x, [])
  | τ, .cons c r, x, 0, v :: vs => match toX own fr τ c v with
    | some (y, q) => match setRow own fr (eatO τ q) r x.2 0 vs with
      | some (z, ks) => some ((y, z), consO q ks)
      | none => none
    | none => none
  | τ, .cons _ r, x, o + 1, vs => match setRow own fr τ r x.2 o vs with
    | some (z, ks) => some ((x.1, z), ks)
    | none => none
  | _, _, _, _, _ => none

theorem rtT_enc (own o2 : Bool) : ∀ (c : CT) (x : c.D), rtT (colC o2 c) (c.enc own x) = c.enc own x
  | .int _, _ => rfl
  | .bool, _ => rfl
  | .str, _ => rfl
  | .nif, _ => rfl
  | .sl _ _, _ => by cases o2 <;> cases own <;> rfl
theorem rtR_enc (own o2 : Bool) : ∀ (r : CTs) (x : r.D), rtR (colsOf o2 r) (r.enc own x) = r.enc own x
  | .one c, x => by
    have := rtT_enc own o2 c x
    simp only [colsOf, CTs.enc, rtR]
    rw [this]
  | .cons c r, x => by simp only [colsOf, CTs.enc, rtR, rtT_enc, rtR_enc own o2 r x.2]
theorem clsR_enc (own : Bool) (τ : Nat → Tk) (k : Nat) : ∀ (r : CTs) (x : r.D), clsR τ k (r.enc own x) = some (r.enc own x, [])
  | .one c, x => by
    have : ∀ j, c.enc own x ≠ .tk j := by intro j; cases c <;> cases own <;> simp [CT.enc]
    exact clsR_plain this rfl
  | .cons c r, x => by
    have : ∀ j, c.enc own x.1 ≠ .tk j := by intro j; cases c <;> cases own <;> simp [CT.enc]
    exact clsR_plain this (clsR_enc own τ k r x.2)

theorem setRange_zero_cons {α : Type} (a : α) (l : List α) (v : α) (vs : List α) : setRange (a :: l) 0 (v :: vs) = v :: setRange l 0 vs := by
  simp [setRange, Nat.add_comm]
theorem setRange_succ {α : Type} (a : α) (l : List α) (o : Nat) (vs : List α) : setRange (a :: l) (o + 1) vs = a :: setRange l o vs := by
  simp [setRange, Nat.add_right_comm]
theorem setRange_nil {α : Type} (l : List α) (o : Nat) : setRange l o [] = l := by simp [setRange]

theorem setRow_is {own : Bool} : ∀ {r : CTs} {τ : Nat → TTk} {x x' : r.D} {o : Nat} {vs : List TC} {ks : List Nat}, setRow own fr τ r x o vs = some (x', ks) →
    ∃ ts ts', toTs (vs.map TC.den) = some ts ∧ o + vs.length ≤ r.len ∧ clsR (denK τ) fr (setRange (r.enc own x) o ts) = some (ts', ks) ∧ rtR (colsOf own r) ts' = r.enc own x'
  | .one c, τ, x, x', 0, [], ks, h => by
    simp only [setRow, Option.some.injEq, Prod.mk.injEq] at h
    obtain ⟨rfl, rfl⟩ := h
    exact ⟨[], _, rfl, by simp, by rw [setRange_nil]; exact clsR_enc _ _ _ _ _, rtR_enc _ _ _ _⟩
  | .one c, τ, x, x', 0, [v], ks, h => by
    simp only [setRow] at h
    split at h
    · rename_i x0 q hx
      simp only [Option.some.injEq, Prod.mk.injEq] at h
      obtain ⟨rfl, rfl⟩ := h
      obtain ⟨t, t', h1, h2, h3⟩ := toX_cell hx
      refine ⟨[t], [t'], by simp only [List.map_cons, List.map_nil, toTs, h1], by simp [CTs.len], h3 [] [] [] rfl, ?_⟩
      simp only [colsOf, rtR, CTs.enc]
      rw [h2]
    · cases h
  | .cons c r, τ, x, x', 0, [], ks, h => by
    simp only [setRow, Option.some.injEq, Prod.mk.injEq] at h
    obtain ⟨rfl, rfl⟩ := h
    exact ⟨[], _, rfl, by simp, by rw [setRange_nil]; exact clsR_enc _ _ _ _ _, rtR_enc _ _ _ _⟩
  | .cons c r, τ, x, x', 0, v :: vs, ks, h => by
    simp only [setRow] at h
    split at h
    · rename_i x0 q hx
      split at h
      · rename_i z ks' hz
        simp only [Option.some.injEq, Prod.mk.injEq] at h
        obtain ⟨rfl, rfl⟩ := h
        obtain ⟨t, t', h1, h2, h3⟩ := toX_cell hx
        obtain ⟨ts, ts', g1, g2, g3, g4⟩ := setRow_is hz
        refine ⟨t :: ts, t' :: ts', by simp only [List.map_cons, toTs, h1, g1], by simp only [List.length_cons, CTs.len]; omega, ?_, ?_⟩
        · simp only [CTs.enc]
          rw [setRange_zero_cons]
          exact h3 _ _ _ g3
        · simp only [colsOf, rtR, CTs.enc, h2, g4]
      · cases h
    · cases h
  | .cons c r, τ, x, x', o + 1, vs, ks, h => by
    simp only [setRow] at h
    split at h
    · rename_i z ks' hz
      simp only [Option.some.injEq, Prod.mk.injEq] at h
      obtain ⟨rfl, rfl⟩ := h
      obtain ⟨ts, ts', g1, g2, g3, g4⟩ := setRow_is hz
      refine ⟨ts, c.enc own x.1 :: ts', g1, by simp only [CTs.len]; omega, ?_, ?_⟩
      · simp only [CTs.enc]
        rw [setRange_succ]
        have : ∀ j, c.enc own x.1 ≠ .tk j := by intro j; cases c <;> cases own <;> simp [CT.enc]
        exact clsR_plain this g3
      · simp only [colsOf, rtR, CTs.enc, rtT_enc, g4]
    · cases h
  | .one c, τ, x, x', 0, _ :: _ :: _, ks, h => by simp [setRow] at h
  | .one c, τ, x, x', o + 1, vs, ks, h => by simp [setRow] at h

/-! ### store -/
def tStore (P : Program) (sh : Bool) (σ : Nat → Option TD) (τ : Nat → TTk) (fr : Nat) (t : TypeId) (x y : Operand) : TRes :=
  match tev σ x, szOf P t with
  | some (.c (.c (.ptr k off))), some sz => match τ k with
    | .live u (.var t' cs) => match (match tev σ y with | some d => d.cells | none => none) with
      | some vs => match Nat.beq vs.length sz && Nat.ble (off + sz) cs.length && vs.all TC.lies, tVar P sh fr k (u + 1) t' (setRange cs off vs) with
        | true, some T => some (.c (.c .dead), T, none)
        | _, _ => none
      | none => none
    | .live u (.arr t' ct xs) => match tev σ y with
      | some (.c v) => match arrL.arrX ct v, Nat.beq sz 1 with
        | some z, true => some (.c (.c .dead), [(k, .live (u + 1) (.arr t' ct (xs.set off z)))], some (off < xs.length))
        | _, _ => none
      | some (.arr ct' ys) => match ct'.beq ct, Nat.beq off 0 with
        | true, true => some (.c (.c .dead), [(k, .live (u + 1) (.arr t' ct' ys))], some (sz = xs.length ∧ ys.length = xs.length))
        | _, _ => none
      | _ => none
    | _ => none
  | some (.c (.c (.eptr k s i off))), some sz => match (match tev σ y with | some d => d.cells | none => none) with
    | some vs => match τ k with
      | .live u (.row own e r l) => match Nat.beq vs.length sz && Nat.beq s r.len && vs.all TC.lies, setRow own k τ r (rd r.dfl l i) off vs with
        | true, some (x', ks) => some (.c (.c .dead), (k, .live (u + 1 + ks.length) (.row own e r (l.set i x'))) :: tDeads ks, some (i < l.length))
        | _, _ => none
      | .live u (.hole e r l i0 o _) => match Nat.beq vs.length sz && Nat.beq s r.len && vs.all TC.lies && Nat.beq off o && Nat.beq vs.length 1, setRow true k τ r (rd r.dfl l i) off vs with
        | true, some (x', ks) => some (.c (.c .dead), (k, .live (u + 1 + ks.length) (.row true e r (l.set i x'))) :: tDeads ks, some (i = i0 ∧ i < l.length))
        | _, _ => none
      | _ => none
    | none => none
  | _, _ => none

theorem set_map {α β : Type} (f : α → β) (l : List α) (i : Nat) (x : α) : (l.set i x).map f = (l.map f).set i (f x) := List.map_set

theorem setRange_set {α : Type} (l : List α) (o : Nat) (a b : α) (h : o < l.length) : setRange (l.set o a) o [b] = setRange l o [b] := by
  unfold setRange
  rw [List.take_set_of_le (Nat.le_refl _)]
  congr 2
  simp only [List.length_singleton]
  rw [List.drop_set_of_lt (by omega)]

theorem bindCells {y : Operand} {vs : List TC} (h : (match tev σ y with | some d => d.cells | none => none) = some vs) : (evD (denS σ) y).bind D.cells = some (vs.map TC.den) := by
  split at h
  · rename_i d hd
    rw [tev_den hd]
    exact TD.cells_den h
  · cases h

theorem tStore_good {sh : Bool} {t : TypeId} {x y : Operand} {d : TD} {T : List (Nat × TTk)} {K : Option Prop} (h : tStore P sh σ τ fr t x y = some (d, T, K)) : Good P fz (.store t x y) σ τ fr d T K := by
  intro hK
  have e1 : ∀ (an : An) σ τ, evOp1 P an (.store t x y) σ τ fr = ofS (evStoreK P an σ τ fr t x y) := fun _ _ _ => rfl
  unfold tStore at h
  split at h
  · rename_i k off sz hx hsz
    replace hx := tev_den hx
    simp only [TD.den, TC.den] at hx
    split at h
    · rename_i u t' cs hk
      split at h
      · rename_i vs hvs
        split at h
        · rename_i T' hc hT
          simp only [Option.some.injEq, Prod.mk.injEq] at h
          obtain ⟨rfl, rfl, rfl⟩ := h
          try dsimp only [Hd] at hK
          simp only [Bool.and_eq_true] at hc
          obtain ⟨⟨h1, h2⟩, h3⟩ := hc
          have h1 := Nat.eq_of_beq_eq_true h1
          have h2 := Nat.le_of_ble_eq_true h2
          have hv := varOf_den hk
          refine ⟨{ fz := fz, pr := (varPos P t' (setRange cs off vs)).map fun p => (p.1, p.2.2.len, p.2.1) }, True, rfl, ?_, trivial⟩
          rw [e1]
          have hst : effStore P { fz := fz, pr := (varPos P t' (setRange cs off vs)).map fun p => (p.1, p.2.2.len, p.2.1) } (denS σ) (denK τ) t x y = some ([(k, .live (u + 1) (.var t' ((setRange cs off vs).map TC.den)))], True) := by
            have hcond : (vs.map TC.den).length = sz ∧ off + sz ≤ (cs.map TC.den).length ∧ (vs.map TC.den).all C.lies = true := ⟨by simpa using h1, by simpa using h2, lies_map h3⟩
            simp only [effStore, hx, bindCells hvs, hsz, effStoreVar, hv]
            rw [if_pos hcond, setRange_map]
            rfl
          simp only [evStoreK, hx, arrOf_none_of_var hv, hv, effStoreK, hst]
          rw [tVar_den hT _ rfl]
          rfl
        · cases h
      · cases h
    · rename_i u t' ct xs hk
      have ha := arrOf_den hk
      split at h
      · rename_i v hy
        split at h
        · rename_i z hz hb
          simp only [Option.some.injEq, Prod.mk.injEq] at h
          obtain ⟨rfl, rfl, rfl⟩ := h
          try dsimp only [Hd] at hK
          have hb := Nat.eq_of_beq_eq_true hb
          subst hb
          refine ⟨{ fz := fz }, 1 = 1 ∧ off < (xs.map (ct.enc true)).length, rfl, ?_, rfl, by simpa using hK⟩
          rw [e1]
          simp only [evStoreK, hx, ha, effStoreA, hsz, tev_den hy, TD.den, arrX_den hz, ofS, denT, List.map_cons, List.map_nil, TTk.den, TB.den, set_map]
          rfl
        · cases h
      · rename_i ct' ys hy
        split at h
        · rename_i hc hb
          simp only [Option.some.injEq, Prod.mk.injEq] at h
          obtain ⟨rfl, rfl, rfl⟩ := h
          try dsimp only [Hd] at hK
          have hb := Nat.eq_of_beq_eq_true hb
          subst hb
          refine ⟨{ fz := fz }, sz = (xs.map (ct.enc true)).length ∧ (ys.map (ct'.enc true)).length = (xs.map (ct.enc true)).length, rfl, ?_, by simpa using hK⟩
          rw [e1]
          simp only [evStoreK, hx, ha, effStoreA, hsz, tev_den hy, TD.den, ofS, denT, List.map_cons, List.map_nil, TTk.den, TB.den, TC.den]
        · cases h
      · cases h
    · cases h
  · rename_i k s i off sz hx hsz
    replace hx := tev_den hx
    simp only [TD.den, TC.den] at hx
    split at h
    · rename_i vs hvs
      split at h
      · rename_i u own e r l hk
        split at h
        · rename_i x' ks hc hset
          simp only [Option.some.injEq, Prod.mk.injEq] at h
          obtain ⟨rfl, rfl, rfl⟩ := h
          try dsimp only [Hd] at hK
          simp only [Bool.and_eq_true] at hc
          obtain ⟨⟨h1, h2⟩, h3⟩ := hc
          have h1 := Nat.eq_of_beq_eq_true h1
          have h2 := Nat.eq_of_beq_eq_true h2
          subst h2
          obtain ⟨ts, ts', g1, g2, g3, g4⟩ := setRow_is hset
          have hrow := rowOf_den hk
          refine ⟨{ fz := fz, cl := true, cols := colsOf own r, r := some (r.enc own (rd r.dfl l i)) }, (r.len = r.len ∧ (l.map (r.enc own))[i]? = some (r.enc own (rd r.dfl l i)) ∧ off + sz ≤ r.len) ∧ i < (l.map (r.enc own)).length, rfl, ?_, ⟨rfl, map_rd hK _, by omega⟩, by simpa using hK⟩
          rw [e1]
          have hcond : (vs.map TC.den).length = sz ∧ (vs.map TC.den).all C.lies = true := ⟨by simpa using h1, lies_map h3⟩
          have hcong : clsR (updT (denK τ) [(k, Tk.live (u + 1) (.row r.len e ((l.map (r.enc own)).set i (setRange (r.enc own (rd r.dfl l i)) off ts))))]) k (setRange (r.enc own (rd r.dfl l i)) off ts) = some (ts', ks) := by
            rw [← g3]
            exact clsR_congr _ fun j hj => upd_ne _ _ hj
          simp only [evStoreK, hx, effStoreK, effStore, bindCells hvs, hsz, effStoreRow, hrow, g1]
          rw [if_pos hcond]
          simp only [hcong, g4, ofS, denT, List.map_cons, TTk.den, TB.den, set_map, TD.den, TC.den]
          rw [← tDeads_den ks]; rfl
        · cases h
      · rename_i u e r l i0 o f hk
        split at h
        · rename_i x' ks hc hset
          simp only [Option.some.injEq, Prod.mk.injEq] at h
          obtain ⟨rfl, rfl, rfl⟩ := h
          try dsimp only [Hd] at hK
          simp only [Bool.and_eq_true] at hc
          obtain ⟨⟨⟨⟨h1, h2⟩, h3⟩, h4⟩, h5⟩ := hc
          have h1 := Nat.eq_of_beq_eq_true h1
          have h2 := Nat.eq_of_beq_eq_true h2
          have h4 := Nat.eq_of_beq_eq_true h4
          have h5 := Nat.eq_of_beq_eq_true h5
          obtain ⟨hi, hK⟩ := hK
          subst hi h2 h4
          obtain ⟨ts, ts', g1, g2, g3, g4⟩ := setRow_is hset
          have hrow : rowOf (denK τ) k = some (u, r.len, e, (l.map (r.enc true)).set i ((r.enc true (rd r.dfl l i)).set off (.tk f))) := by simp only [rowOf, denK_live hk, TB.den]
          have hlen := (toTs_get g1).1
          rw [List.length_map, h5] at hlen
          obtain ⟨t0, rfl⟩ : ∃ t0, ts = [t0] := by
            cases ts with
            | nil => simp at hlen
            | cons a q => cases q with
              | nil => exact ⟨a, rfl⟩
              | cons b q => simp at hlen
          have hoff : off < (r.enc true (rd r.dfl l i)).length := by rw [enc_length]; omega
          rw [← setRange_set _ _ (.tk f) _ hoff] at g3
          refine ⟨{ fz := fz, cl := true, cols := colsOf true r, r := some ((r.enc true (rd r.dfl l i)).set off (.tk f)) }, (r.len = r.len ∧ ((l.map (r.enc true)).set i ((r.enc true (rd r.dfl l i)).set off (.tk f)))[i]? = some ((r.enc true (rd r.dfl l i)).set off (.tk f)) ∧ off + sz ≤ r.len) ∧ i < ((l.map (r.enc true)).set i ((r.enc true (rd r.dfl l i)).set off (.tk f))).length, rfl, ?_, ⟨rfl, List.getElem?_set_self (by simpa using hK), by omega⟩, by simpa using hK⟩
          rw [e1]
          have hcond : (vs.map TC.den).length = sz ∧ (vs.map TC.den).all C.lies = true := ⟨by simpa using h1, lies_map h3⟩
          have hcong : clsR (updT (denK τ) [(k, Tk.live (u + 1) (.row r.len e (((l.map (r.enc true)).set i ((r.enc true (rd r.dfl l i)).set off (.tk f))).set i (setRange ((r.enc true (rd r.dfl l i)).set off (.tk f)) off [t0]))))]) k (setRange ((r.enc true (rd r.dfl l i)).set off (.tk f)) off [t0]) = some (ts', ks) := by
            rw [← g3]
            exact clsR_congr _ fun j hj => upd_ne _ _ hj
          simp only [evStoreK, hx, effStoreK, effStore, bindCells hvs, hsz, effStoreRow, hrow, g1]
          rw [if_pos hcond]
          dsimp only
          rw [hcong]
          simp only [g4, ofS, denT, List.map_cons, TTk.den, TB.den, set_map, TD.den, TC.den, List.set_set]
          rw [← tDeads_den ks]; rfl
        · cases h
      · cases h
    · cases h
  · cases h
end
end Go.V

/- Typed states: appends. -/
namespace Go.V
section
variable {P : Program} {σ : Nat → Option TD} {τ : Nat → TTk} {fr : Nat} {fz : Bool}

def CT.flat : CT → Bool
  | .sl _ _ => false
  | _ => true
def CTs.flat : CTs → Bool
  | .one c => c.flat
  | .cons c r => c.flat && r.flat
theorem CT.enc_flat {c : CT} (h : c.flat = true) (a b : Bool) (x : c.D) : c.enc a x = c.enc b x := by
  cases c <;> first
    | rfl
    | cases h
theorem CTs.enc_flat : ∀ {r : CTs}, r.flat = true → ∀ (a b : Bool) (x : r.D), r.enc a x = r.enc b x
  | .one c, h, a, b, x => by simp only [CTs.enc]; rw [CT.enc_flat (c := c) h a b x]
  | .cons c r, h, a, b, x => by
    simp only [CTs.flat, Bool.and_eq_true] at h
    simp only [CTs.enc]; rw [CT.enc_flat h.1 a b x.1, CTs.enc_flat h.2 a b x.2]
theorem enc_bare {own : Bool} : ∀ {r : CTs}, (r.flat = true ∨ own = false) → ∀ (x : r.D) (t : T), t ∈ r.enc own x → t.bare = true
  | .one c, h, x, t, ht => by
    simp only [CTs.enc, List.mem_singleton] at ht
    subst ht
    rcases h with h | h
    · have h : c.flat = true := h
      cases c <;> first
        | rfl
        | cases h
    · subst h; cases c <;> rfl
  | .cons c r, h, x, t, ht => by
    simp only [CTs.enc, List.mem_cons] at ht
    rcases ht with rfl | ht
    · rcases h with h | h
      · simp only [CTs.flat, Bool.and_eq_true] at h
        have h := h.1
        cases c <;> first
          | rfl
          | cases h
      · subst h; cases c <;> rfl
    · refine enc_bare (r := r) ?_ x.2 t ht
      rcases h with h | h
      · simp only [CTs.flat, Bool.and_eq_true] at h; exact .inl h.2
      · exact .inr h

structure TSrc where
  own : Bool
  r : CTs
  l : List r.D
def tsrc (τ : Nat → TTk) : TC → Option TSrc
  | .c (.sl k) => match τ k with
    | .live _ (.row own _ r l) => some ⟨own, r, l⟩
    | _ => none
  | .c (.sub k s lo hi) => match τ k with
    | .live _ (.row own _ r l) => match Nat.beq s r.len with
      | true => some ⟨own, r, (l.take hi).drop lo⟩
      | false => none
    | _ => none
  | .pk k u _ _ _ r l => match τ k with
    | .live u' _ => match Nat.beq u u' with
      | true => some ⟨true, r, l⟩
      | false => none
    | _ => none
  | .lst r l => some ⟨false, r, l⟩
  | _ => none
theorem tsrc_den {c : TC} {s : TSrc} (h : tsrc τ c = some s) (dflt : Nat) : ∃ rk, srcRows (denK τ) dflt c.den = some (s.r.len, s.l.map (s.r.enc s.own), rk) := by
  unfold tsrc at h
  split at h
  · split at h
    · rename_i hk
      injection h with h
      subst h
      exact ⟨_, by simp only [TC.den, srcRows, rowOf_den hk]; rfl⟩
    · cases h
  · split at h
    · rename_i hk
      split at h
      · rename_i hb
        injection h with h
        subst h
        have hb := Nat.eq_of_beq_eq_true hb
        subst hb
        exact ⟨_, by simp only [TC.den, srcRows, rowOf_den hk, if_true, List.map_drop, List.map_take]; rfl⟩
      · cases h
    · cases h
  · split at h
    · rename_i hk
      split at h
      · rename_i hb
        injection h with h
        subst h
        have hb := Nat.eq_of_beq_eq_true hb
        subst hb
        exact ⟨_, by simp only [TC.den, srcRows, denK_live hk, if_true]; rfl⟩
      · cases h
    · cases h
  · injection h with h; subst h; exact ⟨_, rfl⟩
  · cases h

/-- Where an append puts its elements. -/
structure TDst where
  own : Bool
  r : CTs
  l : List r.D
  k : Option Nat
def tdst (τ : Nat → TTk) (sh : Bool) (r0 : CTs) (e : Nat) : TC → Option TDst
  | .c .nils => some ⟨!sh, r0, [], none⟩
  | .c (.sl k) => match τ k with
    | .live _ (.row own e' r l) => match Nat.beq e' e with
      | true => some ⟨own, r, l, some k⟩
      | false => none
    | _ => none
  | _ => none
def ownOf (own own' : Bool) {r : CTs} (l : List r.D) : Option Bool := match r.flat with
  | true => some own
  | false => match own', own with
    | false, false => some false
    | false, true => match l with
      | [] => some false
      | _ :: _ => none
    | true, _ => none
def killO : Option Nat → List (Nat × TTk)
  | some k => [(k, .dead)]
  | none => []

def tAppend (P : Program) (sh : Bool) (σ : Nat → Option TD) (τ : Nat → TTk) (fr : Nat) (ts : Array TypeId) (xs : Array Operand) : TRes :=
  match ts.toList, xs.toList with
  | [t, t'], [x, y] => match P.underlying t, tev σ x, tev σ y with
    | some (.slice e), some (.c cx), some (.c cy) => match P.info? e, rowT P 9 e with
      | some i, some r0 => match i.zero, tdst τ sh r0 e cx with
        | some z, some dst => match Nat.beq t t' && Nat.blt 0 i.size && Nat.blt 0 i.bytes && Nat.beq z.cells.size i.size && Nat.beq dst.r.len i.size with
          | true => match tsrc τ cy with
            | some src => match castL src.r dst.r src.l, ownOf dst.own src.own dst.l with
              | some ys, some own => some (.c (.c (.sl fr)), killO dst.k ++ [(fr, .live 0 (.row own e dst.r (dst.l ++ ys)))], some ((dst.l.length + ys.length) * i.bytes ≤ 140737488355328))
              | _, _ => none
            | none => match cy with
              | .c (.sl k2) => match τ k2 with
                | .live _ (.lit s _ [cells]) => match Nat.beq s i.size, toRow dst.own fr (eatO τ dst.k) dst.r cells with
                  | true, some (x, ks) => some (.c (.c (.sl fr)), killO dst.k ++ ((fr, .live (0 + ks.length) (.row dst.own e dst.r (dst.l ++ [x]))) :: tDeads ks), some ((dst.l.length + 1) * i.bytes ≤ 140737488355328))
                  | _, _ => none
                | _ => none
              | _ => none
          | false => none
        | _, _ => none
      | _, _ => none
    | _, _, _ => none
  | _, _ => none

theorem ownOf_enc {own own' o : Bool} {r : CTs} {l : List r.D} (h : ownOf own own' l = some o) : (l.map (r.enc own) = l.map (r.enc o)) ∧ (∀ ys : List r.D, ys.map (r.enc own') = ys.map (r.enc o)) ∧ (r.flat = true ∨ own' = false) := by
  unfold ownOf at h
  split at h
  · rename_i hf
    exact ⟨List.map_congr_left fun x _ => CTs.enc_flat hf _ _ x, fun ys => List.map_congr_left fun x _ => CTs.enc_flat hf _ _ x, .inl hf⟩
  · split at h
    · injection h with h; subst h; exact ⟨rfl, fun _ => rfl, .inr rfl⟩
    · split at h
      · injection h with h; subst h; exact ⟨rfl, fun _ => rfl, .inr rfl⟩
      · cases h
    · cases h

theorem denT_append (a b : List (Nat × TTk)) : denT (a ++ b) = denT a ++ denT b := by simp [denT]

theorem tAppend_good {sh : Bool} {ts : Array TypeId} {xs : Array Operand} {d : TD} {T : List (Nat × TTk)} {K : Option Prop} (h : tAppend P sh σ τ fr ts xs = some (d, T, K)) : Good P fz (.call { callee := .builtin .append, args := xs, argTypes := ts }) σ τ fr d T K := by
  intro hK
  have e1 : ∀ (an : An) σ τ, evOp1 P an (.call { callee := .builtin .append, args := xs, argTypes := ts }) σ τ fr = effAppendK P an σ τ fr ts xs := fun _ _ _ => rfl
  unfold tAppend at h
  split at h
  · rename_i t t' x y h1 h2
    split at h
    · rename_i e cx cy hu hx hy
      replace hx := tev_den hx
      replace hy := tev_den hy
      simp only [TD.den] at hx hy
      split at h
      · rename_i i r0 hi hr0
        split at h
        · rename_i z dst hz hdst
          split at h
          · rename_i hc
            simp only [Bool.and_eq_true] at hc
            obtain ⟨⟨⟨⟨c1, c2⟩, c3⟩, c4⟩, c5⟩ := hc
            have c1 := Nat.eq_of_beq_eq_true c1
            have c2 : 0 < i.size := Nat.le_of_ble_eq_true c2
            have c3 : 0 < i.bytes := Nat.le_of_ble_eq_true c3
            have c4 := Nat.eq_of_beq_eq_true c4
            have c5 := Nat.eq_of_beq_eq_true c5
            have small : ∀ n, n * i.bytes ≤ 140737488355328 → n ≤ maxLen := fun n hn => by
              have : n * 1 ≤ n * i.bytes := Nat.mul_le_mul_left _ c3
              simp only [maxLen]; omega
            split at h
            · rename_i src hsrc
              split at h
              · rename_i ys own hys hown
                simp only [Option.some.injEq, Prod.mk.injEq] at h
                obtain ⟨rfl, rfl, rfl⟩ := h
                try dsimp only [Hd] at hK
                obtain ⟨rk, hsr⟩ := tsrc_den hsrc i.size
                obtain ⟨hrr, hyy⟩ := castL_some hys
                obtain ⟨so, sr, sl⟩ := src
                simp only at hrr hyy hsr hown
                subst hrr
                have hyy := eq_of_heq hyy
                subst hyy
                obtain ⟨o1, o2, o3⟩ := ownOf_enc hown
                have hflat : srcFlat cy.den (sl.map (dst.r.enc so)) := by
                  have hb : bareRows (sl.map (dst.r.enc so)) := fun r hr t ht => by
                    obtain ⟨q, _, rfl⟩ := List.mem_map.1 hr
                    exact enc_bare o3 q t ht
                  have hf : flatRows (sl.map (dst.r.enc so)) := fun r hr t ht => T.flat_of_bare (hb r hr t ht)
                  unfold srcFlat
                  split
                  · exact hb
                  · exact hf
                have hfin : (dst.l.map (dst.r.enc dst.own)) ++ sl.map (dst.r.enc so) = (dst.l ++ sl).map (dst.r.enc own) := by
                  rw [List.map_append, o1, o2]
                unfold tdst at hdst
                split at hdst
                · injection hdst with hdst
                  subst hdst
                  simp only [List.map_nil, List.nil_append, List.length_nil, Nat.zero_add] at hfin hK c5 ⊢
                  refine ⟨{ fz := fz }, t = t' ∧ r0.len = i.size ∧ z.cells.size = r0.len ∧ 0 < r0.len ∧ srcFlat cy.den (sl.map (r0.enc so)) ∧ (sl.map (r0.enc so)).length ≤ maxLen ∧ (sl.map (r0.enc so)).length * i.bytes ≤ 140737488355328, rfl, ?_, c1, c5, by omega, by omega, hflat, by rw [List.length_map]; exact small _ hK, by rw [List.length_map]; exact hK⟩
                  rw [e1]
                  simp only [TC.den] at hx
                  simp only [effAppendK, effAppend, h1, h2, hu, hx, hy, hi, hz, hsr, killO, List.nil_append, denT, List.map_cons, List.map_nil, TTk.den, TB.den, TD.den, c5, hfin]
                  rfl
                · rename_i k
                  split at hdst
                  · rename_i u o' e' r l hk
                    split at hdst
                    · rename_i he
                      injection hdst with hdst
                      subst hdst
                      have he := Nat.eq_of_beq_eq_true he
                      subst he
                      have hrow := rowOf_den hk
                      simp only at hfin hK c5 hsr hflat ⊢
                      refine ⟨{ fz := fz }, t = t' ∧ r.len = i.size ∧ r.len = r.len ∧ e' = e' ∧ z.cells.size = r.len ∧ 0 < r.len ∧ srcFlat cy.den (sl.map (r.enc so)) ∧ (l.map (r.enc o')).length + (sl.map (r.enc so)).length ≤ maxLen ∧ ((l.map (r.enc o')).length + (sl.map (r.enc so)).length) * i.bytes ≤ 140737488355328, rfl, ?_, c1, c5, rfl, rfl, by omega, by omega, hflat, by rw [List.length_map, List.length_map]; exact small _ hK, by rw [List.length_map, List.length_map]; exact hK⟩
                      rw [e1]
                      simp only [TC.den] at hx
                      simp only [effAppendK, effAppend, h1, h2, hu, hx, hy, hi, hz, hsr, hrow, hfin, killO]
                      rfl
                    · cases hdst
                  · cases hdst
                · cases hdst
              · cases h
            · split at h
              · rename_i k2 _
                split at h
                · rename_i u2 s e2 cells hk2
                  split at h
                  · rename_i x0 ks hs hrow0
                    simp only [Option.some.injEq, Prod.mk.injEq] at h
                    obtain ⟨rfl, rfl, rfl⟩ := h
                    try dsimp only [Hd] at hK
                    have hs := Nat.eq_of_beq_eq_true hs
                    obtain ⟨tsr, tsr', a1, a2, a3⟩ := toRow_is hrow0
                    have hlit : rowOf (denK τ) k2 = some (u2, s, e2, [tsr]) := by
                      simp only [rowOf, denK_live hk2, TB.den]
                      rw [litT_tss (rows := [cells]) (xs := [tsr]) (by simp only [tss, a1])]
                    have hsr : srcRows (denK τ) i.size (TC.c (C.sl k2)).den = some (s, [tsr], [k2]) := by simp only [TC.den, srcRows, hlit]
                    have hflat : srcFlat (TC.c (C.sl k2)).den [tsr] := by
                      intro r hr t ht
                      obtain rfl := List.mem_singleton.1 hr
                      have : ∀ {cs : List C} {xs : List V.T}, toTs cs = some xs → ∀ x ∈ xs, x.flat = true := by
                        intro cs
                        induction cs with
                        | nil => intro xs h; simp [toTs] at h; subst h; simp
                        | cons c cs ih =>
                          intro xs h
                          unfold toTs at h
                          split at h
                          · rename_i q qs b1 b2
                            injection h with h
                            subst h
                            intro x hx
                            rcases List.mem_cons.1 hx with rfl | hx
                            · cases c <;> simp only [toT, Option.some.injEq, reduceCtorEq] at b1 <;> subst b1 <;> rfl
                            · exact ih b2 x hx
                          · cases h
                      exact this a1 t ht
                    subst hs
                    unfold tdst at hdst
                    split at hdst
                    · injection hdst with hdst
                      subst hdst
                      simp only [List.nil_append, List.length_nil, Nat.zero_add, eatO] at hK c5 a1 a2 a3 ⊢
                      refine ⟨{ fz := fz, cl := true, cols := colsOf (!sh) r0 }, t = t' ∧ i.size = i.size ∧ z.cells.size = i.size ∧ 0 < i.size ∧ srcFlat (TC.c (C.sl k2)).den [tsr] ∧ [tsr].length ≤ maxLen ∧ [tsr].length * i.bytes ≤ 140737488355328, rfl, ?_, c1, rfl, c4, c2, hflat, small _ hK, hK⟩
                      rw [e1]
                      simp only [TC.den] at hx hy hsr ⊢
                      have hcong : clsR (updT (denK τ) [(fr, Tk.live 0 (.row i.size e [tsr]))]) fr tsr = some (tsr', ks) := by
                        rw [← a2]
                        exact clsR_congr _ fun j hj => upd_ne _ _ hj
                      simp only [effAppendK, effAppend, h1, h2, hu, hx, hy, hi, hz, hsr, appRow, hcong, killO, List.nil_append, a3, List.dropLast_singleton, Nat.zero_add]
                      simp only [denT, List.map_cons, TTk.den, TB.den, TD.den, TC.den, c5, List.map_nil]
                      rw [← tDeads_den ks]; rfl
                    · rename_i k
                      split at hdst
                      · rename_i u o' e' r l hk
                        split at hdst
                        · rename_i he
                          injection hdst with hdst
                          subst hdst
                          have he := Nat.eq_of_beq_eq_true he
                          subst he
                          have hrow := rowOf_den hk
                          simp only [eatO] at hK c5 a1 a2 a3 ⊢
                          refine ⟨{ fz := fz, cl := true, cols := colsOf o' r }, t = t' ∧ i.size = i.size ∧ r.len = i.size ∧ e' = e' ∧ z.cells.size = i.size ∧ 0 < i.size ∧ srcFlat (TC.c (C.sl k2)).den [tsr] ∧ (l.map (r.enc o')).length + [tsr].length ≤ maxLen ∧ ((l.map (r.enc o')).length + [tsr].length) * i.bytes ≤ 140737488355328, rfl, ?_, c1, rfl, c5, rfl, c4, c2, hflat, by rw [List.length_map]; exact small _ hK, by rw [List.length_map]; exact hK⟩
                          rw [e1]
                          simp only [TC.den] at hx hy hsr ⊢
                          have hcong : clsR (updT (denK τ) [(k, .dead), (fr, Tk.live 0 (.row i.size e' (l.map (r.enc o') ++ [tsr])))]) fr tsr = some (tsr', ks) := by
                            rw [← a2, denK_upd]
                            exact clsR_congr _ fun j hj => by simp only [updT, TTk.den]; rw [upd_ne _ _ hj]
                          simp only [effAppendK, effAppend, h1, h2, hu, hx, hy, hi, hz, hsr, appRow, hrow, hcong, killO, a3, List.dropLast_cons₂, List.dropLast_singleton, Nat.zero_add]
                          simp only [denT, List.map_append, List.map_cons, TTk.den, TB.den, TD.den, TC.den, c5, List.map_nil]
                          rw [← tDeads_den ks]; rfl
                        · cases hdst
                      · cases hdst
                    · cases hdst
                  · cases h
                · cases h
              · cases h
          · cases h
        · cases h
      · cases h
    · cases h
  · cases h
end
end Go.V

