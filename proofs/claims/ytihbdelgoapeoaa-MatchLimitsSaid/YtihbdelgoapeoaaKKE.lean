/- Abstract values and what the machine makes of them: part E. -/
import Derived.Test.YtihbdelgoapeoaaKKD
/- Regions that draw their order, by rules: the trace. -/
namespace Go.Proofs.Ytihbdelgoapeoaa.K
open Go Go.RowKit
set_option linter.unusedSimpArgs false
set_option linter.unusedVariables false

/-- Operations in the text's order, whose reads hold at every memory of B, and whose memories all are of B. -/
inductive TrD (P : Program) (ops : Array Oper) (B : Mem → Prop) : List Oper → AS → AS → Prop
  | nil (x : AS) : TrD P ops B [] x x
  | free {o : Oper} {rest : List Oper} {x x2 : AS} {v : AV} (hw : wantedA ops x.tm o = some true) (he : effK P o.op = false) (h : ∀ τ, B τ → plainOp P x.tm τ o.op o.type = some (v, τ)) (hr : TrD P ops B rest (x.put o.dst v) x2) : TrD P ops B (o :: rest) x x2
  | eff {o : Oper} {rest : List Oper} {x x2 : AS} {v : AV} {σ' : Mem} (hw : wantedA ops x.tm o = some true) (he : effK P o.op = true) (h : OpA P x o v { x with σ := σ' }) (hB : B σ') (hr : TrD P ops B rest (({ x with σ := σ' } : AS).put o.dst v) x2) : TrD P ops B (o :: rest) x x2
  | skip {o : Oper} {rest : List Oper} {x x2 : AS} (hw : wantedA ops x.tm o = some false) (hr : TrD P ops B rest (x.put o.dst .undef) x2) : TrD P ops B (o :: rest) x x2

theorem put_σ (x : AS) (d : Option Tmp) (v : AV) : (x.put d v).σ = x.σ := rfl

theorem stateAt_cons (x : AS) (v : AV) (y : AS) (tr : List (AV × AS)) (i : Nat) (hi : i ≤ tr.length) : stateAt x ((v, y) :: tr) (i + 1) = stateAt y tr i := by
  cases i with
  | zero => rfl
  | succ j =>
    have hj : j < tr.length := by omega
    simp only [stateAt, List.getElem?_cons_succ, List.getElem?_eq_getElem hj, Option.map_some, Option.getD_some]

/-- What one step of a trace is. -/
def StepD (P : Program) (ops : Array Oper) (B : Mem → Prop) (o : Oper) (x : AS) (v : AV) (y : AS) : Prop :=
  (wantedA ops x.tm o = some true ∧ effK P o.op = false ∧ (∀ τ, B τ → plainOp P x.tm τ o.op o.type = some (v, τ)) ∧ y = x.put o.dst v) ∨
  (wantedA ops x.tm o = some true ∧ effK P o.op = true ∧ ∃ σ', OpA P x o v { x with σ := σ' } ∧ y = ({ x with σ := σ' } : AS).put o.dst v) ∨
  (wantedA ops x.tm o = some false ∧ v = .undef ∧ y = x.put o.dst .undef)

theorem TrD.trace {P : Program} {ops : Array Oper} {B : Mem → Prop} {l : List Oper} {x x' : AS} (h : TrD P ops B l x x') : B x.σ →
    ∃ tr : List (AV × AS), tr.length = l.length ∧ stateAt x tr l.length = x' ∧ ∀ i o, l[i]? = some o → ∃ v y, tr[i]? = some (v, y) ∧ B y.σ ∧ StepD P ops B o (stateAt x tr i) v y := by
  have wrap : ∀ {o : Oper} {rest : List Oper} {x x2 y : AS} {v : AV}, StepD P ops B o x v y → B y.σ →
      (B y.σ → ∃ tr : List (AV × AS), tr.length = rest.length ∧ stateAt y tr rest.length = x2 ∧ ∀ i o, rest[i]? = some o → ∃ v z, tr[i]? = some (v, z) ∧ B z.σ ∧ StepD P ops B o (stateAt y tr i) v z) →
      ∃ tr : List (AV × AS), tr.length = (o :: rest).length ∧ stateAt x tr (o :: rest).length = x2 ∧ ∀ i o', (o :: rest)[i]? = some o' → ∃ v z, tr[i]? = some (v, z) ∧ B z.σ ∧ StepD P ops B o' (stateAt x tr i) v z := by
    intro o rest x x2 y v hs hB ih
    obtain ⟨tr, h1, h2, h3⟩ := ih hB
    refine ⟨(v, y) :: tr, by simp [h1], ?_, fun i o' ho => ?_⟩
    · simp only [List.length_cons]
      rw [stateAt_cons x v y tr _ (by omega)]
      exact h2
    · cases i with
      | zero =>
        simp only [List.getElem?_cons_zero, Option.some.injEq] at ho
        subst ho
        exact ⟨v, y, by simp, hB, hs⟩
      | succ j =>
        simp only [List.getElem?_cons_succ] at ho
        obtain ⟨v', z, g1, g2, g3⟩ := h3 j o' ho
        have hj : j < rest.length := (List.getElem?_eq_some_iff.1 ho).1
        refine ⟨v', z, by simpa using g1, g2, ?_⟩
        rw [stateAt_cons x v y tr j (by omega)]
        exact g3
  induction h with
  | nil x => intro _; exact ⟨[], rfl, rfl, fun i o ho => by simp at ho⟩
  | free hw he h hr ih => intro hB; exact wrap (.inl ⟨hw, he, h, rfl⟩) hB ih
  | eff hw he h hB' hr ih => intro hB; exact wrap (.inr (.inl ⟨hw, he, _, h, rfl⟩)) hB' ih
  | skip hw hr ih => intro hB; exact wrap (.inr (.inr ⟨hw, rfl, rfl⟩)) hB ih

theorem T_drawD {P : Program} {id : Nat} {ops : Array Oper} {B : Mem → Prop} {x x' : AS} (hm : P.follows .mixedOrders = true) (hok : okRegion ops (effAt P ops) = true) (hB : B x.σ) (h : TrD P ops B ops.toList x x') : T P (.region id ops true) x .normal x' := by
  obtain ⟨tr, h1, h2, h3⟩ := h.trace hB
  have hat : ∀ i v y, tr[i]? = some (v, y) → ((tr[i]?).map (·.1)).getD AV.undef = v ∧ stateAt x tr (i + 1) = y := by
    intro i v y h
    simp [stateAt, h]
  have hlen : ops.toList.length = ops.size := Array.length_toList
  have hBk : ∀ k, k ≤ ops.size → B (stateAt x tr k).σ := by
    intro k hk
    cases k with
    | zero => exact hB
    | succ j =>
      have hj : j < ops.size := by omega
      obtain ⟨v, y, g1, g2, _⟩ := h3 j ops[j] (by rw [Array.getElem?_toList]; exact Array.getElem?_eq_getElem hj)
      rw [(hat j v y g1).2]
      exact g2
  have hR : Run P ops (effAt P ops) (stateAt x tr) (fun i => ((tr[i]?).map (·.1)).getD .undef) := by
    refine ⟨fun i o ho => ?_, fun i hi hE => ?_, fun i o ho hE hw k hk hf => ?_⟩
    · obtain ⟨v, y, g1, g2, g3⟩ := h3 i o (by rw [Array.getElem?_toList]; exact ho)
      obtain ⟨e1, e2⟩ := hat i v y g1
      simp only [e1, e2]
      have hi := (Array.getElem?_eq_some_iff.1 ho).1
      rcases g3 with ⟨a1, a2, a3, a4⟩ | ⟨a1, a2, σ', a3, a4⟩ | ⟨a1, a2, a3⟩
      · exact .inl ⟨a1, (stateAt x tr i).σ, .plain (a3 _ (hBk i (by omega))), a4⟩
      · exact .inl ⟨a1, σ', a3, a4⟩
      · exact .inr ⟨a1, a2, a3⟩
    · have ho : ops[i]? = some ops[i] := Array.getElem?_eq_getElem hi
      obtain ⟨v, y, g1, g2, g3⟩ := h3 i _ (by rw [Array.getElem?_toList]; exact ho)
      obtain ⟨e1, e2⟩ := hat i v y g1
      have hE' : effK P ops[i].op = false := by simpa [effAt, ho] using hE
      rw [e2]
      rcases g3 with ⟨a1, a2, a3, a4⟩ | ⟨a1, a2, σ', a3, a4⟩ | ⟨a1, a2, a3⟩
      · rw [a4]; rfl
      · rw [hE'] at a2; cases a2
      · rw [a3]; rfl
    · obtain ⟨v, y, g1, g2, g3⟩ := h3 i o (by rw [Array.getElem?_toList]; exact ho)
      obtain ⟨e1, e2⟩ := hat i v y g1
      have hE' : effK P o.op = false := by simpa [effAt, ho] using hE
      simp only [e1]
      rcases g3 with ⟨a1, a2, a3, a4⟩ | ⟨a1, a2, σ', a3, a4⟩ | ⟨a1, a2, a3⟩
      · exact a3 _ (hBk k hk)
      · rw [hE'] at a2; cases a2
      · rw [a1] at hw; cases hw
  have := T_draw (id := id) hm hok hR
  rw [hlen] at h2
  rw [h2] at this
  exact this

def TD (P : Program) (ops : Array Oper) (B : Mem → Prop) (l : List Oper) (x : AS) (R : AS → Prop) : Prop := ∃ x', TrD P ops B l x x' ∧ R x'

/-- What holds cells at the start, holds the same. -/
def keepB (σ0 τ : Mem) : Prop := ∀ (i : Nat) (c : List AV), σ0[i]? = some (AO.cells c) → τ[i]? = some (AO.cells c)
theorem keep_refl (σ : Mem) : keepB σ σ := fun _ _ h => h
theorem keep_app {σ0 τ : Mem} (h : keepB σ0 τ) (l : Mem) : keepB σ0 (τ ++ l) := fun i c hc => by
  have := h i c hc
  rw [List.getElem?_append_left (List.getElem?_eq_some_iff.1 this).1]
  exact this
theorem keep_tok {σ0 τ : Mem} {k : Nat} {b b' : Bool} (h : keepB σ0 τ) (hk : τ[k]? = some (AO.tok b)) : keepB σ0 (τ.set k (AO.tok b')) := fun i c hc => by
  have := h i c hc
  rw [List.getElem?_set]
  by_cases hki : k = i
  · subst hki; rw [hk] at this; cases this
  · rw [if_neg hki]; exact this

theorem TE_draw {P : Program} {id : Nat} {l : List Oper} {x : AS} {Q : AE → AS → Prop} (hm : P.follows .mixedOrders = true) (hok : okRegion l.toArray (effAt P l.toArray) = true) (h : TD P l.toArray (keepB x.σ) l x (Q .normal)) : TE P (.region id l.toArray true) x Q := by
  obtain ⟨x', h1, h2⟩ := h
  exact ⟨_, x', T_drawD hm hok (keep_refl _) (by simpa using h1), h2⟩

theorem TD_nil {P : Program} {ops : Array Oper} {B : Mem → Prop} {x : AS} {R : AS → Prop} (h : R x) : TD P ops B [] x R := ⟨x, .nil x, h⟩

section
variable {P : Program} {ops : Array Oper} {B : Mem → Prop} {rest : List Oper} {R : AS → Prop} {n : Nat} {S : List (Nat × AV)} {df : List AD} {σ σ' : Mem} {d : Tmp} {op : Op} {ty : TypeId} {ps : String} {af : Array Edge} {v : AV}

theorem TD_plain (h : plainOp P (fr n S) σ op ty = some (v, σ')) (he : effK P op = false) (hl : isLoad op = false) (k : TD P ops B rest ⟨fr n ((d, v) :: S), df, σ⟩ R) : TD P ops B ({ dst := some d, op := op, type := ty, pos := ps, after := af, guard := none } :: rest) ⟨fr n S, df, σ⟩ R := by
  obtain ⟨x', h1, h2⟩ := k
  refine ⟨x', .free (v := v) rfl he (fun τ _ => (free_op he hl _ _ τ _ h).2) ?_, h2⟩
  simp only [AS.put, fr_put]
  exact h1
/-- A load of what all memories hold alike. -/
theorem TD_load (h : ∀ τ, B τ → plainOp P (fr n S) τ op ty = some (v, τ)) (he : effK P op = false) (k : TD P ops B rest ⟨fr n ((d, v) :: S), df, σ⟩ R) : TD P ops B ({ dst := some d, op := op, type := ty, pos := ps, after := af, guard := none } :: rest) ⟨fr n S, df, σ⟩ R := by
  obtain ⟨x', h1, h2⟩ := k
  refine ⟨x', .free (v := v) rfl he h ?_, h2⟩
  simp only [AS.put, fr_put]
  exact h1
theorem TD_effP (h : plainOp P (fr n S) σ op ty = some (v, σ')) (he : effK P op = true) (hB : B σ') (k : TD P ops B rest ⟨fr n ((d, v) :: S), df, σ'⟩ R) : TD P ops B ({ dst := some d, op := op, type := ty, pos := ps, after := af, guard := none } :: rest) ⟨fr n S, df, σ⟩ R := by
  obtain ⟨x', h1, h2⟩ := k
  refine ⟨x', .eff (v := v) (σ' := σ') rfl he (.plain h) hB ?_, h2⟩
  simp only [AS.put, fr_put]
  exact h1
theorem TD_effP0 (h : plainOp P (fr n S) σ op ty = some (v, σ')) (he : effK P op = true) (hB : B σ') (k : TD P ops B rest ⟨fr n S, df, σ'⟩ R) : TD P ops B ({ dst := none, op := op, type := ty, pos := ps, after := af, guard := none } :: rest) ⟨fr n S, df, σ⟩ R := by
  obtain ⟨x', h1, h2⟩ := k
  exact ⟨x', .eff (v := v) (σ' := σ') rfl he (.plain h) hB h1, h2⟩
theorem TD_call {c : Call} {g : FuncId} {args : List AV} (hc : callee (fr n S) c = some (g, args)) (he : enters P g = true) (h : ACall P g args σ v σ') (hB : B σ') (k : TD P ops B rest ⟨fr n ((d, v) :: S), df, σ'⟩ R) :
    TD P ops B ({ dst := some d, op := .call c, type := ty, pos := ps, after := af, guard := none } :: rest) ⟨fr n S, df, σ⟩ R := by
  obtain ⟨x', h1, h2⟩ := k
  have hk : effK P (.call c) = true := by
    unfold callee at hc
    split at hc
    · rename_i f hf; simp [effK, hf]
    · cases hc
  refine ⟨x', .eff (v := v) (σ' := σ') rfl hk (.call rfl hc he h) hB ?_, h2⟩
  simp only [AS.put, fr_put]
  exact h1
end
end Go.Proofs.Ytihbdelgoapeoaa.K
/- Regions that draw their order, by rules: one rule for each operation. Printed by gen_td.py, but for the head and the end. -/
namespace Go.Proofs.Ytihbdelgoapeoaa.K
open Go Go.RowKit
set_option linter.unusedSimpArgs false
set_option linter.unusedVariables false

section
variable {P : Program} {ops : Array Oper} {B : Mem → Prop} {rest : List Oper} {R : AS → Prop} {n : Nat} {S : List (Nat × AV)} {df : List AD} {σ σ' : Mem} {d : Tmp} {op : Op} {bop : BinOp} {ty t yt e ft : TypeId} {ps : String} {af : Array Edge} {u v : AV} {x y : Operand} {i f off z id o len : Nat} {cs : List AV} {tk : Tok}

theorem TD_plain2 (h : plainOp P (fr n S) σ op ty = some (v, σ)) (k : TD P ops B rest ⟨fr n ((d, v) :: S), df, σ⟩ R) (he : effK P op = false := by first | rfl | simp [effK, *]) (hl : isLoad op = false := by rfl) : TD P ops B ({ dst := some d, op := op, type := ty, pos := ps, after := af, guard := none } :: rest) ⟨fr n S, df, σ⟩ R := TD_plain h he hl k

theorem OpA.as {P : Program} {x y : AS} {o o' : Oper} {v : AV} (h : OpA P x o v y) (h1 : o'.op = o.op) (h2 : o'.type = o.type) : OpA P x o' v y := by
  cases h with
  | plain h => exact .plain (by rw [h1, h2]; exact h)
  | call ho hc he h => exact .call (by rw [h1]; exact ho) hc he h
  | defer ho hf hv ha => exact .defer (by rw [h1]; exact ho) hf hv ha

/-- An operation under a guard: whether it is carried out. -/
theorem TD_guard {j : Nat} {want b : Bool} {dj : Tmp} {od : Option Tmp} (hj : (ops[j]?).bind (·.dst) = some dj) (hb : evS n S (.tmp dj) = some (.bool b))
    (ht : b = want → TD P ops B ({ dst := od, op := op, type := ty, pos := ps, after := af, guard := none } :: rest) ⟨fr n S, df, σ⟩ R)
    (hf : b = !want → TD P ops B rest ⟨putD (fr n S) od .undef, df, σ⟩ R) : TD P ops B ({ dst := od, op := op, type := ty, pos := ps, after := af, guard := some (j, want) } :: rest) ⟨fr n S, df, σ⟩ R := by
  have hg : (fr n S)[dj]? = some (some (.bool b)) := by
    rw [fr_get]
    simp only [evS] at hb
    split at hb
    · rename_i h; rw [if_pos h, hb]
    · cases hb
  have hw : wantedA ops (fr n S) { dst := od, op := op, type := ty, pos := ps, after := af, guard := some (j, want) } = some (b == want) := by
    simp only [wantedA, hj, Option.bind_some, hg]
  by_cases hbw : b = want
  · obtain ⟨x', h1, h2⟩ := ht hbw
    refine ⟨x', ?_, h2⟩
    cases h1 with
    | free _ he h hr => exact .free (by rw [hw, hbw]; simp) he h hr
    | eff _ he h hB hr =>
      exact .eff (by rw [hw, hbw]; simp) he (h.as rfl rfl) hB hr
    | skip hw' hr => simp [wantedA] at hw'
  · have hbn : b = !want := by cases b <;> cases want <;> simp_all
    obtain ⟨x', h1, h2⟩ := hf hbn
    exact ⟨x', .skip (by rw [hw, hbn]; simp) h1, h2⟩
theorem TD_guard_un {j : Nat} {want : Bool} {dj d : Tmp} (hj : (ops[j]?).bind (·.dst) = some dj) (hb : evS n S (.tmp dj) = some .undef)
    (hf : TD P ops B rest ⟨fr n ((d, .undef) :: S), df, σ⟩ R) : TD P ops B ({ dst := some d, op := op, type := ty, pos := ps, after := af, guard := some (j, want) } :: rest) ⟨fr n S, df, σ⟩ R := by
  obtain ⟨x', h1, h2⟩ := hf
  have hg : (fr n S)[dj]? = some (some .undef) := by
    rw [fr_get]
    simp only [evS] at hb
    split at hb
    · rename_i h; rw [if_pos h, hb]
    · cases hb
  refine ⟨x', .skip ?_ ?_, h2⟩
  · simp only [wantedA, hj, Option.bind_some, hg]
    rfl
  · simp only [AS.put, fr_put]
    exact h1

theorem TD_guard_yes {j : Nat} {want b : Bool} {dj : Tmp} {od : Option Tmp} (hj : (ops[j]?).bind (·.dst) = some dj) (hb : evS n S (.tmp dj) = some (.bool b)) (hw : b = want)
    (ht : TD P ops B ({ dst := od, op := op, type := ty, pos := ps, after := af, guard := none } :: rest) ⟨fr n S, df, σ⟩ R) : TD P ops B ({ dst := od, op := op, type := ty, pos := ps, after := af, guard := some (j, want) } :: rest) ⟨fr n S, df, σ⟩ R :=
  TD_guard hj hb (fun _ => ht) (fun h => by rw [hw] at h; cases want <;> cases h)
theorem TD_guard_no {j : Nat} {want b : Bool} {dj d : Tmp} (hj : (ops[j]?).bind (·.dst) = some dj) (hb : evS n S (.tmp dj) = some (.bool b)) (hw : b = !want)
    (hf : TD P ops B rest ⟨fr n ((d, .undef) :: S), df, σ⟩ R) : TD P ops B ({ dst := some d, op := op, type := ty, pos := ps, after := af, guard := some (j, want) } :: rest) ⟨fr n S, df, σ⟩ R :=
  TD_guard hj hb (fun h => by rw [hw] at h; cases want <;> cases h) (fun _ => by rw [fr_put]; exact hf)
theorem TD_guard_t {j : Nat} {b : Bool} {dj d : Tmp} (hj : (ops[j]?).bind (·.dst) = some dj) (hb : evS n S (.tmp dj) = some (.bool b))
    (ht : b = true → TD P ops B ({ dst := some d, op := op, type := ty, pos := ps, after := af, guard := none } :: rest) ⟨fr n S, df, σ⟩ R)
    (hf : b = false → TD P ops B rest ⟨fr n ((d, .undef) :: S), df, σ⟩ R) : TD P ops B ({ dst := some d, op := op, type := ty, pos := ps, after := af, guard := some (j, true) } :: rest) ⟨fr n S, df, σ⟩ R :=
  TD_guard hj hb ht fun h => by rw [fr_put]; exact hf h
theorem TD_guard_f {j : Nat} {b : Bool} {dj d : Tmp} (hj : (ops[j]?).bind (·.dst) = some dj) (hb : evS n S (.tmp dj) = some (.bool b))
    (ht : b = true → TD P ops B rest ⟨fr n ((d, .undef) :: S), df, σ⟩ R)
    (hf : b = false → TD P ops B ({ dst := some d, op := op, type := ty, pos := ps, after := af, guard := none } :: rest) ⟨fr n S, df, σ⟩ R) : TD P ops B ({ dst := some d, op := op, type := ty, pos := ps, after := af, guard := some (j, false) } :: rest) ⟨fr n S, df, σ⟩ R :=
  TD_guard hj hb hf fun h => by rw [fr_put]; exact ht h
theorem TD_guard_yes0 {j : Nat} {want b : Bool} {dj : Tmp} (hj : (ops[j]?).bind (·.dst) = some dj) (hb : evS n S (.tmp dj) = some (.bool b)) (hw : b = want)
    (ht : TD P ops B ({ dst := none, op := op, type := ty, pos := ps, after := af, guard := none } :: rest) ⟨fr n S, df, σ⟩ R) : TD P ops B ({ dst := none, op := op, type := ty, pos := ps, after := af, guard := some (j, want) } :: rest) ⟨fr n S, df, σ⟩ R :=
  TD_guard hj hb (fun _ => ht) (fun h => by rw [hw] at h; cases want <;> cases h)
theorem TD_move (h : evS n S x = some v) (k : TD P ops B rest ⟨fr n ((d, v) :: S), df, σ⟩ R) : TD P ops B ({ dst := some d, op := .move x, type := ty, pos := ps, after := af, guard := none } :: rest) ⟨fr n S, df, σ⟩ R := TD_plain2 (p_move h) k
theorem TD_assign (h : evS n S x = some v) (k : TD P ops B rest ⟨fr n ((d, v) :: S), df, σ⟩ R) : TD P ops B ({ dst := some d, op := .assign x, type := ty, pos := ps, after := af, guard := none } :: rest) ⟨fr n S, df, σ⟩ R := TD_plain2 (p_assign h) k
theorem TD_pick_t {c : Operand} {b : Bool} (hc : evS n S c = some (.bool b)) (hb : b = true) (h : evS n S x = some v) (kk : TD P ops B rest ⟨fr n ((d, v) :: S), df, σ⟩ R) : TD P ops B ({ dst := some d, op := .pick c x y, type := ty, pos := ps, after := af, guard := none } :: rest) ⟨fr n S, df, σ⟩ R := TD_plain2 (p_pick_t hc hb h) kk
theorem TD_pick_f {c : Operand} {b : Bool} (hc : evS n S c = some (.bool b)) (hb : b = false) (h : evS n S y = some v) (kk : TD P ops B rest ⟨fr n ((d, v) :: S), df, σ⟩ R) : TD P ops B ({ dst := some d, op := .pick c x y, type := ty, pos := ps, after := af, guard := none } :: rest) ⟨fr n S, df, σ⟩ R := TD_plain2 (p_pick_f hc hb h) kk
theorem TD_cmp {k : IntKind} {a b : Int} {c : Bool} (hx : evS n S x = some (.int k a)) (hy : evS n S y = some (.int k b)) (hc : cmpR bop a b = some c) (kk : TD P ops B rest ⟨fr n ((d, .bool c) :: S), df, σ⟩ R) : TD P ops B ({ dst := some d, op := .binOp bop t x y yt, type := ty, pos := ps, after := af, guard := none } :: rest) ⟨fr n S, df, σ⟩ R := TD_plain2 (p_cmp hx hy hc) kk
theorem TD_ari {k : IntKind} {a b c : Int} (hx : evS n S x = some (.int k a)) (hy : evS n S y = some (.int k b)) (hc : ariR bop a b = some c) (kk : TD P ops B rest ⟨fr n ((d, .int k (k.wrap c)) :: S), df, σ⟩ R) : TD P ops B ({ dst := some d, op := .binOp bop t x y yt, type := ty, pos := ps, after := af, guard := none } :: rest) ⟨fr n S, df, σ⟩ R := TD_plain2 (p_ari hx hy hc) kk
theorem TD_bit {k : IntKind} {a b c : Int} (hx : evS n S x = some (.int k a)) (hy : evS n S y = some (.int k b)) (hc : bitR k bop a b = some c) (kk : TD P ops B rest ⟨fr n ((d, .int k c) :: S), df, σ⟩ R) : TD P ops B ({ dst := some d, op := .binOp bop t x y yt, type := ty, pos := ps, after := af, guard := none } :: rest) ⟨fr n S, df, σ⟩ R := by
  refine TD_plain2 (p_bin (r := .int k c) hx rfl hy rfl (fun _ h => by cases h) (by simp) ?_ rfl) kk
  cases bop <;> simp only [bitR, reduceCtorEq, Option.some.injEq] at hc <;> subst hc <;> simp [binOp, Op.intBits, pureRun]
  all_goals rfl
theorem TD_div {k : IntKind} {a b c : Int} (hx : evS n S x = some (.int k a)) (hy : evS n S y = some (.int k b)) (hb : b ≠ 0) (hc : divR k bop a b = some c) (kk : TD P ops B rest ⟨fr n ((d, .int k c) :: S), df, σ⟩ R) : TD P ops B ({ dst := some d, op := .binOp bop t x y yt, type := ty, pos := ps, after := af, guard := none } :: rest) ⟨fr n S, df, σ⟩ R := by
  refine TD_plain2 (p_bin (r := .int k c) hx rfl hy rfl (fun _ h => by cases h) (by simp) ?_ rfl) kk
  cases bop <;> simp only [divR, reduceCtorEq, Option.some.injEq] at hc <;> subst hc <;> simp [binOp, Op.intDiv, pureRun, hb]
  all_goals rfl
theorem TD_sh {k k2 : IntKind} {a b c : Int} (hx : evS n S x = some (.int k a)) (hy : evS n S y = some (.int k2 b)) (hb : 0 ≤ b) (hc : shR k bop a b.toNat = some c) (kk : TD P ops B rest ⟨fr n ((d, .int k c) :: S), df, σ⟩ R) : TD P ops B ({ dst := some d, op := .binOp bop t x y yt, type := ty, pos := ps, after := af, guard := none } :: rest) ⟨fr n S, df, σ⟩ R := by
  refine TD_plain2 (p_bin (r := .int k c) hx rfl hy rfl (fun _ h => by cases h) (by simp) ?_ rfl) kk
  cases bop <;> simp only [shR, reduceCtorEq, Option.some.injEq] at hc <;> subst hc <;> simp [binOp, Op.shift, pureRun, Int.not_lt.2 hb]
  all_goals rfl
theorem TD_scmp {a b : ByteArray} {c : Bool} (hx : evS n S x = some (.str a)) (hy : evS n S y = some (.str b)) (hc : strR bop a b = some c) (kk : TD P ops B rest ⟨fr n ((d, .bool c) :: S), df, σ⟩ R) : TD P ops B ({ dst := some d, op := .binOp bop t x y yt, type := ty, pos := ps, after := af, guard := none } :: rest) ⟨fr n S, df, σ⟩ R := by
  refine TD_plain2 (p_bin (r := .bool c) hx rfl hy rfl (fun _ h => by cases h) (by simp) ?_ rfl) kk
  cases bop <;> simp only [strR, reduceCtorEq, Option.some.injEq] at hc <;> subst hc <;> simp [binOp, Op.stringOp, pureRun]
  all_goals rfl
theorem TD_scat {a b : ByteArray} (hx : evS n S x = some (.str a)) (hy : evS n S y = some (.str b)) (hl : a.size + b.size ≤ 9223372036854775807) (kk : TD P ops B rest ⟨fr n ((d, .str (a ++ b)) :: S), df, σ⟩ R) : TD P ops B ({ dst := some d, op := .binOp .add t x y yt, type := ty, pos := ps, after := af, guard := none } :: rest) ⟨fr n S, df, σ⟩ R := by
  refine TD_plain2 (p_bin (r := .string (a ++ b)) hx rfl hy rfl (fun _ h => by cases h) (by simp) ?_ rfl) kk
  have h : ¬ ((a.size + b.size : Nat) : Int) > IntKind.i64.max := by
    have : IntKind.i64.max = 9223372036854775807 := by decide
    omega
  simp only [binOp, Op.stringOp]
  rw [if_neg h]
  rfl
theorem TD_beq {a b : Bool} (hx : evS n S x = some (.bool a)) (hy : evS n S y = some (.bool b)) (ht : P.underlying t = some .bool) (kk : TD P ops B rest ⟨fr n ((d, .bool (a == b)) :: S), df, σ⟩ R) : TD P ops B ({ dst := some d, op := .binOp .eql t x y yt, type := ty, pos := ps, after := af, guard := none } :: rest) ⟨fr n S, df, σ⟩ R := by
  refine TD_plain2 (p_bin (r := .bool (a == b)) hx rfl hy rfl (fun _ h => by cases h) (by simp) ?_ rfl) kk
  show pureRun P (Op.equal t (.bool a) (.bool b) >>= _) = _
  rw [pureRun_bind (eq_bool ht)]
  rfl
theorem TD_bne {a b : Bool} (hx : evS n S x = some (.bool a)) (hy : evS n S y = some (.bool b)) (ht : P.underlying t = some .bool) (kk : TD P ops B rest ⟨fr n ((d, .bool (a != b)) :: S), df, σ⟩ R) : TD P ops B ({ dst := some d, op := .binOp .neq t x y yt, type := ty, pos := ps, after := af, guard := none } :: rest) ⟨fr n S, df, σ⟩ R := by
  refine TD_plain2 (p_bin (r := .bool (a != b)) hx rfl hy rfl (fun _ h => by cases h) (by simp) ?_ rfl) kk
  show pureRun P (Op.equal t (.bool a) (.bool b) >>= _) = _
  rw [pureRun_bind (eq_bool ht)]
  rfl
theorem TD_not {a : Bool} (hx : evS n S x = some (.bool a)) (kk : TD P ops B rest ⟨fr n ((d, .bool (!a)) :: S), df, σ⟩ R) : TD P ops B ({ dst := some d, op := .unOp .not t x, type := ty, pos := ps, after := af, guard := none } :: rest) ⟨fr n S, df, σ⟩ R := by
  refine TD_plain2 ?_ kk
  simp only [plainOp, pureOp, evV_of hx (r := .bool a) rfl]
  rfl
theorem TD_neg {k : IntKind} {a : Int} (hx : evS n S x = some (.int k a)) (kk : TD P ops B rest ⟨fr n ((d, .int k (k.wrap (0 - a))) :: S), df, σ⟩ R) : TD P ops B ({ dst := some d, op := .unOp .neg t x, type := ty, pos := ps, after := af, guard := none } :: rest) ⟨fr n S, df, σ⟩ R := by
  refine TD_plain2 ?_ kk
  simp only [plainOp, pureOp, evV_of hx (r := .int k a) rfl]
  rfl
theorem TD_convInt {k j : IntKind} {a : Int} {td : TypeDesc} (hx : evS n S x = some (.int k a)) (ht : P.underlying t = some td) (he : P.underlying e = some (.int j)) (kk : TD P ops B rest ⟨fr n ((d, .int j (j.wrap a)) :: S), df, σ⟩ R) : TD P ops B ({ dst := some d, op := .convert t e x, type := ty, pos := ps, after := af, guard := none } :: rest) ⟨fr n S, df, σ⟩ R := by
  refine TD_plain2 ?_ kk
  have hr : pureRun P (convert t e (.int k a)) = some (.int j (j.wrap a)) := by
    unfold convert
    rw [pureRun_bind (pureRun_under ht), pureRun_bind (pureRun_under he)]
    rfl
  simp only [plainOp, ev_fr, hx, pureOp, evV_of hx (r := .int k a) rfl, hr, bind, Option.bind, Option.map]
  rfl
theorem TD_sidx {k : IntKind} {i : Int} {s : ByteArray} {b : UInt8} (hx : evS n S x = some (.str s)) (hy : evS n S y = some (.int k i)) (ht : P.underlying t = some .string) (h0 : 0 ≤ i) (hb : s[i.toNat]? = some b) (kk : TD P ops B rest ⟨fr n ((d, .int .u8 b.toNat) :: S), df, σ⟩ R) : TD P ops B ({ dst := some d, op := .index t x y, type := ty, pos := ps, after := af, guard := none } :: rest) ⟨fr n S, df, σ⟩ R := by
  refine TD_plain2 ?_ kk
  have hr : pureRun P (Instr.index t (.string s) (.int k i)) = some (.int .u8 b.toNat) := by
    unfold Instr.index
    rw [pureRun_bind (a := (k, i)) rfl, pureRun_bind (pureRun_under ht)]
    simp only [h0, if_true, hb]
    rfl
  simp only [plainOp, ev_fr, hx, pureOp, evV_of hx (r := .string s) rfl, evV_of hy (r := .int k i) rfl, hr, bind, Option.bind, Option.map]
  rfl
theorem TD_ssl_lo {k : IntKind} {i : Int} {s : ByteArray} (hx : evS n S x = some (.str s)) (ht : P.underlying t = some .string) (hi : evS n S y = some (.int k i)) (h0 : 0 ≤ i) (h1 : i ≤ s.size) (kk : TD P ops B rest ⟨fr n ((d, .str (s.extract i.toNat s.size)) :: S), df, σ⟩ R) : TD P ops B ({ dst := some d, op := .slice t x (some y) none none, type := ty, pos := ps, after := af, guard := none } :: rest) ⟨fr n S, df, σ⟩ R := by
  refine TD_plain2 (p_ssl hx ht (lo' := some (.int k i)) (hi' := none) ?_ rfl ?_) kk
  · simp [optV, evV_of hi (r := .int k i) rfl]
  · unfold Instr.sliceBounds
    rw [pureRun_bind (a := s.size) rfl, pureRun_bind (a := s.size) rfl, pureRun_bind (bound_of h0 h1)]
    rfl
theorem TD_ssl_hi {k : IntKind} {i : Int} {s : ByteArray} (hx : evS n S x = some (.str s)) (ht : P.underlying t = some .string) (hi : evS n S y = some (.int k i)) (h0 : 0 ≤ i) (h1 : i ≤ s.size) (kk : TD P ops B rest ⟨fr n ((d, .str (s.extract 0 i.toNat)) :: S), df, σ⟩ R) : TD P ops B ({ dst := some d, op := .slice t x none (some y) none, type := ty, pos := ps, after := af, guard := none } :: rest) ⟨fr n S, df, σ⟩ R := by
  refine TD_plain2 (p_ssl hx ht (lo' := none) (hi' := some (.int k i)) rfl ?_ ?_) kk
  · simp [optV, evV_of hi (r := .int k i) rfl]
  · unfold Instr.sliceBounds
    rw [pureRun_bind (a := s.size) rfl]
    show pureRun P (Instr.sliceBound (.int k i) s.size _ >>= _) = _
    rw [pureRun_bind (bound_of h0 h1)]
    rfl
theorem TD_ssl {k j : IntKind} {i m : Int} {y' : Operand} {s : ByteArray} (hx : evS n S x = some (.str s)) (ht : P.underlying t = some .string) (hi : evS n S y = some (.int k i)) (hm : evS n S y' = some (.int j m)) (h0 : 0 ≤ i) (h1 : i ≤ m) (h2 : m ≤ s.size) (kk : TD P ops B rest ⟨fr n ((d, .str (s.extract i.toNat m.toNat)) :: S), df, σ⟩ R) : TD P ops B ({ dst := some d, op := .slice t x (some y) (some y') none, type := ty, pos := ps, after := af, guard := none } :: rest) ⟨fr n S, df, σ⟩ R := by
  refine TD_plain2 (p_ssl hx ht (lo' := some (.int k i)) (hi' := some (.int j m)) ?_ ?_ ?_) kk
  · simp [optV, evV_of hi (r := .int k i) rfl]
  · simp [optV, evV_of hm (r := .int j m) rfl]
  · unfold Instr.sliceBounds
    rw [pureRun_bind (a := s.size) rfl]
    show pureRun P (Instr.sliceBound (.int j m) s.size _ >>= _) = _
    rw [pureRun_bind (bound_of (by omega) h2), pureRun_bind (bound_of h0 (by omega))]
    rfl
theorem TD_slen {s : ByteArray} {c : Call} (hc : c.callee = .builtin .len) (ha : c.args = #[x]) (htt : c.argTypes = #[t]) (hx : evS n S x = some (.str s)) (ht : P.underlying t = some .string) (kk : TD P ops B rest ⟨fr n ((d, .int .i64 s.size) :: S), df, σ⟩ R) : TD P ops B ({ dst := some d, op := .call c, type := ty, pos := ps, after := af, guard := none } :: rest) ⟨fr n S, df, σ⟩ R := by
  refine TD_plain2 ?_ kk
  have hr : ∀ cs, pureRun P (builtin .len #[t] ty cs #[.string s]) = some (.value (.int .i64 s.size)) := by
    intro cs
    unfold builtin
    show pureRun P (Builtin.len_ #[t] ty #[.string s] >>= _) = _
    have h1 : pureRun P (Builtin.len_ #[t] ty #[.string s]) = some (.int .i64 s.size) := by
      show pureRun P (underlying t >>= _) = _
      rw [pureRun_bind (pureRun_under ht)]
      rfl
    rw [pureRun_bind h1]
    rfl
  simp only [plainOp, callB, hc, callV, ha, htt, ev_fr, hx, Option.bind, plainB, List.mapM_cons, List.mapM_nil, evV_of hx (r := .string s) rfl, pure, bind, hr, Option.map]
  rfl
theorem TD_llen {l : List AV} {tk : Tok} {c : Call} (hc : c.callee = .builtin .len) (ha : c.args = #[x]) (htt : c.argTypes = #[t]) (hx : evS n S x = some (.sl l tk)) (ht : P.underlying t = some (.slice e)) (kk : TD P ops B rest ⟨fr n ((d, .int .i64 l.length) :: S), df, σ⟩ R) : TD P ops B ({ dst := some d, op := .call c, type := ty, pos := ps, after := af, guard := none } :: rest) ⟨fr n S, df, σ⟩ R := by
  refine TD_plain2 ?_ kk
  simp only [plainOp, callB, hc, callV, ha, htt, ev_fr, hx, Option.bind, lenT, ht, Option.map]
theorem TD_extract {vs : List AV} (hx : evS n S x = some (.tup vs)) (hv : vs[i]? = some v) (k : TD P ops B rest ⟨fr n ((d, v) :: S), df, σ⟩ R) : TD P ops B ({ dst := some d, op := .extract x i, type := ty, pos := ps, after := af, guard := none } :: rest) ⟨fr n S, df, σ⟩ R :=
  TD_plain2 (by simp [plainOp, memOp, ev_fr, hx, hv]) k
theorem TD_field (hf : fieldA P t f = some (ft, off)) (hx : evS n S x = some (.agg cs)) (hv : partA P ft cs off = some v) (k : TD P ops B rest ⟨fr n ((d, v) :: S), df, σ⟩ R) : TD P ops B ({ dst := some d, op := .field t x f, type := ty, pos := ps, after := af, guard := none } :: rest) ⟨fr n S, df, σ⟩ R :=
  TD_plain2 (by simp [plainOp, memOp, ev_fr, hf, hx, hv]) k
theorem TD_fieldAddr_c (hf : fieldA P t f = some (ft, off)) (hz : sizeA P ft = some (z + 1)) (hx : evS n S x = some (.cptr cs)) (k : TD P ops B rest ⟨fr n ((d, .cptr (cs.drop off)) :: S), df, σ⟩ R) : TD P ops B ({ dst := some d, op := .fieldAddr t x f, type := ty, pos := ps, after := af, guard := none } :: rest) ⟨fr n S, df, σ⟩ R :=
  TD_plain2 (by simp [plainOp, memOp, ev_fr, hf, hx, hz]) k
theorem TD_fieldAddr_p (hf : fieldA P t f = some (ft, off)) (hz : sizeA P ft = some (z + 1)) (hx : evS n S x = some (.ptr id o)) (k : TD P ops B rest ⟨fr n ((d, .ptr id (o + off)) :: S), df, σ⟩ R) : TD P ops B ({ dst := some d, op := .fieldAddr t x f, type := ty, pos := ps, after := af, guard := none } :: rest) ⟨fr n S, df, σ⟩ R :=
  TD_plain2 (by simp [plainOp, memOp, ev_fr, hf, hx, hz]) k
theorem TD_nil_p (hx : evS n S x = some (.ptr id off)) (k : TD P ops B rest ⟨fr n ((d, .ptr id off) :: S), df, σ⟩ R) : TD P ops B ({ dst := some d, op := .nilCheck x, type := ty, pos := ps, after := af, guard := none } :: rest) ⟨fr n S, df, σ⟩ R :=
  TD_plain2 (by simp [plainOp, memOp, ev_fr, hx]) k
theorem TD_nil_c (hx : evS n S x = some (.cptr cs)) (k : TD P ops B rest ⟨fr n ((d, .cptr cs) :: S), df, σ⟩ R) : TD P ops B ({ dst := some d, op := .nilCheck x, type := ty, pos := ps, after := af, guard := none } :: rest) ⟨fr n S, df, σ⟩ R :=
  TD_plain2 (by simp [plainOp, memOp, ev_fr, hx]) k
theorem TD_nil_f {g : FuncId} {fs gs : List AV} (hx : evS n S x = some (.fn (.func g) fs gs)) (k : TD P ops B rest ⟨fr n ((d, .fn (.func g) fs gs) :: S), df, σ⟩ R) : TD P ops B ({ dst := some d, op := .nilCheck x, type := ty, pos := ps, after := af, guard := none } :: rest) ⟨fr n S, df, σ⟩ R :=
  TD_plain2 (by simp [plainOp, memOp, ev_fr, hx]) k
theorem TD_idx_sl {k : IntKind} {j : Int} {l : List AV} (ht : P.underlying t = some (.slice e)) (hz : sizeA P e = some z) (hx : evS n S x = some (.sl l tk)) (hy : evS n S y = some (.int k j)) (h0 : 0 ≤ j) (hl : l[j.toNat]? = some v) (hv : v.cells.length = z) (kk : TD P ops B rest ⟨fr n ((d, .cptr v.cells) :: S), df, σ⟩ R) : TD P ops B ({ dst := some d, op := .indexAddr t x y, type := ty, pos := ps, after := af, guard := none } :: rest) ⟨fr n S, df, σ⟩ R :=
  TD_plain2 (by simp [plainOp, memOp, ev_fr, hx, hy, intA, Int.not_lt.2 h0, ht, hz, hl, hv]) kk
theorem TD_idx_ac {k : IntKind} {j : Int} (ht : P.underlying t = some (.array len e)) (hz : sizeA P e = some z) (hx : evS n S x = some (.cptr cs)) (hy : evS n S y = some (.int k j)) (h0 : 0 ≤ j) (hl : j.toNat < len) (kk : TD P ops B rest ⟨fr n ((d, .cptr (cs.drop (j.toNat * z))) :: S), df, σ⟩ R) : TD P ops B ({ dst := some d, op := .indexAddr t x y, type := ty, pos := ps, after := af, guard := none } :: rest) ⟨fr n S, df, σ⟩ R :=
  TD_plain2 (by simp [plainOp, memOp, ev_fr, hx, hy, intA, Int.not_lt.2 h0, ht, hz, hl]) kk
theorem TD_idx_ap {k : IntKind} {j : Int} (ht : P.underlying t = some (.array len e)) (hz : sizeA P e = some z) (hx : evS n S x = some (.ptr id off)) (hy : evS n S y = some (.int k j)) (h0 : 0 ≤ j) (hl : j.toNat < len) (kk : TD P ops B rest ⟨fr n ((d, .ptr id (off + j.toNat * z)) :: S), df, σ⟩ R) : TD P ops B ({ dst := some d, op := .indexAddr t x y, type := ty, pos := ps, after := af, guard := none } :: rest) ⟨fr n S, df, σ⟩ R :=
  TD_plain2 (by simp [plainOp, memOp, ev_fr, hx, hy, intA, Int.not_lt.2 h0, ht, hz, hl]) kk
theorem TD_idx_ms {k : IntKind} {j : Int} {cap : Nat} (ht : P.underlying t = some (.slice e)) (hz : sizeA P e = some z) (hx : evS n S x = some (.msl id off len cap)) (hy : evS n S y = some (.int k j)) (h0 : 0 ≤ j) (hl : j.toNat < len) (kk : TD P ops B rest ⟨fr n ((d, .ptr id (off + j.toNat * z)) :: S), df, σ⟩ R) : TD P ops B ({ dst := some d, op := .indexAddr t x y, type := ty, pos := ps, after := af, guard := none } :: rest) ⟨fr n S, df, σ⟩ R :=
  TD_plain2 (by simp [plainOp, memOp, ev_fr, hx, hy, intA, Int.not_lt.2 h0, ht, hz, hl]) kk
theorem TD_index_agg {k : IntKind} {j : Int} (ht : P.underlying t = some (.array len e)) (hz : sizeA P e = some z) (hx : evS n S x = some (.agg cs)) (hy : evS n S y = some (.int k j)) (h0 : 0 ≤ j) (hl : j.toNat < len) (hv : partA P e cs (j.toNat * z) = some v) (kk : TD P ops B rest ⟨fr n ((d, v) :: S), df, σ⟩ R) : TD P ops B ({ dst := some d, op := .index t x y, type := ty, pos := ps, after := af, guard := none } :: rest) ⟨fr n S, df, σ⟩ R :=
  TD_plain2 (by simp [plainOp, memOp, ev_fr, hx, hy, intA, Int.not_lt.2 h0, ht, hz, hl, hv]) kk
theorem TD_lsl {l : List AV} {lo hi : Option Operand} {a b : Int} (ht : P.underlying t = some (.slice e)) (hz : sizeA P e = some z) (hx : evS n S x = some (.sl l tk)) (hlo : natBS n S 0 lo = some a) (hhi : natBS n S l.length hi = some b) (h0 : 0 ≤ a) (h1 : a ≤ b) (h2 : b ≤ l.length) (hk : sizeOK z l = true)
    (kk : TD P ops B rest ⟨fr n ((d, .sl ((l.take b.toNat).drop a.toNat) (if b.toNat = l.length then (if a.toNat = 0 then tk else if tk = .full then .full else .dead) else .dead)) :: S), df, σ⟩ R) : TD P ops B ({ dst := some d, op := .slice t x lo hi none, type := ty, pos := ps, after := af, guard := none } :: rest) ⟨fr n S, df, σ⟩ R := by
  refine TD_plain2 ?_ kk
  have e1 := natB_fr hlo h0
  have e2 := natB_fr hhi (by omega)
  have e3 : a.toNat ≤ b.toNat ∧ b.toNat ≤ l.length := ⟨by omega, by omega⟩
  have e4 : cutSl l tk a.toNat b.toNat none = some (.sl ((l.take b.toNat).drop a.toNat) (if b.toNat = l.length then (if a.toNat = 0 then tk else if tk = .full then .full else .dead) else .dead)) := by
    unfold cutSl
    rw [if_pos ⟨e3.1, e3.2, Nat.le_refl _⟩]
  simp [plainOp, memOp, ev_fr, hx, ht, hz, e1, e2, natM, hk, e4]
theorem TD_build {parts : Array (Nat × Operand)} {zv : AV} {pl : Nat → Option (Nat × Nat)} {qs : List (Nat × AV)} (hz : zeroA P t = some zv) (hp : placesA P t = some pl) (hq : partsS n S parts.toList = some qs) (hv : fillA pl zv.cells qs = some cs) (k : TD P ops B rest ⟨fr n ((d, .agg cs) :: S), df, σ⟩ R) : TD P ops B ({ dst := some d, op := .build t parts, type := ty, pos := ps, after := af, guard := none } :: rest) ⟨fr n S, df, σ⟩ R :=
  TD_plain2 (by simp only [plainOp, memOp, hz, hp, Option.bind_some, parts_fr, hq, hv, Option.map_some]) k
theorem TD_buildSlice {parts : Array (Nat × Operand)} {zv : AV} {vs : List AV} (ht : P.underlying t = some (.slice e)) (hz : sizeA P e = some z) (hzv : zeroA P e = some zv) (hq : evsS n S (parts.toList.map (·.2)) = some vs)
    (hc : parts.toList.map (·.1) = List.range len ∧ z ≠ 0 ∧ zv.cells.length = z ∧ len * z ≤ 16777216 ∧ (vs.all fun v => v.cells.length == z) = true) (k : TD P ops B rest ⟨fr n ((d, .sl vs .full) :: S), df, σ⟩ R) : TD P ops B ({ dst := some d, op := .buildSlice t len parts, type := ty, pos := ps, after := af, guard := none } :: rest) ⟨fr n S, df, σ⟩ R :=
  TD_plain2 (by simp only [plainOp, memOp, ht, hz, hzv, Option.bind_some, evs_fr, hq]; rw [if_pos hc]) k
theorem TD_makeFunc {fn : Fn} {first cap : Array Operand} {fs gs : List AV} (hf : evsS n S first.toList = some fs) (hg : evsS n S cap.toList = some gs) (k : TD P ops B rest ⟨fr n ((d, .fn fn fs gs) :: S), df, σ⟩ R) : TD P ops B ({ dst := some d, op := .makeFunc fn first cap, type := ty, pos := ps, after := af, guard := none } :: rest) ⟨fr n S, df, σ⟩ R :=
  TD_plain2 (by simp [plainOp, memOp, evs_fr, hf, hg]) k
theorem TD_iface (ht : ∀ ms, P.underlying t ≠ some (.interface ms)) (hs : (P.underlying t).isSome = true) (hx : evS n S x = some v) (k : TD P ops B rest ⟨fr n ((d, .iface t v) :: S), df, σ⟩ R) : TD P ops B ({ dst := some d, op := .makeInterface t x, type := ty, pos := ps, after := af, guard := none } :: rest) ⟨fr n S, df, σ⟩ R := by
  refine TD_plain2 ?_ k
  obtain ⟨td, h⟩ := Option.isSome_iff_exists.1 hs
  simp only [plainOp, memOp, h, Option.bind_some, ev_fr, hx]
  cases td <;> first | rfl | exact absurd h (ht _)
theorem TD_conv_text {l : List AV} {ns : List Int} (hs : P.underlying t = some (.slice yt)) (hu : isU8 P yt = true) (he : P.underlying e = some .string) (hx : evS n S x = some (.sl l tk)) (hl : bytesA l = some ns) (k : TD P ops B rest ⟨fr n ((d, .str (strOfNums ns)) :: S), df, σ⟩ R) : TD P ops B ({ dst := some d, op := .convert t e x, type := ty, pos := ps, after := af, guard := none } :: rest) ⟨fr n S, df, σ⟩ R :=
  TD_plain2 (by simp [plainOp, convA, ev_fr, hx, hs, he, hu, hl]) k
theorem TD_guard_no_t {j : Nat} {b : Bool} {dj d : Tmp} (hj : (ops[j]?).bind (·.dst) = some dj) (hb : evS n S (.tmp dj) = some (.bool b)) (hw : b = false)
    (hf : TD P ops B rest ⟨fr n ((d, .undef) :: S), df, σ⟩ R) : TD P ops B ({ dst := some d, op := op, type := ty, pos := ps, after := af, guard := some (j, true) } :: rest) ⟨fr n S, df, σ⟩ R := TD_guard_no hj hb hw hf
theorem TD_guard_no_f {j : Nat} {b : Bool} {dj d : Tmp} (hj : (ops[j]?).bind (·.dst) = some dj) (hb : evS n S (.tmp dj) = some (.bool b)) (hw : b = true)
    (hf : TD P ops B rest ⟨fr n ((d, .undef) :: S), df, σ⟩ R) : TD P ops B ({ dst := some d, op := op, type := ty, pos := ps, after := af, guard := some (j, false) } :: rest) ⟨fr n S, df, σ⟩ R := TD_guard_no hj hb hw hf
theorem TD_add64 {a b : Int} (hx : evS n S x = some (.int .i64 a)) (hy : evS n S y = some (.int .i64 b)) (h0 : -9223372036854775808 ≤ a + b) (h1 : a + b ≤ 9223372036854775807) (kk : TD P ops B rest ⟨fr n ((d, .int .i64 (a + b)) :: S), df, σ⟩ R) : TD P ops B ({ dst := some d, op := .binOp .add t x y yt, type := ty, pos := ps, after := af, guard := none } :: rest) ⟨fr n S, df, σ⟩ R :=
  TD_ari hx hy rfl (by rw [wrap64 h0 h1]; exact kk)
theorem TD_sub64 {a b : Int} (hx : evS n S x = some (.int .i64 a)) (hy : evS n S y = some (.int .i64 b)) (h0 : -9223372036854775808 ≤ a - b) (h1 : a - b ≤ 9223372036854775807) (kk : TD P ops B rest ⟨fr n ((d, .int .i64 (a - b)) :: S), df, σ⟩ R) : TD P ops B ({ dst := some d, op := .binOp .sub t x y yt, type := ty, pos := ps, after := af, guard := none } :: rest) ⟨fr n S, df, σ⟩ R :=
  TD_ari hx hy rfl (by rw [wrap64 h0 h1]; exact kk)

theorem TD_load_c (hx : evS n S x = some (.cptr cs)) (hv : loadA P t cs = some v) (k : TD P ops B rest ⟨fr n ((d, v) :: S), df, σ⟩ R) : TD P ops B ({ dst := some d, op := .load t x, type := ty, pos := ps, after := af, guard := none } :: rest) ⟨fr n S, df, σ⟩ R :=
  TD_load (fun τ _ => by simp [plainOp, memOp, ev_fr, hx, hv]) rfl k
theorem TD_load_p (hx : evS n S x = some (.ptr id off)) (hc : ∀ τ, B τ → τ[id]? = some (.cells cs)) (hv : loadA P t (cs.drop off) = some v) (k : TD P ops B rest ⟨fr n ((d, v) :: S), df, σ⟩ R) : TD P ops B ({ dst := some d, op := .load t x, type := ty, pos := ps, after := af, guard := none } :: rest) ⟨fr n S, df, σ⟩ R :=
  TD_load (fun τ hB => by simp [plainOp, memOp, ev_fr, hx, hc τ hB, hv]) rfl k
/-- A load of what stood in the memory when the region began. -/
theorem TD_load_k {σ0 : Mem} (hx : evS n S x = some (.ptr id off)) (hc : σ0[id]? = some (.cells cs)) (hv : loadA P t (cs.drop off) = some v) (k : TD P ops (keepB σ0) rest ⟨fr n ((d, v) :: S), df, σ⟩ R) : TD P ops (keepB σ0) ({ dst := some d, op := .load t x, type := ty, pos := ps, after := af, guard := none } :: rest) ⟨fr n S, df, σ⟩ R :=
  TD_load_p hx (fun τ hB => hB id cs hc) hv k
theorem TD_alloc (hz : zeroA P e = some v) (hB : B (σ ++ [.cells v.cells])) (k : TD P ops B rest ⟨fr n ((d, .ptr σ.length 0) :: S), df, σ ++ [.cells v.cells]⟩ R) : TD P ops B ({ dst := some d, op := .alloc e, type := ty, pos := ps, after := af, guard := none } :: rest) ⟨fr n S, df, σ⟩ R :=
  TD_effP (by simp [plainOp, memOp, hz]) rfl hB k
theorem TD_box (hx : evS n S x = some v) (hB : B (σ ++ [.cells v.cells])) (k : TD P ops B rest ⟨fr n ((d, .ptr σ.length 0) :: S), df, σ ++ [.cells v.cells]⟩ R) : TD P ops B ({ dst := some d, op := .box e x, type := ty, pos := ps, after := af, guard := none } :: rest) ⟨fr n S, df, σ⟩ R :=
  TD_effP (by simp [plainOp, memOp, ev_fr, hx]) rfl hB k
theorem TD_append {c : Call} (hc : c.callee = .builtin .append) (ha : c.args = #[x, y]) (hts : c.argTypes = #[t, e]) (hx : evS n S x = some u) (hy : evS n S y = some v) {r : AV} (hr : appendA P σ t e u v = some (r, σ')) (hB : B σ') (k : TD P ops B rest ⟨fr n ((d, r) :: S), df, σ'⟩ R) : TD P ops B ({ dst := some d, op := .call c, type := ty, pos := ps, after := af, guard := none } :: rest) ⟨fr n S, df, σ⟩ R :=
  TD_effP (by simp [plainOp, callB, hc, ha, hts, ev_fr, hx, hy, appendX_of hr]) (by simp [effK, hc]) hB k
theorem TD_conv_bytes {s : ByteArray} (hs : P.underlying t = some .string) (he : P.underlying e = some (.slice yt)) (hu : isU8 P yt = true) (hx : evS n S x = some (.str s)) (hz : s.size ≤ 9223372036854775807) (hB : B (σ ++ [AO.tok true])) (k : TD P ops B rest ⟨fr n ((d, .sl (strElems s) (.live σ.length)) :: S), df, σ ++ [AO.tok true]⟩ R) : TD P ops B ({ dst := some d, op := .convert t e x, type := ty, pos := ps, after := af, guard := none } :: rest) ⟨fr n S, df, σ⟩ R :=
  TD_effP (by simp [plainOp, convA, ev_fr, hx, hs, he, hu, hz]) (by simp [effK, he]) hB k
theorem TD_callA {c : Call} {g : FuncId} {args : List AV} (hc : calleeS n S c = some (g, args)) (he : enters P g = true) (h : ACall P g args σ v σ') (hB : B σ') (k : TD P ops B rest ⟨fr n ((d, v) :: S), df, σ'⟩ R) :
    TD P ops B ({ dst := some d, op := .call c, type := ty, pos := ps, after := af, guard := none } :: rest) ⟨fr n S, df, σ⟩ R := TD_call (callee_fr hc) he h hB k
/-- A store into what is not read in the region: B must bear it. -/
theorem TD_store (ha : evS n S x = some (.ptr id off)) (hc : σ[id]? = some (.cells cs)) (hx : evS n S y = some v) (hs : sizeA P t = some v.cells.length) (hl : off + v.cells.length ≤ cs.length) (ho : v.cells.all AV.one = true) (hB : B (σ.set id (.cells (putA cs off v.cells)))) (k : TD P ops B rest ⟨fr n S, df, σ.set id (.cells (putA cs off v.cells))⟩ R) : TD P ops B ({ dst := none, op := .store t x y, type := ty, pos := ps, after := af, guard := none } :: rest) ⟨fr n S, df, σ⟩ R :=
  TD_effP0 (v := .undef) (by simp only [plainOp, memOp, ev_fr, ha, hc, hx, Option.bind_some]; rw [if_pos ⟨hs, hl, ho⟩]) rfl hB k
end
end Go.Proofs.Ytihbdelgoapeoaa.K
/- Walking over abstract states by rules: the object made last. -/
namespace Go.Proofs.Ytihbdelgoapeoaa.K
open Go Go.RowKit
set_option linter.unusedSimpArgs false
set_option linter.unusedVariables false

theorem get_last (σ : Mem) (c : AO) : (σ ++ [c])[σ.length]? = some c := by simp
theorem set_last (σ : Mem) (c d : AO) : (σ ++ [c]).set σ.length d = σ ++ [d] := by simp

section
variable {P : Program} {ops : Array Oper} {rest : List Oper} {R : AS → Prop} {n : Nat} {S : List (Nat × AV)} {df : List AD} {σ σ' : Mem} {d : Tmp} {ty t : TypeId} {ps : String} {af : Array Edge} {v : AV} {x y : Operand} {off : Nat} {cs : List AV}
theorem TO_store_last (ha : evS n S x = some (.ptr σ.length off)) (hx : evS n S y = some v) (hs : sizeA P t = some v.cells.length) (hl : off + v.cells.length ≤ cs.length) (ho : v.cells.all AV.one = true) (k : TO P ops rest ⟨fr n S, df, σ ++ [.cells (putA cs off v.cells)]⟩ R) : TO P ops ({ dst := none, op := .store t x y, type := ty, pos := ps, after := af, guard := none } :: rest) ⟨fr n S, df, σ ++ [.cells cs]⟩ R := by
  refine TO_store ha (get_last _ _) hx hs hl ho ?_
  rw [set_last]
  exact k
theorem TO_load_last (ha : evS n S x = some (.ptr σ.length off)) (hv : loadA P t (cs.drop off) = some v) (k : TO P ops rest ⟨fr n ((d, v) :: S), df, σ ++ [.cells cs]⟩ R) : TO P ops ({ dst := some d, op := .load t x, type := ty, pos := ps, after := af, guard := none } :: rest) ⟨fr n S, df, σ ++ [.cells cs]⟩ R := TO_load_p ha (get_last _ _) hv k
theorem TD_load_last (ha : evS n S x = some (.ptr σ.length off)) (hv : loadA P t (cs.drop off) = some v) (k : TD P ops (keepB (σ ++ [.cells cs])) rest ⟨fr n ((d, v) :: S), df, σ'⟩ R) : TD P ops (keepB (σ ++ [.cells cs])) ({ dst := some d, op := .load t x, type := ty, pos := ps, after := af, guard := none } :: rest) ⟨fr n S, df, σ'⟩ R := TD_load_k ha (get_last _ _) hv k
end
end Go.Proofs.Ytihbdelgoapeoaa.K
/- One family of rules for both kinds of regions: those that go in the text's order, and those that draw it. Printed by gen_tx.py. -/
namespace Go.Proofs.Ytihbdelgoapeoaa.K
open Go Go.RowKit
set_option linter.unusedSimpArgs false
set_option linter.unusedVariables false

/-- Operations of a region: in the text's order, or in whatever order; then B holds all along. -/
def TX (P : Program) (md : Option (Mem → Prop)) (ops : Array Oper) (l : List Oper) (x : AS) (R : AS → Prop) : Prop :=
  match md with
  | none => TO P ops l x R
  | some B => TD P ops B l x R

/-- What the memory must bear on the way. -/
def MB (md : Option (Mem → Prop)) (σ : Mem) : Prop :=
  match md with
  | none => True
  | some B => B σ
/-- This cell is there all along. -/
def MC (md : Option (Mem → Prop)) (σ : Mem) (id : Nat) (cs : List AV) : Prop :=
  match md with
  | none => σ[id]? = some (.cells cs)
  | some B => ∀ τ, B τ → τ[id]? = some (.cells cs)

section
variable {P : Program} {md : Option (Mem → Prop)} {ops : Array Oper} {rest : List Oper} {R : AS → Prop} {n : Nat} {S : List (Nat × AV)} {df : List AD} {σ σ' : Mem} {d : Tmp} {op : Op} {bop : BinOp} {ty t yt e ft : TypeId} {ps : String} {af : Array Edge} {u v : AV} {x y : Operand} {i f off z id o len : Nat} {cs : List AV} {tk : Tok}

theorem TX_nil {x : AS} (h : R x) : TX P md ops [] x R := by
  cases md with
  | none => exact TO_nil h
  | some B => exact TD_nil h
theorem TX_plain (h : plainOp P (fr n S) σ op ty = some (v, σ)) (he : effK P op = false) (hl : isLoad op = false) (k : TX P md ops rest ⟨fr n ((d, v) :: S), df, σ⟩ R) : TX P md ops ({ dst := some d, op := op, type := ty, pos := ps, after := af, guard := none } :: rest) ⟨fr n S, df, σ⟩ R := by
  cases md with
  | none => exact TO_plain h k
  | some B => exact TD_plain h he hl k
theorem TX_eff (h : plainOp P (fr n S) σ op ty = some (v, σ')) (he : effK P op = true) (hB : MB md σ') (k : TX P md ops rest ⟨fr n ((d, v) :: S), df, σ'⟩ R) : TX P md ops ({ dst := some d, op := op, type := ty, pos := ps, after := af, guard := none } :: rest) ⟨fr n S, df, σ⟩ R := by
  cases md with
  | none => exact TO_plain h k
  | some B => exact TD_effP h he hB k
theorem TX_eff0 (h : plainOp P (fr n S) σ op ty = some (v, σ')) (he : effK P op = true) (hB : MB md σ') (k : TX P md ops rest ⟨fr n S, df, σ'⟩ R) : TX P md ops ({ dst := none, op := op, type := ty, pos := ps, after := af, guard := none } :: rest) ⟨fr n S, df, σ⟩ R := by
  cases md with
  | none => exact TO_plain0 h k
  | some B => exact TD_effP0 h he hB k
theorem TX_call {c : Call} {g : FuncId} {args : List AV} (hc : calleeS n S c = some (g, args)) (he : enters P g = true) (h : ACall P g args σ v σ') (hB : MB md σ') (k : TX P md ops rest ⟨fr n ((d, v) :: S), df, σ'⟩ R) :
    TX P md ops ({ dst := some d, op := .call c, type := ty, pos := ps, after := af, guard := none } :: rest) ⟨fr n S, df, σ⟩ R := by
  cases md with
  | none => exact TO_callA hc he h k
  | some B => exact TD_callA hc he h hB k
theorem TX_load_c (hx : evS n S x = some (.cptr cs)) (hv : loadA P t cs = some v) (k : TX P md ops rest ⟨fr n ((d, v) :: S), df, σ⟩ R) : TX P md ops ({ dst := some d, op := .load t x, type := ty, pos := ps, after := af, guard := none } :: rest) ⟨fr n S, df, σ⟩ R := by
  cases md with
  | none => exact TO_load_c hx hv k
  | some B => exact TD_load_c hx hv k
theorem TX_load_p (hx : evS n S x = some (.ptr id off)) (hc : MC md σ id cs) (hv : loadA P t (cs.drop off) = some v) (k : TX P md ops rest ⟨fr n ((d, v) :: S), df, σ⟩ R) : TX P md ops ({ dst := some d, op := .load t x, type := ty, pos := ps, after := af, guard := none } :: rest) ⟨fr n S, df, σ⟩ R := by
  cases md with
  | none => exact TO_load_p hx hc hv k
  | some B => exact TD_load_p hx hc hv k
theorem TX_alloc (hz : zeroA P e = some v) (hB : MB md (σ ++ [.cells v.cells])) (k : TX P md ops rest ⟨fr n ((d, .ptr σ.length 0) :: S), df, σ ++ [.cells v.cells]⟩ R) : TX P md ops ({ dst := some d, op := .alloc e, type := ty, pos := ps, after := af, guard := none } :: rest) ⟨fr n S, df, σ⟩ R := TX_eff (by simp [plainOp, memOp, hz]) rfl hB k
theorem TX_box (hx : evS n S x = some v) (hB : MB md (σ ++ [.cells v.cells])) (k : TX P md ops rest ⟨fr n ((d, .ptr σ.length 0) :: S), df, σ ++ [.cells v.cells]⟩ R) : TX P md ops ({ dst := some d, op := .box e x, type := ty, pos := ps, after := af, guard := none } :: rest) ⟨fr n S, df, σ⟩ R := TX_eff (by simp [plainOp, memOp, ev_fr, hx]) rfl hB k
theorem TX_append {c : Call} (hc : c.callee = .builtin .append) (ha : c.args = #[x, y]) (hts : c.argTypes = #[t, e]) (hx : evS n S x = some u) (hy : evS n S y = some v) {r : AV} (hr : appendA P σ t e u v = some (r, σ')) (hB : MB md σ') (k : TX P md ops rest ⟨fr n ((d, r) :: S), df, σ'⟩ R) : TX P md ops ({ dst := some d, op := .call c, type := ty, pos := ps, after := af, guard := none } :: rest) ⟨fr n S, df, σ⟩ R :=
  TX_eff (by simp [plainOp, callB, hc, ha, hts, ev_fr, hx, hy, appendX_of hr]) (by simp [effK, hc]) hB k
theorem TX_conv_bytes {s : ByteArray} (hs : P.underlying t = some .string) (he : P.underlying e = some (.slice yt)) (hu : isU8 P yt = true) (hx : evS n S x = some (.str s)) (hz : s.size ≤ 9223372036854775807) (hB : MB md (σ ++ [AO.tok true])) (k : TX P md ops rest ⟨fr n ((d, .sl (strElems s) (.live σ.length)) :: S), df, σ ++ [AO.tok true]⟩ R) : TX P md ops ({ dst := some d, op := .convert t e x, type := ty, pos := ps, after := af, guard := none } :: rest) ⟨fr n S, df, σ⟩ R :=
  TX_eff (by simp [plainOp, convA, ev_fr, hx, hs, he, hu, hz]) (by simp [effK, he]) hB k
theorem TX_store (ha : evS n S x = some (.ptr id off)) (hc : σ[id]? = some (.cells cs)) (hx : evS n S y = some v) (hs : sizeA P t = some v.cells.length) (hl : off + v.cells.length ≤ cs.length) (ho : v.cells.all AV.one = true) (hB : MB md (σ.set id (.cells (putA cs off v.cells)))) (k : TX P md ops rest ⟨fr n S, df, σ.set id (.cells (putA cs off v.cells))⟩ R) : TX P md ops ({ dst := none, op := .store t x y, type := ty, pos := ps, after := af, guard := none } :: rest) ⟨fr n S, df, σ⟩ R :=
  TX_eff0 (v := .undef) (by simp only [plainOp, memOp, ev_fr, ha, hc, hx, Option.bind_some]; rw [if_pos ⟨hs, hl, ho⟩]) rfl hB k

theorem TX_guard_yes {j : Nat} {want b : Bool} {dj : Tmp} {od : Option Tmp} (hj : (ops[j]?).bind (·.dst) = some dj) (hb : evS n S (.tmp dj) = some (.bool b)) (hw : b = want) (ht : TX P md ops ({ dst := od, op := op, type := ty, pos := ps, after := af, guard := none } :: rest) ⟨fr n S, df, σ⟩ R) :
    TX P md ops ({ dst := od, op := op, type := ty, pos := ps, after := af, guard := some (j, want) } :: rest) ⟨fr n S, df, σ⟩ R := by
  cases md with
  | none => exact TO_guard_yes hj hb hw ht
  | some B => exact TD_guard_yes hj hb hw ht
theorem TX_guard_t {j : Nat} {b : Bool} {dj d : Tmp} (hj : (ops[j]?).bind (·.dst) = some dj) (hb : evS n S (.tmp dj) = some (.bool b)) (ht : b = true → TX P md ops ({ dst := some d, op := op, type := ty, pos := ps, after := af, guard := none } :: rest) ⟨fr n S, df, σ⟩ R) (hf : b = false → TX P md ops rest ⟨fr n ((d, .undef) :: S), df, σ⟩ R) :
    TX P md ops ({ dst := some d, op := op, type := ty, pos := ps, after := af, guard := some (j, true) } :: rest) ⟨fr n S, df, σ⟩ R := by
  cases md with
  | none => exact TO_guard_t hj hb ht hf
  | some B => exact TD_guard_t hj hb ht hf
theorem TX_guard_f {j : Nat} {b : Bool} {dj d : Tmp} (hj : (ops[j]?).bind (·.dst) = some dj) (hb : evS n S (.tmp dj) = some (.bool b)) (ht : b = true → TX P md ops rest ⟨fr n ((d, .undef) :: S), df, σ⟩ R) (hf : b = false → TX P md ops ({ dst := some d, op := op, type := ty, pos := ps, after := af, guard := none } :: rest) ⟨fr n S, df, σ⟩ R) :
    TX P md ops ({ dst := some d, op := op, type := ty, pos := ps, after := af, guard := some (j, false) } :: rest) ⟨fr n S, df, σ⟩ R := by
  cases md with
  | none => exact TO_guard_f hj hb ht hf
  | some B => exact TD_guard_f hj hb ht hf
theorem TX_guard_yes0 {j : Nat} {want b : Bool} {dj : Tmp} (hj : (ops[j]?).bind (·.dst) = some dj) (hb : evS n S (.tmp dj) = some (.bool b)) (hw : b = want) (ht : TX P md ops ({ dst := none, op := op, type := ty, pos := ps, after := af, guard := none } :: rest) ⟨fr n S, df, σ⟩ R) :
    TX P md ops ({ dst := none, op := op, type := ty, pos := ps, after := af, guard := some (j, want) } :: rest) ⟨fr n S, df, σ⟩ R := by
  cases md with
  | none => exact TO_guard_yes0 hj hb hw ht
  | some B => exact TD_guard_yes0 hj hb hw ht
theorem TX_move (h : evS n S x = some v) (k : TX P md ops rest ⟨fr n ((d, v) :: S), df, σ⟩ R) :
    TX P md ops ({ dst := some d, op := .move x, type := ty, pos := ps, after := af, guard := none } :: rest) ⟨fr n S, df, σ⟩ R := by
  cases md with
  | none => exact TO_move h k
  | some B => exact TD_move h k
theorem TX_assign (h : evS n S x = some v) (k : TX P md ops rest ⟨fr n ((d, v) :: S), df, σ⟩ R) :
    TX P md ops ({ dst := some d, op := .assign x, type := ty, pos := ps, after := af, guard := none } :: rest) ⟨fr n S, df, σ⟩ R := by
  cases md with
  | none => exact TO_assign h k
  | some B => exact TD_assign h k
theorem TX_pick_t {c : Operand} {b : Bool} (hc : evS n S c = some (.bool b)) (hb : b = true) (h : evS n S x = some v) (kk : TX P md ops rest ⟨fr n ((d, v) :: S), df, σ⟩ R) :
    TX P md ops ({ dst := some d, op := .pick c x y, type := ty, pos := ps, after := af, guard := none } :: rest) ⟨fr n S, df, σ⟩ R := by
  cases md with
  | none => exact TO_pick_t hc hb h kk
  | some B => exact TD_pick_t hc hb h kk
theorem TX_pick_f {c : Operand} {b : Bool} (hc : evS n S c = some (.bool b)) (hb : b = false) (h : evS n S y = some v) (kk : TX P md ops rest ⟨fr n ((d, v) :: S), df, σ⟩ R) :
    TX P md ops ({ dst := some d, op := .pick c x y, type := ty, pos := ps, after := af, guard := none } :: rest) ⟨fr n S, df, σ⟩ R := by
  cases md with
  | none => exact TO_pick_f hc hb h kk
  | some B => exact TD_pick_f hc hb h kk
theorem TX_cmp {k : IntKind} {a b : Int} {c : Bool} (hx : evS n S x = some (.int k a)) (hy : evS n S y = some (.int k b)) (hc : cmpR bop a b = some c) (kk : TX P md ops rest ⟨fr n ((d, .bool c) :: S), df, σ⟩ R) :
    TX P md ops ({ dst := some d, op := .binOp bop t x y yt, type := ty, pos := ps, after := af, guard := none } :: rest) ⟨fr n S, df, σ⟩ R := by
  cases md with
  | none => exact TO_cmp hx hy hc kk
  | some B => exact TD_cmp hx hy hc kk
theorem TX_ari {k : IntKind} {a b c : Int} (hx : evS n S x = some (.int k a)) (hy : evS n S y = some (.int k b)) (hc : ariR bop a b = some c) (kk : TX P md ops rest ⟨fr n ((d, .int k (k.wrap c)) :: S), df, σ⟩ R) :
    TX P md ops ({ dst := some d, op := .binOp bop t x y yt, type := ty, pos := ps, after := af, guard := none } :: rest) ⟨fr n S, df, σ⟩ R := by
  cases md with
  | none => exact TO_ari hx hy hc kk
  | some B => exact TD_ari hx hy hc kk
theorem TX_bit {k : IntKind} {a b c : Int} (hx : evS n S x = some (.int k a)) (hy : evS n S y = some (.int k b)) (hc : bitR k bop a b = some c) (kk : TX P md ops rest ⟨fr n ((d, .int k c) :: S), df, σ⟩ R) :
    TX P md ops ({ dst := some d, op := .binOp bop t x y yt, type := ty, pos := ps, after := af, guard := none } :: rest) ⟨fr n S, df, σ⟩ R := by
  cases md with
  | none => exact TO_bit hx hy hc kk
  | some B => exact TD_bit hx hy hc kk
theorem TX_div {k : IntKind} {a b c : Int} (hx : evS n S x = some (.int k a)) (hy : evS n S y = some (.int k b)) (hb : b ≠ 0) (hc : divR k bop a b = some c) (kk : TX P md ops rest ⟨fr n ((d, .int k c) :: S), df, σ⟩ R) :
    TX P md ops ({ dst := some d, op := .binOp bop t x y yt, type := ty, pos := ps, after := af, guard := none } :: rest) ⟨fr n S, df, σ⟩ R := by
  cases md with
  | none => exact TO_div hx hy hb hc kk
  | some B => exact TD_div hx hy hb hc kk
theorem TX_sh {k k2 : IntKind} {a b c : Int} (hx : evS n S x = some (.int k a)) (hy : evS n S y = some (.int k2 b)) (hb : 0 ≤ b) (hc : shR k bop a b.toNat = some c) (kk : TX P md ops rest ⟨fr n ((d, .int k c) :: S), df, σ⟩ R) :
    TX P md ops ({ dst := some d, op := .binOp bop t x y yt, type := ty, pos := ps, after := af, guard := none } :: rest) ⟨fr n S, df, σ⟩ R := by
  cases md with
  | none => exact TO_sh hx hy hb hc kk
  | some B => exact TD_sh hx hy hb hc kk
theorem TX_scmp {a b : ByteArray} {c : Bool} (hx : evS n S x = some (.str a)) (hy : evS n S y = some (.str b)) (hc : strR bop a b = some c) (kk : TX P md ops rest ⟨fr n ((d, .bool c) :: S), df, σ⟩ R) :
    TX P md ops ({ dst := some d, op := .binOp bop t x y yt, type := ty, pos := ps, after := af, guard := none } :: rest) ⟨fr n S, df, σ⟩ R := by
  cases md with
  | none => exact TO_scmp hx hy hc kk
  | some B => exact TD_scmp hx hy hc kk
theorem TX_scat {a b : ByteArray} (hx : evS n S x = some (.str a)) (hy : evS n S y = some (.str b)) (hl : a.size + b.size ≤ 9223372036854775807) (kk : TX P md ops rest ⟨fr n ((d, .str (a ++ b)) :: S), df, σ⟩ R) :
    TX P md ops ({ dst := some d, op := .binOp .add t x y yt, type := ty, pos := ps, after := af, guard := none } :: rest) ⟨fr n S, df, σ⟩ R := by
  cases md with
  | none => exact TO_scat hx hy hl kk
  | some B => exact TD_scat hx hy hl kk
theorem TX_beq {a b : Bool} (hx : evS n S x = some (.bool a)) (hy : evS n S y = some (.bool b)) (ht : P.underlying t = some .bool) (kk : TX P md ops rest ⟨fr n ((d, .bool (a == b)) :: S), df, σ⟩ R) :
    TX P md ops ({ dst := some d, op := .binOp .eql t x y yt, type := ty, pos := ps, after := af, guard := none } :: rest) ⟨fr n S, df, σ⟩ R := by
  cases md with
  | none => exact TO_beq hx hy ht kk
  | some B => exact TD_beq hx hy ht kk
theorem TX_bne {a b : Bool} (hx : evS n S x = some (.bool a)) (hy : evS n S y = some (.bool b)) (ht : P.underlying t = some .bool) (kk : TX P md ops rest ⟨fr n ((d, .bool (a != b)) :: S), df, σ⟩ R) :
    TX P md ops ({ dst := some d, op := .binOp .neq t x y yt, type := ty, pos := ps, after := af, guard := none } :: rest) ⟨fr n S, df, σ⟩ R := by
  cases md with
  | none => exact TO_bne hx hy ht kk
  | some B => exact TD_bne hx hy ht kk
theorem TX_not {a : Bool} (hx : evS n S x = some (.bool a)) (kk : TX P md ops rest ⟨fr n ((d, .bool (!a)) :: S), df, σ⟩ R) :
    TX P md ops ({ dst := some d, op := .unOp .not t x, type := ty, pos := ps, after := af, guard := none } :: rest) ⟨fr n S, df, σ⟩ R := by
  cases md with
  | none => exact TO_not hx kk
  | some B => exact TD_not hx kk
theorem TX_neg {k : IntKind} {a : Int} (hx : evS n S x = some (.int k a)) (kk : TX P md ops rest ⟨fr n ((d, .int k (k.wrap (0 - a))) :: S), df, σ⟩ R) :
    TX P md ops ({ dst := some d, op := .unOp .neg t x, type := ty, pos := ps, after := af, guard := none } :: rest) ⟨fr n S, df, σ⟩ R := by
  cases md with
  | none => exact TO_neg hx kk
  | some B => exact TD_neg hx kk
theorem TX_convInt {k j : IntKind} {a : Int} {td : TypeDesc} (hx : evS n S x = some (.int k a)) (ht : P.underlying t = some td) (he : P.underlying e = some (.int j)) (kk : TX P md ops rest ⟨fr n ((d, .int j (j.wrap a)) :: S), df, σ⟩ R) :
    TX P md ops ({ dst := some d, op := .convert t e x, type := ty, pos := ps, after := af, guard := none } :: rest) ⟨fr n S, df, σ⟩ R := by
  cases md with
  | none => exact TO_convInt hx ht he kk
  | some B => exact TD_convInt hx ht he kk
theorem TX_sidx {k : IntKind} {i : Int} {s : ByteArray} {b : UInt8} (hx : evS n S x = some (.str s)) (hy : evS n S y = some (.int k i)) (ht : P.underlying t = some .string) (h0 : 0 ≤ i) (hb : s[i.toNat]? = some b) (kk : TX P md ops rest ⟨fr n ((d, .int .u8 b.toNat) :: S), df, σ⟩ R) :
    TX P md ops ({ dst := some d, op := .index t x y, type := ty, pos := ps, after := af, guard := none } :: rest) ⟨fr n S, df, σ⟩ R := by
  cases md with
  | none => exact TO_sidx hx hy ht h0 hb kk
  | some B => exact TD_sidx hx hy ht h0 hb kk
theorem TX_ssl_lo {k : IntKind} {i : Int} {s : ByteArray} (hx : evS n S x = some (.str s)) (ht : P.underlying t = some .string) (hi : evS n S y = some (.int k i)) (h0 : 0 ≤ i) (h1 : i ≤ s.size) (kk : TX P md ops rest ⟨fr n ((d, .str (s.extract i.toNat s.size)) :: S), df, σ⟩ R) :
    TX P md ops ({ dst := some d, op := .slice t x (some y) none none, type := ty, pos := ps, after := af, guard := none } :: rest) ⟨fr n S, df, σ⟩ R := by
  cases md with
  | none => exact TO_ssl_lo hx ht hi h0 h1 kk
  | some B => exact TD_ssl_lo hx ht hi h0 h1 kk
theorem TX_ssl_hi {k : IntKind} {i : Int} {s : ByteArray} (hx : evS n S x = some (.str s)) (ht : P.underlying t = some .string) (hi : evS n S y = some (.int k i)) (h0 : 0 ≤ i) (h1 : i ≤ s.size) (kk : TX P md ops rest ⟨fr n ((d, .str (s.extract 0 i.toNat)) :: S), df, σ⟩ R) :
    TX P md ops ({ dst := some d, op := .slice t x none (some y) none, type := ty, pos := ps, after := af, guard := none } :: rest) ⟨fr n S, df, σ⟩ R := by
  cases md with
  | none => exact TO_ssl_hi hx ht hi h0 h1 kk
  | some B => exact TD_ssl_hi hx ht hi h0 h1 kk
theorem TX_ssl {k j : IntKind} {i m : Int} {y' : Operand} {s : ByteArray} (hx : evS n S x = some (.str s)) (ht : P.underlying t = some .string) (hi : evS n S y = some (.int k i)) (hm : evS n S y' = some (.int j m)) (h0 : 0 ≤ i) (h1 : i ≤ m) (h2 : m ≤ s.size) (kk : TX P md ops rest ⟨fr n ((d, .str (s.extract i.toNat m.toNat)) :: S), df, σ⟩ R) :
    TX P md ops ({ dst := some d, op := .slice t x (some y) (some y') none, type := ty, pos := ps, after := af, guard := none } :: rest) ⟨fr n S, df, σ⟩ R := by
  cases md with
  | none => exact TO_ssl hx ht hi hm h0 h1 h2 kk
  | some B => exact TD_ssl hx ht hi hm h0 h1 h2 kk
theorem TX_slen {s : ByteArray} {c : Call} (hc : c.callee = .builtin .len) (ha : c.args = #[x]) (htt : c.argTypes = #[t]) (hx : evS n S x = some (.str s)) (ht : P.underlying t = some .string) (kk : TX P md ops rest ⟨fr n ((d, .int .i64 s.size) :: S), df, σ⟩ R) :
    TX P md ops ({ dst := some d, op := .call c, type := ty, pos := ps, after := af, guard := none } :: rest) ⟨fr n S, df, σ⟩ R := by
  cases md with
  | none => exact TO_slen hc ha htt hx ht kk
  | some B => exact TD_slen hc ha htt hx ht kk
theorem TX_llen {l : List AV} {tk : Tok} {c : Call} (hc : c.callee = .builtin .len) (ha : c.args = #[x]) (htt : c.argTypes = #[t]) (hx : evS n S x = some (.sl l tk)) (ht : P.underlying t = some (.slice e)) (kk : TX P md ops rest ⟨fr n ((d, .int .i64 l.length) :: S), df, σ⟩ R) :
    TX P md ops ({ dst := some d, op := .call c, type := ty, pos := ps, after := af, guard := none } :: rest) ⟨fr n S, df, σ⟩ R := by
  cases md with
  | none => exact TO_llen hc ha htt hx ht kk
  | some B => exact TD_llen hc ha htt hx ht kk
theorem TX_extract {vs : List AV} (hx : evS n S x = some (.tup vs)) (hv : vs[i]? = some v) (k : TX P md ops rest ⟨fr n ((d, v) :: S), df, σ⟩ R) :
    TX P md ops ({ dst := some d, op := .extract x i, type := ty, pos := ps, after := af, guard := none } :: rest) ⟨fr n S, df, σ⟩ R := by
  cases md with
  | none => exact TO_extract hx hv k
  | some B => exact TD_extract hx hv k
theorem TX_field (hf : fieldA P t f = some (ft, off)) (hx : evS n S x = some (.agg cs)) (hv : partA P ft cs off = some v) (k : TX P md ops rest ⟨fr n ((d, v) :: S), df, σ⟩ R) :
    TX P md ops ({ dst := some d, op := .field t x f, type := ty, pos := ps, after := af, guard := none } :: rest) ⟨fr n S, df, σ⟩ R := by
  cases md with
  | none => exact TO_field hf hx hv k
  | some B => exact TD_field hf hx hv k
theorem TX_fieldAddr_c (hf : fieldA P t f = some (ft, off)) (hz : sizeA P ft = some (z + 1)) (hx : evS n S x = some (.cptr cs)) (k : TX P md ops rest ⟨fr n ((d, .cptr (cs.drop off)) :: S), df, σ⟩ R) :
    TX P md ops ({ dst := some d, op := .fieldAddr t x f, type := ty, pos := ps, after := af, guard := none } :: rest) ⟨fr n S, df, σ⟩ R := by
  cases md with
  | none => exact TO_fieldAddr_c hf hz hx k
  | some B => exact TD_fieldAddr_c hf hz hx k
theorem TX_fieldAddr_p (hf : fieldA P t f = some (ft, off)) (hz : sizeA P ft = some (z + 1)) (hx : evS n S x = some (.ptr id o)) (k : TX P md ops rest ⟨fr n ((d, .ptr id (o + off)) :: S), df, σ⟩ R) :
    TX P md ops ({ dst := some d, op := .fieldAddr t x f, type := ty, pos := ps, after := af, guard := none } :: rest) ⟨fr n S, df, σ⟩ R := by
  cases md with
  | none => exact TO_fieldAddr_p hf hz hx k
  | some B => exact TD_fieldAddr_p hf hz hx k
theorem TX_nil_p (hx : evS n S x = some (.ptr id off)) (k : TX P md ops rest ⟨fr n ((d, .ptr id off) :: S), df, σ⟩ R) :
    TX P md ops ({ dst := some d, op := .nilCheck x, type := ty, pos := ps, after := af, guard := none } :: rest) ⟨fr n S, df, σ⟩ R := by
  cases md with
  | none => exact TO_nil_p hx k
  | some B => exact TD_nil_p hx k
theorem TX_nil_c (hx : evS n S x = some (.cptr cs)) (k : TX P md ops rest ⟨fr n ((d, .cptr cs) :: S), df, σ⟩ R) :
    TX P md ops ({ dst := some d, op := .nilCheck x, type := ty, pos := ps, after := af, guard := none } :: rest) ⟨fr n S, df, σ⟩ R := by
  cases md with
  | none => exact TO_nil_c hx k
  | some B => exact TD_nil_c hx k
theorem TX_nil_f {g : FuncId} {fs gs : List AV} (hx : evS n S x = some (.fn (.func g) fs gs)) (k : TX P md ops rest ⟨fr n ((d, .fn (.func g) fs gs) :: S), df, σ⟩ R) :
    TX P md ops ({ dst := some d, op := .nilCheck x, type := ty, pos := ps, after := af, guard := none } :: rest) ⟨fr n S, df, σ⟩ R := by
  cases md with
  | none => exact TO_nil_f hx k
  | some B => exact TD_nil_f hx k
theorem TX_idx_sl {k : IntKind} {j : Int} {l : List AV} (ht : P.underlying t = some (.slice e)) (hz : sizeA P e = some z) (hx : evS n S x = some (.sl l tk)) (hy : evS n S y = some (.int k j)) (h0 : 0 ≤ j) (hl : l[j.toNat]? = some v) (hv : v.cells.length = z) (kk : TX P md ops rest ⟨fr n ((d, .cptr v.cells) :: S), df, σ⟩ R) :
    TX P md ops ({ dst := some d, op := .indexAddr t x y, type := ty, pos := ps, after := af, guard := none } :: rest) ⟨fr n S, df, σ⟩ R := by
  cases md with
  | none => exact TO_idx_sl ht hz hx hy h0 hl hv kk
  | some B => exact TD_idx_sl ht hz hx hy h0 hl hv kk
theorem TX_idx_ac {k : IntKind} {j : Int} (ht : P.underlying t = some (.array len e)) (hz : sizeA P e = some z) (hx : evS n S x = some (.cptr cs)) (hy : evS n S y = some (.int k j)) (h0 : 0 ≤ j) (hl : j.toNat < len) (kk : TX P md ops rest ⟨fr n ((d, .cptr (cs.drop (j.toNat * z))) :: S), df, σ⟩ R) :
    TX P md ops ({ dst := some d, op := .indexAddr t x y, type := ty, pos := ps, after := af, guard := none } :: rest) ⟨fr n S, df, σ⟩ R := by
  cases md with
  | none => exact TO_idx_ac ht hz hx hy h0 hl kk
  | some B => exact TD_idx_ac ht hz hx hy h0 hl kk
theorem TX_idx_ap {k : IntKind} {j : Int} (ht : P.underlying t = some (.array len e)) (hz : sizeA P e = some z) (hx : evS n S x = some (.ptr id off)) (hy : evS n S y = some (.int k j)) (h0 : 0 ≤ j) (hl : j.toNat < len) (kk : TX P md ops rest ⟨fr n ((d, .ptr id (off + j.toNat * z)) :: S), df, σ⟩ R) :
    TX P md ops ({ dst := some d, op := .indexAddr t x y, type := ty, pos := ps, after := af, guard := none } :: rest) ⟨fr n S, df, σ⟩ R := by
  cases md with
  | none => exact TO_idx_ap ht hz hx hy h0 hl kk
  | some B => exact TD_idx_ap ht hz hx hy h0 hl kk
theorem TX_idx_ms {k : IntKind} {j : Int} {cap : Nat} (ht : P.underlying t = some (.slice e)) (hz : sizeA P e = some z) (hx : evS n S x = some (.msl id off len cap)) (hy : evS n S y = some (.int k j)) (h0 : 0 ≤ j) (hl : j.toNat < len) (kk : TX P md ops rest ⟨fr n ((d, .ptr id (off + j.toNat * z)) :: S), df, σ⟩ R) :
    TX P md ops ({ dst := some d, op := .indexAddr t x y, type := ty, pos := ps, after := af, guard := none } :: rest) ⟨fr n S, df, σ⟩ R := by
  cases md with
  | none => exact TO_idx_ms ht hz hx hy h0 hl kk
  | some B => exact TD_idx_ms ht hz hx hy h0 hl kk
theorem TX_index_agg {k : IntKind} {j : Int} (ht : P.underlying t = some (.array len e)) (hz : sizeA P e = some z) (hx : evS n S x = some (.agg cs)) (hy : evS n S y = some (.int k j)) (h0 : 0 ≤ j) (hl : j.toNat < len) (hv : partA P e cs (j.toNat * z) = some v) (kk : TX P md ops rest ⟨fr n ((d, v) :: S), df, σ⟩ R) :
    TX P md ops ({ dst := some d, op := .index t x y, type := ty, pos := ps, after := af, guard := none } :: rest) ⟨fr n S, df, σ⟩ R := by
  cases md with
  | none => exact TO_index_agg ht hz hx hy h0 hl hv kk
  | some B => exact TD_index_agg ht hz hx hy h0 hl hv kk
theorem TX_lsl {l : List AV} {lo hi : Option Operand} {a b : Int} (ht : P.underlying t = some (.slice e)) (hz : sizeA P e = some z) (hx : evS n S x = some (.sl l tk)) (hlo : natBS n S 0 lo = some a) (hhi : natBS n S l.length hi = some b) (h0 : 0 ≤ a) (h1 : a ≤ b) (h2 : b ≤ l.length) (hk : sizeOK z l = true) (kk : TX P md ops rest ⟨fr n ((d, .sl ((l.take b.toNat).drop a.toNat) (if b.toNat = l.length then (if a.toNat = 0 then tk else if tk = .full then .full else .dead) else .dead)) :: S), df, σ⟩ R) :
    TX P md ops ({ dst := some d, op := .slice t x lo hi none, type := ty, pos := ps, after := af, guard := none } :: rest) ⟨fr n S, df, σ⟩ R := by
  cases md with
  | none => exact TO_lsl ht hz hx hlo hhi h0 h1 h2 hk kk
  | some B => exact TD_lsl ht hz hx hlo hhi h0 h1 h2 hk kk
theorem TX_build {parts : Array (Nat × Operand)} {zv : AV} {pl : Nat → Option (Nat × Nat)} {qs : List (Nat × AV)} (hz : zeroA P t = some zv) (hp : placesA P t = some pl) (hq : partsS n S parts.toList = some qs) (hv : fillA pl zv.cells qs = some cs) (k : TX P md ops rest ⟨fr n ((d, .agg cs) :: S), df, σ⟩ R) :
    TX P md ops ({ dst := some d, op := .build t parts, type := ty, pos := ps, after := af, guard := none } :: rest) ⟨fr n S, df, σ⟩ R := by
  cases md with
  | none => exact TO_build hz hp hq hv k
  | some B => exact TD_build hz hp hq hv k
theorem TX_buildSlice {parts : Array (Nat × Operand)} {zv : AV} {vs : List AV} (ht : P.underlying t = some (.slice e)) (hz : sizeA P e = some z) (hzv : zeroA P e = some zv) (hq : evsS n S (parts.toList.map (·.2)) = some vs) (hc : parts.toList.map (·.1) = List.range len ∧ z ≠ 0 ∧ zv.cells.length = z ∧ len * z ≤ 16777216 ∧ (vs.all fun v => v.cells.length == z) = true) (k : TX P md ops rest ⟨fr n ((d, .sl vs .full) :: S), df, σ⟩ R) :
    TX P md ops ({ dst := some d, op := .buildSlice t len parts, type := ty, pos := ps, after := af, guard := none } :: rest) ⟨fr n S, df, σ⟩ R := by
  cases md with
  | none => exact TO_buildSlice ht hz hzv hq hc k
  | some B => exact TD_buildSlice ht hz hzv hq hc k
theorem TX_makeFunc {fn : Fn} {first cap : Array Operand} {fs gs : List AV} (hf : evsS n S first.toList = some fs) (hg : evsS n S cap.toList = some gs) (k : TX P md ops rest ⟨fr n ((d, .fn fn fs gs) :: S), df, σ⟩ R) :
    TX P md ops ({ dst := some d, op := .makeFunc fn first cap, type := ty, pos := ps, after := af, guard := none } :: rest) ⟨fr n S, df, σ⟩ R := by
  cases md with
  | none => exact TO_makeFunc hf hg k
  | some B => exact TD_makeFunc hf hg k
theorem TX_iface (ht : ∀ ms, P.underlying t ≠ some (.interface ms)) (hs : (P.underlying t).isSome = true) (hx : evS n S x = some v) (k : TX P md ops rest ⟨fr n ((d, .iface t v) :: S), df, σ⟩ R) :
    TX P md ops ({ dst := some d, op := .makeInterface t x, type := ty, pos := ps, after := af, guard := none } :: rest) ⟨fr n S, df, σ⟩ R := by
  cases md with
  | none => exact TO_iface ht hs hx k
  | some B => exact TD_iface ht hs hx k
theorem TX_conv_text {l : List AV} {ns : List Int} (hs : P.underlying t = some (.slice yt)) (hu : isU8 P yt = true) (he : P.underlying e = some .string) (hx : evS n S x = some (.sl l tk)) (hl : bytesA l = some ns) (k : TX P md ops rest ⟨fr n ((d, .str (strOfNums ns)) :: S), df, σ⟩ R) :
    TX P md ops ({ dst := some d, op := .convert t e x, type := ty, pos := ps, after := af, guard := none } :: rest) ⟨fr n S, df, σ⟩ R := by
  cases md with
  | none => exact TO_conv_text hs hu he hx hl k
  | some B => exact TD_conv_text hs hu he hx hl k
theorem TX_guard_no_t {j : Nat} {b : Bool} {dj d : Tmp} (hj : (ops[j]?).bind (·.dst) = some dj) (hb : evS n S (.tmp dj) = some (.bool b)) (hw : b = false) (hf : TX P md ops rest ⟨fr n ((d, .undef) :: S), df, σ⟩ R) :
    TX P md ops ({ dst := some d, op := op, type := ty, pos := ps, after := af, guard := some (j, true) } :: rest) ⟨fr n S, df, σ⟩ R := by
  cases md with
  | none => exact TO_guard_no_t hj hb hw hf
  | some B => exact TD_guard_no_t hj hb hw hf
theorem TX_guard_no_f {j : Nat} {b : Bool} {dj d : Tmp} (hj : (ops[j]?).bind (·.dst) = some dj) (hb : evS n S (.tmp dj) = some (.bool b)) (hw : b = true) (hf : TX P md ops rest ⟨fr n ((d, .undef) :: S), df, σ⟩ R) :
    TX P md ops ({ dst := some d, op := op, type := ty, pos := ps, after := af, guard := some (j, false) } :: rest) ⟨fr n S, df, σ⟩ R := by
  cases md with
  | none => exact TO_guard_no_f hj hb hw hf
  | some B => exact TD_guard_no_f hj hb hw hf
theorem TX_guard_un {j : Nat} {want : Bool} {dj d : Tmp} (hj : (ops[j]?).bind (·.dst) = some dj) (hb : evS n S (.tmp dj) = some .undef) (hf : TX P md ops rest ⟨fr n ((d, .undef) :: S), df, σ⟩ R) :
    TX P md ops ({ dst := some d, op := op, type := ty, pos := ps, after := af, guard := some (j, want) } :: rest) ⟨fr n S, df, σ⟩ R := by
  cases md with
  | none => exact TO_guard_un hj hb hf
  | some B => exact TD_guard_un hj hb hf

theorem TE_seqX {id : Nat} {l : List Oper} {x : AS} {Q : AE → AS → Prop} (h : TX P none l.toArray l x (Q .normal)) : TE P (.region id l.toArray false) x Q := TE_region h
theorem TE_drawX (B : Mem → Prop) {id : Nat} {l : List Oper} {x : AS} {Q : AE → AS → Prop} (hm : P.follows .mixedOrders = true) (hok : okRegion l.toArray (effAt P l.toArray) = true) (hB : B x.σ) (h : TX P (some B) l.toArray l x (Q .normal)) : TE P (.region id l.toArray true) x Q := by
  obtain ⟨x', h1, h2⟩ := h
  exact ⟨_, x', T_drawD hm hok hB (by simpa using h1), h2⟩
end
end Go.Proofs.Ytihbdelgoapeoaa.K
