/- Abstract values and what the machine makes of them: part D. -/
import Derived.Test.YtihbdelgoapeoaaKKC
/- A region that draws its order, as a program. -/
namespace Go.Proofs.Ytihbdelgoapeoaa.K
open Go Go.RowKit
set_option linter.unusedSimpArgs false
set_option linter.unusedVariables false

mutual
def AV.beq : AV → AV → Bool
  | .bool a, .bool b => a == b
  | .int k a, .int l b => decide (k = l) && a == b
  | .float k a, .float l b => decide (k = l) && a == b
  | .str a, .str b => decide (a = b)
  | .nilp, .nilp => true
  | .ptr a b, .ptr c d => a == c && b == d
  | .cptr a, .cptr b => AV.beqs a b
  | .nils, .nils => true
  | .sl a t, .sl b u => AV.beqs a b && decide (t = u)
  | .msl a b c d, .msl e f g h => a == e && b == f && c == g && d == h
  | .fn f a b, .fn g c d => decide (f = g) && AV.beqs a c && AV.beqs b d
  | .nilf, .nilf => true
  | .iface t v, .iface u w => t == u && AV.beq v w
  | .nili, .nili => true
  | .agg a, .agg b => AV.beqs a b
  | .tup a, .tup b => AV.beqs a b
  | _, _ => false
def AV.beqs : List AV → List AV → Bool
  | [], [] => true
  | x :: xs, y :: ys => AV.beq x y && AV.beqs xs ys
  | _, _ => false
end

mutual
theorem AV.beq_eq : ∀ {x y : AV}, AV.beq x y = true → x = y := by
  intro x y h
  cases x <;> cases y <;> simp only [AV.beq, Bool.false_eq_true, Bool.and_eq_true, beq_iff_eq, decide_eq_true_eq] at h
  case bool.bool => rw [h]
  case int.int => rw [h.1, h.2]
  case float.float => rw [h.1, h.2]
  case str.str => rw [h]
  case nilp.nilp => rfl
  case ptr.ptr => rw [h.1, h.2]
  case cptr.cptr => rw [AV.beqs_eq h]
  case nils.nils => rfl
  case sl.sl => rw [AV.beqs_eq h.1, h.2]
  case msl.msl => rw [h.1.1.1, h.1.1.2, h.1.2, h.2]
  case fn.fn => rw [h.1.1, AV.beqs_eq h.1.2, AV.beqs_eq h.2]
  case nilf.nilf => rfl
  case iface.iface => rw [h.1, AV.beq_eq h.2]
  case nili.nili => rfl
  case agg.agg => rw [AV.beqs_eq h]
  case tup.tup => rw [AV.beqs_eq h]
theorem AV.beqs_eq : ∀ {x y : List AV}, AV.beqs x y = true → x = y := by
  intro x y h
  cases x <;> cases y <;> simp only [AV.beqs, Bool.false_eq_true, Bool.and_eq_true] at h
  case nil.nil => rfl
  case cons.cons => rw [AV.beq_eq h.1, AV.beqs_eq h.2]
end

mutual
theorem AV.beq_refl : ∀ (x : AV), AV.beq x x = true := by
  intro x
  cases x <;> simp [AV.beq, AV.beqs_refl, AV.beq_refl]
theorem AV.beqs_refl : ∀ (x : List AV), AV.beqs x x = true := by
  intro x
  cases x <;> simp [AV.beqs, AV.beqs_refl, AV.beq_refl]
end

/-- Elements of one cell each? -/
def singleE (P : Program) (t : TypeId) : Bool := match P.underlying t with
  | some (.slice e) => (match P.info? e with | some i => i.size == 1 | none => true)
  | _ => true
/-- May the operation change the memory, or give a number away? -/
def effK (P : Program) : Op → Bool
  | .call c => match c.callee with
    | .builtin .append => true
    | .builtin _ => false
    | _ => true
  | .store .. | .alloc _ | .box .. | .defer _ => true
  | .makeSlice t _ _ => singleE P t
  | .convert _ dst _ => match P.underlying dst with
    | some (.slice _) => true
    | _ => false
  | _ => false

def isLoad : Op → Bool
  | .load .. => true
  | _ => false

theorem map_free {X : Option AV} {σ σ' σ2 : Mem} {v : AV} (h : X.map (fun v => (v, σ)) = some (v, σ')) : σ' = σ ∧ X.map (fun v => (v, σ2)) = some (v, σ2) := by
  simp only [Option.map_eq_some_iff, Prod.mk.injEq] at h
  obtain ⟨u, rfl, rfl, rfl⟩ := h
  exact ⟨rfl, rfl⟩

theorem callB_free {P : Program} {s : Fr} {σ σ' σ2 : Mem} {c : Call} {ty : TypeId} {v : AV} (he : effK P (.call c) = false) (h : callB P s σ c ty = some (v, σ')) : σ' = σ ∧ callB P s σ2 c ty = some (v, σ2) := by
  unfold callB at h ⊢
  split at h
  · rename_i hb
    simp [effK, hb] at he
  · rename_i b hb hne
    exact map_free h
  · cases h

/-- What depends on the memory in nothing. -/
def Free (X : Mem → Option (AV × Mem)) : Prop := ∀ σ σ' σ2 v, X σ = some (v, σ') → σ' = σ ∧ X σ2 = some (v, σ2)

theorem none_free : Free (fun _ => none) := fun σ σ' σ2 v h => by cases h
theorem some_free (u : AV) : Free (fun σ => some (u, σ)) := fun σ σ' σ2 v h => by
  simp only [Option.some.injEq, Prod.mk.injEq] at h
  obtain ⟨rfl, rfl⟩ := h
  exact ⟨rfl, rfl⟩
theorem maps_free (Y : Option AV) : Free (fun σ => Y.map fun v => (v, σ)) := fun σ σ' σ2 v h => map_free h
theorem mapf_free {α : Type} (Y : Option α) (f : α → AV) : Free (fun σ => Y.map fun v => (f v, σ)) := fun σ σ' σ2 v h => by
  simp only [Option.map_eq_some_iff, Prod.mk.injEq] at h
  obtain ⟨u, rfl, rfl, rfl⟩ := h
  exact ⟨rfl, rfl⟩
theorem bind_free {α : Type} {Y : Option α} {F : α → Mem → Option (AV × Mem)} (h : ∀ u, Free (F u)) : Free (fun σ => Y.bind fun u => F u σ) := fun σ σ' σ2 v hh => by
  simp only [Option.bind_eq_some_iff] at hh ⊢
  obtain ⟨u, rfl, hu⟩ := hh
  exact ⟨(h u σ σ' σ2 v hu).1, u, rfl, (h u σ σ' σ2 v hu).2⟩
theorem ite_free {c : Prop} [Decidable c] {X Y : Mem → Option (AV × Mem)} (h : Free X) (k : Free Y) : Free (fun σ => if c then X σ else Y σ) := fun σ σ' σ2 v hh => by
  show σ' = σ ∧ (if c then X σ2 else Y σ2) = some (v, σ2)
  split at hh
  · rename_i hc; rw [if_pos hc]; exact h σ σ' σ2 v hh
  · rename_i hc; rw [if_neg hc]; exact k σ σ' σ2 v hh

theorem make_free {P : Program} {s : Fr} {t : TypeId} {l c : Operand} (he : singleE P t = false) : Free (fun σ => memOp P s σ (.makeSlice t l c)) := by
  intro σ σ' σ2 v h
  simp only [memOp, Option.bind_eq_some_iff] at h ⊢
  obtain ⟨d, hd, h⟩ := h
  cases d <;> simp only [reduceCtorEq, Option.bind_eq_some_iff] at h
  case slice e =>
    obtain ⟨it, hit, zv, hzv, lv, hlv, h⟩ := h
    have hne : ¬ it.size = 1 := by
      intro e1
      simp [singleE, hd, hit, e1] at he
    cases lv <;> (try simp only [reduceCtorEq] at h)
    rename_i k n
    cases k <;> simp only [reduceCtorEq, Option.bind_eq_some_iff] at h
    obtain ⟨cv, hcv, h⟩ := h
    cases cv <;> (try simp only [reduceCtorEq] at h)
    rename_i k m
    cases k <;> simp only [reduceCtorEq] at h
    rw [if_neg (by rintro ⟨_, _, _, _, _, h9⟩; exact hne h9)] at h
    split at h
    · rename_i hc
      simp only [Option.some.injEq, Prod.mk.injEq] at h
      obtain ⟨rfl, rfl⟩ := h
      refine ⟨rfl, _, hd, ?_⟩
      simp only [Option.bind_eq_some_iff]
      refine ⟨it, hit, zv, hzv, _, hlv, ?_⟩
      simp only [Option.bind_eq_some_iff]
      refine ⟨_, hcv, ?_⟩
      simp only
      rw [if_neg (by rintro ⟨_, _, _, _, _, h9⟩; exact hne h9), if_pos hc]
    · cases h
theorem memOp_free {P : Program} {s : Fr} {op : Op} (he : effK P op = false) (hl : isLoad op = false) : Free (fun σ => memOp P s σ op) := by
  cases op <;> dsimp only [memOp] <;> first
    | exact none_free
    | (simp [effK] at he; done)
    | exact make_free (by simpa [effK] using he)
    | (simp [isLoad] at hl; done)
    | exact maps_free _
    | skip
  case pick c x y =>
    refine bind_free fun u => ?_
    cases u <;> (try dsimp only) <;> first | exact none_free | exact maps_free _
  case nilCheck x =>
    refine bind_free fun u => ?_
    cases u <;> (try dsimp only) <;> first | exact none_free | exact some_free _ | skip
    rename_i f _ _
    cases f <;> (try dsimp only) <;> first | exact none_free | exact some_free _
  case makeInterface t x =>
    refine bind_free fun u => ?_
    cases u <;> (try dsimp only) <;> first | exact none_free | exact mapf_free _ _
  case makeFunc f a b => exact bind_free fun u => mapf_free _ _
  case fieldAddr t x f =>
    refine bind_free fun u => ?_
    obtain ⟨ft, off⟩ := u
    try dsimp only
    refine bind_free fun n => ite_free none_free (bind_free fun u => ?_)
    cases u <;> (try dsimp only) <;> first | exact none_free | exact some_free _
  case field t x f =>
    refine bind_free fun u => ?_
    obtain ⟨ft, off⟩ := u
    try dsimp only
    refine bind_free fun u => ?_
    cases u <;> (try dsimp only) <;> first | exact none_free | exact maps_free _
  case extract x i =>
    refine bind_free fun u => ?_
    cases u <;> (try dsimp only) <;> first | exact none_free | exact maps_free _
  case indexAddr t x i =>
    refine bind_free fun n => ite_free none_free (bind_free fun d => ?_)
    cases d <;> (try dsimp only) <;> first | exact none_free | skip
    all_goals
      refine bind_free fun z => bind_free fun u => ?_
      cases u <;> (try dsimp only) <;> first
        | exact none_free
        | exact ite_free (some_free _) none_free
        | exact bind_free fun v => ite_free (some_free _) none_free
  case index t x i =>
    refine bind_free fun n => ite_free none_free (bind_free fun d => ?_)
    cases d <;> (try dsimp only) <;> first | exact none_free | skip
    refine bind_free fun z => bind_free fun u => ?_
    cases u <;> (try dsimp only) <;> first
      | exact none_free
      | exact ite_free (maps_free _) none_free
  case slice t x lo hi mx =>
    refine bind_free fun d => ?_
    cases d <;> (try dsimp only) <;> first | exact none_free | skip
    all_goals
      refine bind_free fun z => bind_free fun u => ?_
      cases u <;> (try dsimp only) <;> first
        | exact none_free
        | exact bind_free fun a => bind_free fun b => bind_free fun m => ite_free none_free (maps_free _)
  case build t parts => exact bind_free fun z => bind_free fun pl => bind_free fun ps => mapf_free _ _
  case buildSlice t n parts =>
    refine bind_free fun d => ?_
    cases d <;> (try dsimp only) <;> first | exact none_free | skip
    exact bind_free fun z => bind_free fun zv => bind_free fun vs => ite_free (some_free _) none_free

/-- An operation that neither reads the memory nor changes it. -/
theorem free_op {P : Program} {s : Fr} {op : Op} {ty : TypeId} (he : effK P op = false) (hl : isLoad op = false) : Free (fun σ => plainOp P s σ op ty) := by
  have hm := memOp_free (s := s) he hl
  cases op <;> dsimp only [plainOp] <;> first
    | exact hm
    | exact maps_free _
    | skip
  case convert a b x =>
    cases hv : ev s x with
    | none => exact maps_free _
    | some v =>
      cases v with
      | sl l tk =>
        dsimp only
        simp only [convA, hv, Option.bind_some]
        cases hA : P.underlying a with
        | none => exact none_free
        | some d1 =>
          cases hB : P.underlying b with
          | none => cases d1 <;> exact none_free
          | some d2 =>
            cases d1 <;> cases d2 <;> first
              | exact none_free
              | exact ite_free (mapf_free _ _) none_free
      | str tx =>
        dsimp only
        cases hB : P.underlying b with
        | none => exact maps_free _
        | some d =>
          cases d <;> first
            | exact maps_free _
            | (simp [effK, hB] at he)
      | _ => exact maps_free _
  case slice t x lo hi mx =>
    cases hv : ev s x with
    | none => exact maps_free _
    | some v => cases v <;> (try dsimp only) <;> first | exact hm | exact maps_free _
  case index t x i =>
    cases hv : ev s x with
    | none => exact maps_free _
    | some v => cases v <;> (try dsimp only) <;> first | exact hm | exact maps_free _
  case call c => exact fun σ σ' σ2 v h => callB_free he h

/-- A load leaves the memory alone. -/
theorem load_still {P : Program} {s : Fr} {σ σ' : Mem} {op : Op} {ty : TypeId} {v : AV} (hl : isLoad op = true) (h : plainOp P s σ op ty = some (v, σ')) : σ' = σ := by
  cases op <;> simp [isLoad] at hl
  rename_i t x
  simp only [plainOp, memOp, Option.bind_eq_some_iff] at h
  obtain ⟨u, hu, h⟩ := h
  cases u <;> simp only [reduceCtorEq, Option.map_eq_some_iff, Option.bind_eq_some_iff, Prod.mk.injEq] at h
  · obtain ⟨ob, hob, h⟩ := h
    cases ob <;> simp only [reduceCtorEq, Option.map_eq_some_iff, Prod.mk.injEq] at h
    obtain ⟨z, hz, rfl, rfl⟩ := h
    rfl
  · obtain ⟨z, hz, rfl, rfl⟩ := h
    rfl

/-! ### The region as a program -/
/-- The values and the states behind the operations. -/
def drawRun (C : CallT) (P : Program) (ops : Array Oper) : List Oper → AS → Option (List (AV × AS))
  | [], _ => some []
  | o :: rest, x =>
    (wantedA ops x.tm o).bind fun b => if b = true then
      match o.op with
      | .defer _ => none
      | _ => (opF C P x o).bind fun (v, x1) => (drawRun C P ops rest (x1.put o.dst v)).map fun l => (v, x1.put o.dst v) :: l
    else (drawRun C P ops rest (x.put o.dst .undef)).map fun l => (.undef, x.put o.dst .undef) :: l

def effAt (P : Program) (ops : Array Oper) (i : Nat) : Bool :=
  match ops[i]? with
  | some o => effK P o.op
  | none => false

/-- May operation i come up when just those operations of E have come up that stand below place k? -/
def feas (P : Program) (ops : Array Oper) (i k : Nat) : Bool :=
  (List.range ops.size).all fun j => !effAt P ops j || ((!pre ops i j || decide (j < k)) && (!pre ops j i || decide (k ≤ j)))

def quietF (P : Program) (ops : Array Oper) (X : Nat → AS) (v : Nat → AV) : Bool :=
  (List.range ops.size).all fun i => match ops[i]? with
  | none => true
  | some o => !isLoad o.op || wantedA ops (X i).tm o != some true || (List.range (ops.size + 1)).all fun k => !feas P ops i k || match plainOp P (X i).tm (X k).σ o.op o.type with
    | some (u, _) => AV.beq u (v i)
    | none => false

def stateAt (x : AS) (l : List (AV × AS)) (i : Nat) : AS := match i with
  | 0 => x
  | i + 1 => ((l[i]?).map (·.2)).getD x

def drawF (P : Program) (C : CallT) (ops : Array Oper) (x : AS) : Option AS :=
  if P.follows .mixedOrders = true ∧ okRegion ops (effAt P ops) = true then
    (drawRun C P ops ops.toList x).bind fun l => if quietF P ops (stateAt x l) (fun i => ((l[i]?).map (·.1)).getD .undef) = true then some (stateAt x l ops.size) else none
  else none

theorem drawRun_spec {C : CallT} {P : Program} (hC : CallsOK P C) {ops : Array Oper} : ∀ {os : List Oper} {x : AS} {l : List (AV × AS)}, drawRun C P ops os x = some l → l.length = os.length ∧
    ∀ i o, os[i]? = some o → ∃ v y, l[i]? = some (v, y) ∧ ((wantedA ops (stateAt x l i).tm o = some true ∧ ∃ σ', OpA P (stateAt x l i) o v { stateAt x l i with σ := σ' } ∧ y = ({ stateAt x l i with σ := σ' } : AS).put o.dst v ∧
        (effK P o.op = false → plainOp P (stateAt x l i).tm (stateAt x l i).σ o.op o.type = some (v, σ'))) ∨
      (wantedA ops (stateAt x l i).tm o = some false ∧ v = .undef ∧ y = (stateAt x l i).put o.dst .undef))
  | [], x, l, h => by simp [drawRun] at h; subst h; exact ⟨rfl, fun i o h => by simp at h⟩
  | o :: os, x, l, h => by
    have shift : ∀ (p : AV × AS) (l' : List (AV × AS)) (i : Nat), i ≤ l'.length → stateAt x (p :: l') (i + 1) = stateAt p.2 l' i := by
      intro p l' i hi
      cases i with
      | zero => rfl
      | succ i =>
        simp only [stateAt, List.getElem?_cons_succ]
        rw [List.getElem?_eq_getElem (by omega)]
        rfl
    unfold drawRun at h
    simp only [Option.bind_eq_some_iff] at h
    obtain ⟨b, hw, h⟩ := h
    cases b
    case true =>
      rw [if_pos rfl] at h
      have key : (opF C P x o).bind (fun (q : AV × AS) => (drawRun C P ops os (q.2.put o.dst q.1)).map fun l => (q.1, q.2.put o.dst q.1) :: l) = some l ∧ (∀ c, o.op ≠ .defer c) := by
        split at h
        · cases h
        · rename_i hne
          exact ⟨h, hne⟩
      obtain ⟨h, hnd⟩ := key
      simp only [Option.bind_eq_some_iff, Option.map_eq_some_iff] at h
      obtain ⟨⟨v, x1⟩, ho, l', hl', rfl⟩ := h
      obtain ⟨ih1, ih2⟩ := drawRun_spec hC hl'
      have hop := opF_sound hC ho
      have hx1 : ∃ σ', x1 = { x with σ := σ' } := by
        cases hop with
        | plain h => exact ⟨_, rfl⟩
        | call a b c d => exact ⟨_, rfl⟩
        | defer ho' _ _ _ => exact absurd ho' (hnd _)
      obtain ⟨σ', rfl⟩ := hx1
      refine ⟨by simp [ih1], fun i o' ho' => ?_⟩
      cases i with
      | zero =>
        simp at ho'
        subst ho'
        refine ⟨v, _, rfl, .inl ⟨hw, σ', hop, rfl, fun hE => ?_⟩⟩
        have hpl : (plainOp P x.tm x.σ o.op o.type).map (fun (q : AV × Mem) => (q.1, ({ x with σ := q.2 } : AS))) = some (v, { x with σ := σ' }) := by
          unfold opF at ho
          split at ho
          · rename_i c hc
            split at ho
            · rename_i f hf
              rw [hc] at hE
              simp [effK, hf] at hE
            · rw [hc] at ho ⊢; exact ho
          · rename_i c hc
            exact absurd hc (hnd _)
          · exact ho
        simp only [Option.map_eq_some_iff, Prod.mk.injEq] at hpl
        obtain ⟨⟨u, τ⟩, hp, rfl, hσ⟩ := hpl
        injection hσ with _ _ hσ
        subst hσ
        exact hp
      | succ i =>
        simp at ho'
        obtain ⟨u, y, hu, hcase⟩ := ih2 i o' ho'
        have hil := (List.getElem?_eq_some_iff.1 hu).1
        refine ⟨u, y, by simpa using hu, ?_⟩
        rw [shift _ l' i (by omega)]
        exact hcase
    case false =>
      rw [if_neg (by decide)] at h
      simp only [Option.map_eq_some_iff] at h
      obtain ⟨l', hl', rfl⟩ := h
      obtain ⟨ih1, ih2⟩ := drawRun_spec hC hl'
      refine ⟨by simp [ih1], fun i o' ho' => ?_⟩
      cases i with
      | zero =>
        simp at ho'
        subst ho'
        exact ⟨.undef, _, rfl, .inr ⟨by simpa [stateAt] using hw, rfl, rfl⟩⟩
      | succ i =>
        simp at ho'
        obtain ⟨u, y, hu, hcase⟩ := ih2 i o' ho'
        have hil := (List.getElem?_eq_some_iff.1 hu).1
        refine ⟨u, y, by simpa using hu, ?_⟩
        rw [shift _ l' i (by omega)]
        exact hcase

theorem drawF_ok (P : Program) (C : CallT) (hC : CallsOK P C) : DrawOK P (drawF P C) := by
  intro id ops x x' h
  unfold drawF at h
  split at h
  · rename_i hc
    obtain ⟨hm, hok⟩ := hc
    simp only [Option.bind_eq_some_iff] at h
    obtain ⟨l, hl, h⟩ := h
    split at h
    · rename_i hq
      cases h
      obtain ⟨hlen, hspec⟩ := drawRun_spec hC hl
      have hat : ∀ i v y, l[i]? = some (v, y) → ((l[i]?).map (·.1)).getD AV.undef = v ∧ stateAt x l (i + 1) = y := by
        intro i v y h
        simp [stateAt, h]
      have hR : Run P ops (effAt P ops) (stateAt x l) (fun i => ((l[i]?).map (·.1)).getD .undef) := by
        refine ⟨fun i o ho => ?_, fun i hi hE => ?_, fun i o ho hE hw k hk hf => ?_⟩
        · obtain ⟨v, y, hly, hcase⟩ := hspec i o (by rw [Array.getElem?_toList]; exact ho)
          obtain ⟨e1, e2⟩ := hat i v y hly
          simp only [e1, e2]
          rcases hcase with ⟨g1, σ', g2, g3, _⟩ | ⟨g1, g2, g3⟩
          · exact .inl ⟨g1, σ', g2, g3⟩
          · exact .inr ⟨g1, g2, g3⟩
        · have ho : ops[i]? = some ops[i] := Array.getElem?_eq_getElem hi
          obtain ⟨v, y, hly, hcase⟩ := hspec i _ (by rw [Array.getElem?_toList]; exact ho)
          obtain ⟨e1, e2⟩ := hat i v y hly
          rw [e2]
          rcases hcase with ⟨g1, σ', g2, g3, g4⟩ | ⟨g1, g2, g3⟩
          · have hE' : effK P ops[i].op = false := by simpa [effAt, ho] using hE
            have hp := g4 hE'
            have : σ' = (stateAt x l i).σ := by
              cases hld : isLoad ops[i].op
              · exact (free_op hE' hld _ _ (stateAt x l i).σ _ hp).1
              · exact load_still hld hp
            rw [g3, this]
            rfl
          · rw [g3]; rfl
        · obtain ⟨v, y, hly, hcase⟩ := hspec i o (by rw [Array.getElem?_toList]; exact ho)
          obtain ⟨e1, e2⟩ := hat i v y hly
          simp only [e1]
          rcases hcase with ⟨g1, σ', g2, g3, g4⟩ | ⟨g1, g2, g3⟩
          · have hE' : effK P o.op = false := by simpa [effAt, ho] using hE
            have hp := g4 hE'
            cases hld : isLoad o.op
            · exact (free_op hE' hld _ _ (stateAt x l k).σ _ hp).2
            · have hil := (Array.getElem?_eq_some_iff.1 ho).1
              have h1 := (List.all_eq_true.1 hq) i (by simpa using hil)
              simp only [ho, hld, hw, Bool.not_true, Bool.false_or, bne_self_eq_false] at h1
              have h2 := (List.all_eq_true.1 h1) k (by simp; omega)
              have hfe : feas P ops i k = true := by
                unfold feas
                rw [List.all_eq_true]
                intro j hj
                have hjs : j < ops.size := by simpa using hj
                cases hEj : effAt P ops j
                · rfl
                · obtain ⟨f1, f2⟩ := hf j hjs hEj
                  cases hp1 : pre ops i j <;> cases hp2 : pre ops j i <;> simp_all
              simp only [hfe, Bool.not_true, Bool.false_or] at h2
              split at h2
              · rename_i u τ hu
                have := AV.beq_eq h2
                simp only [e1] at this
                subst this
                rw [hu, load_still hld hu]
              · cases h2
          · rw [g1] at hw
            cases hw
      exact T_draw hm hok hR
    · cases h
  · cases h

end Go.Proofs.Ytihbdelgoapeoaa.K
/- Walking over abstract states by rules: frames of which a few slots are known. -/
namespace Go.Proofs.Ytihbdelgoapeoaa.K
open Go Go.RowKit
set_option linter.unusedSimpArgs false
set_option linter.unusedVariables false

/-- What is known of a slot. -/
def look : List (Nat × AV) → Nat → Option AV
  | [], _ => none
  | (d, v) :: r, t => if t = d then some v else look r t

/-- A frame of n slots of which these are known. -/
def fr (n : Nat) (S : List (Nat × AV)) : Fr := (List.range n).map (look S)

theorem fr_get (n : Nat) (S : List (Nat × AV)) (t : Nat) : (fr n S)[t]? = if t < n then some (look S t) else none := by
  unfold fr
  rw [List.getElem?_map]
  by_cases h : t < n
  · rw [if_pos h, List.getElem?_range h]; rfl
  · rw [if_neg h, List.getElem?_eq_none (by simpa using h)]; rfl

theorem fr_length (n : Nat) (S : List (Nat × AV)) : (fr n S).length = n := by simp [fr]

theorem fr_put (n : Nat) (S : List (Nat × AV)) (d : Nat) (v : AV) : putD (fr n S) (some d) v = fr n ((d, v) :: S) := by
  apply List.ext_getElem?
  intro t
  simp only [putD, List.getElem?_set, fr_length, fr_get, look]
  by_cases h : d = t
  · subst h
    simp
  · have h2 : ¬ t = d := fun e => h e.symm
    simp only [h, h2, if_false]

/-- What an operand is. -/
def evS (n : Nat) (S : List (Nat × AV)) : Operand → Option AV
  | .tmp t => if t < n then look S t else none
  | .const v => ofConst v
  | .func f => some (.fn (.func f) [] [])
  | .global _ => none

theorem ev_fr (n : Nat) (S : List (Nat × AV)) (x : Operand) : ev (fr n S) x = evS n S x := by
  cases x <;> simp only [ev, evS]
  rw [fr_get]
  split <;> rfl

/-! ### States: less may be known -/
/-- All that is known of y is known of x. -/
def Le (x y : AS) : Prop := x.tm.length = y.tm.length ∧ (∀ (t : Nat) (v : AV), y.tm[t]? = some (some v) → x.tm[t]? = some (some v)) ∧ x.df = y.df ∧ x.σ = y.σ

theorem Le.inv {x y : AS} (h : Le x y) {G : Gh} {a : Act} {w : World} (hi : Inv G x a w) : Inv G y a w := by
  obtain ⟨h1, h2, h3, h4⟩ := h
  exact ⟨⟨by rw [hi.tm.1, h1], fun i v hv => hi.tm.2 i v (h2 i v hv)⟩, h3 ▸ hi.df, h4 ▸ hi.h⟩

theorem T.pre {P : Program} {c : Code} {x y x' : AS} {e : AE} (hl : Le x y) (h : T P c y e x') : T P c x e x' := fun G a w Q hi hQ => h G a w Q (hl.inv hi) hQ
theorem T.post {P : Program} {c : Code} {x x' y : AS} {e : AE} (h : T P c x e x') (hl : Le x' y) : T P c x e y := fun G a w Q hi hQ => h G a w Q hi fun G' a' w' hi' ev => hQ G' a' w' (hl.inv hi') ev

/-- These slots are known so. -/
def knows (S : List (Nat × AV)) : List (Nat × AV) → Prop
  | [] => True
  | (d, v) :: r => look S d = some v ∧ knows S r

theorem knows_look {S : List (Nat × AV)} : ∀ {R : List (Nat × AV)}, knows S R → ∀ t v, look R t = some v → look S t = some v
  | [], _, t, v, h => by simp [look] at h
  | (d, u) :: r, hk, t, v, h => by
    simp only [look] at h
    split at h
    · rename_i ht
      subst ht
      cases h
      exact hk.1
    · exact knows_look hk.2 t v h

theorem Le_fr {n : Nat} {S R : List (Nat × AV)} {df : List AD} {σ : Mem} (h : knows S R) : Le ⟨fr n S, df, σ⟩ ⟨fr n R, df, σ⟩ := by
  refine ⟨by simp [fr_length], fun t v hv => ?_, rfl, rfl⟩
  simp only [fr_get] at hv ⊢
  split at hv
  · rename_i ht
    rw [if_pos ht]
    simp only [Option.some.injEq] at hv ⊢
    exact knows_look h t v hv
  · cases hv

/-! ### Ends -/
/-- The code comes to an end of which Q holds. -/
def TE (P : Program) (c : Code) (x : AS) (Q : AE → AS → Prop) : Prop := ∃ e x', T P c x e x' ∧ Q e x'
/-- So do these operations. -/
def TO (P : Program) (ops : Array Oper) (l : List Oper) (x : AS) (Q : AS → Prop) : Prop := ∃ x', OpsA P ops l x x' ∧ Q x'

section
variable {P : Program} {Q : AE → AS → Prop}

theorem TE.mono {c : Code} {x : AS} {Q' : AE → AS → Prop} (h : TE P c x Q) (hq : ∀ e x', Q e x' → Q' e x') : TE P c x Q' :=
  let ⟨e, x', h1, h2⟩ := h
  ⟨e, x', h1, hq e x' h2⟩

/-- What stands behind code that may leave. -/
def thenQ (P : Program) (d : Code) (Q : AE → AS → Prop) : AE → AS → Prop
  | .normal, x => TE P d x Q
  | e, x => Q e x

theorem TE_seq {c d : Code} {x : AS} (h : TE P c x (thenQ P d Q)) : TE P (.seq c d) x Q := by
  obtain ⟨e, x1, h1, h2⟩ := h
  cases e with
  | normal =>
    obtain ⟨e2, x2, h3, h4⟩ := h2
    exact ⟨e2, x2, T_seq h1 h3, h4⟩
  | exit id => exact ⟨_, x1, T_seq_out h1 (by simp), h2⟩
  | ret => exact ⟨_, x1, T_seq_out h1 (by simp), h2⟩

theorem TE_skip {x : AS} (h : Q .normal x) : TE P .skip x Q := ⟨_, _, T_skip x, h⟩
theorem TE_ret {x : AS} (h : Q .ret x) : TE P .ret x Q := ⟨_, _, T_ret x, h⟩
theorem TE_exit {id : Nat} {x : AS} (h : Q (.exit id) x) : TE P (.exit id) x Q := ⟨_, _, T_exit id x, h⟩

def blockQ (id : Nat) (Q : AE → AS → Prop) : AE → AS → Prop := fun e x => Q (if e = .exit id then .normal else e) x

theorem TE_block {id : Nat} {c : Code} {x : AS} (h : TE P c x (blockQ id Q)) : TE P (.block id c) x Q := by
  obtain ⟨e, x1, h1, h2⟩ := h
  exact ⟨_, x1, T_block h1, h2⟩

theorem TE_cond {c : Operand} {d1 d2 : Code} {n : Nat} {S : List (Nat × AV)} {df : List AD} {σ : Mem} {b : Bool} (hc : evS n S c = some (.bool b)) (ht : b = true → TE P d1 ⟨fr n S, df, σ⟩ Q) (hf : b = false → TE P d2 ⟨fr n S, df, σ⟩ Q) : TE P (.cond c d1 d2) ⟨fr n S, df, σ⟩ Q := by
  have hc' : ev (fr n S) c = some (.bool b) := by rw [ev_fr]; exact hc
  cases b with
  | true =>
    obtain ⟨e, x', h1, h2⟩ := ht rfl
    exact ⟨e, x', T_cond (b := true) hc' h1, h2⟩
  | false =>
    obtain ⟨e, x', h1, h2⟩ := hf rfl
    exact ⟨e, x', T_cond (b := false) hc' h1, h2⟩

theorem TE_loop {c : Code} {x : AS} (I : AS → Prop) (μ : AS → Nat) (h0 : I x)
    (round : ∀ y, I y → TE P c y fun e z => match e with
      | .normal => I z ∧ μ z < μ y
      | e => Q e z) : TE P (.loop c) x Q := by
  have key : ∀ m y, μ y = m → I y → ∃ e x', LoopA P c y e x' ∧ Q e x' := by
    intro m
    induction m using Nat.strongRecOn with
    | _ m ih =>
      intro y hy hI
      obtain ⟨e, z, h1, h2⟩ := round y hI
      cases e with
      | normal =>
        obtain ⟨e2, x2, h3, h4⟩ := ih (μ z) (hy ▸ h2.2) z rfl h2.1
        exact ⟨e2, x2, .again h1 h3, h4⟩
      | exit id => exact ⟨_, z, .out h1 (by simp), h2⟩
      | ret => exact ⟨_, z, .out h1 (by simp), h2⟩
  obtain ⟨e, x', h1, h2⟩ := key _ x rfl h0
  exact ⟨e, x', T_loop h1, h2⟩

/-- A loop whose rounds are counted by what is left: state and what is asked go by a parameter. -/
theorem TE_loopP {c : Code} {α : Type} (st : α → AS) (I : α → Prop) (μ : α → Nat) (a : α) (h0 : I a)
    (round : ∀ y, I y → TE P c (st y) fun e z => match e with
      | .normal => ∃ y', I y' ∧ μ y' < μ y ∧ Le z (st y')
      | e => Q e z) : TE P (.loop c) (st a) Q := by
  have key : ∀ m y, μ y = m → I y → ∃ e x', LoopA P c (st y) e x' ∧ Q e x' := by
    intro m
    induction m using Nat.strongRecOn with
    | _ m ih =>
      intro y hy hI
      obtain ⟨e, z, h1, h2⟩ := round y hI
      cases e with
      | normal =>
        obtain ⟨y', g1, g2, g3⟩ := h2
        obtain ⟨e2, x2, h3, h4⟩ := ih (μ y') (hy ▸ g2) y' rfl g1
        exact ⟨e2, x2, .again (h1.post g3) h3, h4⟩
      | exit id => exact ⟨_, z, .out h1 (by simp), h2⟩
      | ret => exact ⟨_, z, .out h1 (by simp), h2⟩
  obtain ⟨e, x', h1, h2⟩ := key _ a rfl h0
  exact ⟨e, x', T_loop h1, h2⟩

theorem TE_pre {c : Code} {x y : AS} (hl : Le x y) (h : TE P c y Q) : TE P c x Q :=
  let ⟨e, x', h1, h2⟩ := h
  ⟨e, x', h1.pre hl, h2⟩

theorem TE_region {id : Nat} {l : List Oper} {x : AS} (h : TO P l.toArray l x (Q .normal)) : TE P (.region id l.toArray false) x Q := by
  obtain ⟨x', h1, h2⟩ := h
  exact ⟨_, x', T_region (by simpa using h1), h2⟩

theorem TO_nil {ops : Array Oper} {x : AS} {R : AS → Prop} (h : R x) : TO P ops [] x R := ⟨x, .nil x, h⟩

section
variable {ops : Array Oper} {rest : List Oper} {R : AS → Prop} {n : Nat} {S : List (Nat × AV)} {df : List AD} {σ σ' : Mem} {d : Tmp} {op : Op} {ty : TypeId} {ps : String} {af : Array Edge} {v : AV}

theorem TO_plain (h : plainOp P (fr n S) σ op ty = some (v, σ')) (k : TO P ops rest ⟨fr n ((d, v) :: S), df, σ'⟩ R) : TO P ops ({ dst := some d, op := op, type := ty, pos := ps, after := af, guard := none } :: rest) ⟨fr n S, df, σ⟩ R := by
  obtain ⟨x', h1, h2⟩ := k
  refine ⟨x', .step rfl (.plain h) ?_, h2⟩
  simp only [AS.put, fr_put]
  exact h1

theorem TO_plain0 (h : plainOp P (fr n S) σ op ty = some (v, σ')) (k : TO P ops rest ⟨fr n S, df, σ'⟩ R) : TO P ops ({ dst := none, op := op, type := ty, pos := ps, after := af, guard := none } :: rest) ⟨fr n S, df, σ⟩ R := by
  obtain ⟨x', h1, h2⟩ := k
  exact ⟨x', .step rfl (.plain h) h1, h2⟩

theorem TO_call {c : Call} {g : FuncId} {args : List AV} (hc : callee (fr n S) c = some (g, args)) (he : enters P g = true) (h : ACall P g args σ v σ') (k : TO P ops rest ⟨fr n ((d, v) :: S), df, σ'⟩ R) :
    TO P ops ({ dst := some d, op := .call c, type := ty, pos := ps, after := af, guard := none } :: rest) ⟨fr n S, df, σ⟩ R := by
  obtain ⟨x', h1, h2⟩ := k
  refine ⟨x', .step rfl (.call rfl hc he h) ?_, h2⟩
  simp only [AS.put, fr_put]
  exact h1

theorem TO_call0 {c : Call} {g : FuncId} {args : List AV} (hc : callee (fr n S) c = some (g, args)) (he : enters P g = true) (h : ACall P g args σ v σ') (k : TO P ops rest ⟨fr n S, df, σ'⟩ R) :
    TO P ops ({ dst := none, op := .call c, type := ty, pos := ps, after := af, guard := none } :: rest) ⟨fr n S, df, σ⟩ R := by
  obtain ⟨x', h1, h2⟩ := k
  exact ⟨x', .step rfl (.call rfl hc he h) h1, h2⟩

/-- An operation under a guard: whether it is carried out. -/
theorem TO_guard {j : Nat} {want b : Bool} {dj : Tmp} {od : Option Tmp} (hj : (ops[j]?).bind (·.dst) = some dj) (hb : evS n S (.tmp dj) = some (.bool b))
    (ht : b = want → TO P ops ({ dst := od, op := op, type := ty, pos := ps, after := af, guard := none } :: rest) ⟨fr n S, df, σ⟩ R)
    (hf : b = !want → TO P ops rest ⟨putD (fr n S) od .undef, df, σ⟩ R) : TO P ops ({ dst := od, op := op, type := ty, pos := ps, after := af, guard := some (j, want) } :: rest) ⟨fr n S, df, σ⟩ R := by
  have hg : (fr n S)[dj]? = some (some (.bool b)) := by
    rw [fr_get]
    simp only [evS] at hb
    split at hb
    · rename_i h; rw [if_pos h, hb]
    · cases hb
  have hw : wantedA ops (fr n S) { dst := od, op := op, type := ty, pos := ps, after := af, guard := some (j, want) } = some (b == want) := by
    simp only [wantedA, hj, Option.bind_some, hg]
  by_cases hbw : b = want
  · obtain ⟨x', h1, h2⟩ := ht hbw
    refine ⟨x', ?_, h2⟩
    cases h1 with
    | step _ h hr =>
      refine .step (by rw [hw, hbw]; simp) ?_ hr
      cases h with
      | plain h => exact .plain h
      | call ho hc he h => exact .call ho hc he h
      | defer ho hf hv ha => exact .defer ho hf hv ha
    | skip hw' hr => simp [wantedA] at hw'
  · have hbn : b = !want := by cases b <;> cases want <;> simp_all
    obtain ⟨x', h1, h2⟩ := hf hbn
    exact ⟨x', .skip (by rw [hw, hbn]; simp) h1, h2⟩

theorem TO_guard_yes {j : Nat} {want b : Bool} {dj : Tmp} {od : Option Tmp} (hj : (ops[j]?).bind (·.dst) = some dj) (hb : evS n S (.tmp dj) = some (.bool b)) (hw : b = want)
    (ht : TO P ops ({ dst := od, op := op, type := ty, pos := ps, after := af, guard := none } :: rest) ⟨fr n S, df, σ⟩ R) : TO P ops ({ dst := od, op := op, type := ty, pos := ps, after := af, guard := some (j, want) } :: rest) ⟨fr n S, df, σ⟩ R :=
  TO_guard hj hb (fun _ => ht) (fun h => by rw [hw] at h; cases want <;> cases h)

theorem TO_guard_no {j : Nat} {want b : Bool} {dj d : Tmp} (hj : (ops[j]?).bind (·.dst) = some dj) (hb : evS n S (.tmp dj) = some (.bool b)) (hw : b = !want)
    (hf : TO P ops rest ⟨fr n ((d, .undef) :: S), df, σ⟩ R) : TO P ops ({ dst := some d, op := op, type := ty, pos := ps, after := af, guard := some (j, want) } :: rest) ⟨fr n S, df, σ⟩ R :=
  TO_guard hj hb (fun h => by rw [hw] at h; cases want <;> cases h) (fun _ => by rw [fr_put]; exact hf)

end

/-! ### What operations come to -/
section
variable {n : Nat} {S : List (Nat × AV)} {σ : Mem} {ty t yt : TypeId} {x y : Operand} {v u : AV}

theorem p_move (h : evS n S x = some v) : plainOp P (fr n S) σ (.move x) ty = some (v, σ) := by simp [plainOp, memOp, ev_fr, h]
theorem p_assign (h : evS n S x = some v) : plainOp P (fr n S) σ (.assign x) ty = some (v, σ) := by simp [plainOp, memOp, ev_fr, h]
theorem p_pick_t {c : Operand} {b : Bool} (hc : evS n S c = some (.bool b)) (hb : b = true) (h : evS n S x = some v) : plainOp P (fr n S) σ (.pick c x y) ty = some (v, σ) := by subst hb; simp [plainOp, memOp, ev_fr, hc, h]
theorem p_pick_f {c : Operand} {b : Bool} (hc : evS n S c = some (.bool b)) (hb : b = false) (h : evS n S y = some v) : plainOp P (fr n S) σ (.pick c x y) ty = some (v, σ) := by subst hb; simp [plainOp, memOp, ev_fr, hc, h]

def cmpR : BinOp → Int → Int → Option Bool
  | .eql, a, b => some (a == b)
  | .neq, a, b => some (a != b)
  | .lss, a, b => some (decide (a < b))
  | .leq, a, b => some (decide (a ≤ b))
  | .gtr, a, b => some (decide (a > b))
  | .geq, a, b => some (decide (a ≥ b))
  | _, _, _ => none

theorem evV_of {m : Nat} {Z : List (Nat × AV)} {z : Operand} {w : AV} {r : Value} (h : evS m Z z = some w) (hr : toV w = some r) : evV (fr m Z) z = some r := by simp [evV, ev_fr, h, hr]

theorem eqGuard_plain {op : BinOp} {a b : Value} (h : ∀ cs, a ≠ .agg cs) (h2 : a ≠ .nilIface) : eqGuard op t x y a b = pure () := by
  unfold eqGuard
  cases op <;> simp
  all_goals (cases a <;> first | rfl | exact absurd rfl (h _) | exact absurd rfl h2)

theorem p_cmp {op : BinOp} {k : IntKind} {a b : Int} {c : Bool} (hx : evS n S x = some (.int k a)) (hy : evS n S y = some (.int k b)) (hc : cmpR op a b = some c) : plainOp P (fr n S) σ (.binOp op t x y yt) ty = some (.bool c, σ) := by
  have h1 := evV_of hx (r := .int k a) rfl
  have h2 := evV_of hy (r := .int k b) rfl
  have hg : eqGuard op t x y (.int k a) (.int k b) = pure () := eqGuard_plain (fun _ h => by cases h) (by simp)
  simp only [plainOp, pureOp, nilCmp_of (P := P) (s := fr n S) (op := op) (t := t) (y := y) (by rw [ev_fr]; exact hx) (a := .int k a) rfl, h1, h2, hg]
  cases op <;> simp only [cmpR, reduceCtorEq, Option.some.injEq] at hc <;> subst hc <;> simp [binOp, Op.intCmp, pureRun, ofConst, ofScalar] <;> rfl

def ariR : BinOp → Int → Int → Option Int
  | .add, a, b => some (a + b)
  | .sub, a, b => some (a - b)
  | .mul, a, b => some (a * b)
  | _, _, _ => none

theorem p_ari {op : BinOp} {k : IntKind} {a b c : Int} (hx : evS n S x = some (.int k a)) (hy : evS n S y = some (.int k b)) (hc : ariR op a b = some c) : plainOp P (fr n S) σ (.binOp op t x y yt) ty = some (.int k (k.wrap c), σ) := by
  have h1 := evV_of hx (r := .int k a) rfl
  have h2 := evV_of hy (r := .int k b) rfl
  have hg : eqGuard op t x y (.int k a) (.int k b) = pure () := eqGuard_plain (fun _ h => by cases h) (by simp)
  simp only [plainOp, pureOp, nilCmp_of (P := P) (s := fr n S) (op := op) (t := t) (y := y) (by rw [ev_fr]; exact hx) (a := .int k a) rfl, h1, h2, hg]
  cases op <;> simp only [ariR, reduceCtorEq, Option.some.injEq] at hc <;> subst hc <;> simp [binOp, Op.intArith, pureRun, ofConst, ofScalar] <;> rfl

end
end
end Go.Proofs.Ytihbdelgoapeoaa.K
/- Walking over abstract states by rules: functions. -/
namespace Go.Proofs.Ytihbdelgoapeoaa.K
open Go Go.RowKit
set_option linter.unusedSimpArgs false
set_option linter.unusedVariables false

section
variable {P : Program} {Q : AE → AS → Prop}

theorem thenQ_normal {d : Code} {x : AS} (h : TE P d x Q) : thenQ P d Q .normal x := h
theorem thenQ_ret {d : Code} {x : AS} (h : Q .ret x) : thenQ P d Q .ret x := h
theorem thenQ_exit {d : Code} {x : AS} {id : Nat} (h : Q (.exit id) x) : thenQ P d Q (.exit id) x := h
theorem blockQ_normal {id : Nat} {x : AS} (h : Q .normal x) : blockQ id Q .normal x := h
theorem blockQ_ret {id : Nat} {x : AS} (h : Q .ret x) : blockQ id Q .ret x := h
theorem blockQ_out {id : Nat} {x : AS} (h : Q .normal x) : blockQ id Q (.exit id) x := by unfold blockQ; rw [if_pos rfl]; exact h
theorem blockQ_thru {id j : Nat} {x : AS} (hne : (j == id) = false) (h : Q (.exit j) x) : blockQ id Q (.exit j) x := by
  unfold blockQ
  rw [if_neg (by intro e; injection e with e; subst e; simp at hne)]
  exact h

/-- The arguments in their slots. -/
def argS : Nat → List AV → List (Nat × AV)
  | _, [] => []
  | i, v :: vs => (i, v) :: argS (i + 1) vs

theorem argS_look : ∀ (vs : List AV) (i t : Nat) (v : AV), look (argS i vs) t = some v → i ≤ t ∧ vs[t - i]? = some v
  | [], i, t, v, h => by simp [argS, look] at h
  | u :: vs, i, t, v, h => by
    simp only [argS, look] at h
    split at h
    · rename_i ht
      subst ht
      cases h
      simp
    · rename_i ht
      obtain ⟨h1, h2⟩ := argS_look vs (i + 1) t v h
      refine ⟨by omega, ?_⟩
      have : t - i = (t - (i + 1)) + 1 := by omega
      rw [this]
      simpa using h2

theorem Le_frame0 {fn : Func} {args : List AV} {σ : Mem} (hn : args.length ≤ fn.ntmps) : Le ⟨frame0 fn args, [], σ⟩ ⟨fr fn.ntmps (argS 0 args), [], σ⟩ := by
  refine ⟨by simp [frame0, fr_length]; omega, fun t v hv => ?_, rfl, rfl⟩
  simp only [fr_get] at hv
  split at hv
  · simp only [Option.some.injEq] at hv
    obtain ⟨_, h2⟩ := argS_look args 0 t v hv
    simp only [Nat.sub_zero] at h2
    have hl := (List.getElem?_eq_some_iff.1 h2).1
    simp only [frame0]
    rw [List.getElem?_append_left (by simpa using hl), List.getElem?_map, h2]
    rfl
  · cases hv

/-- The function comes to an end with a result of which R holds. -/
def doneQ (P : Program) (fn : Func) (R : AV → Mem → Prop) : AE → AS → Prop
  | .normal, x => x.df = [] ∧ ∃ v, resultsA P fn x = some v ∧ R v x.σ
  | .ret, x => x.df = [] ∧ ∃ v, resultsA P fn x = some v ∧ R v x.σ
  | _, _ => False

/-- A call hands back something of which R holds. -/
def CallE (P : Program) (f : FuncId) (args : List AV) (σ : Mem) (R : AV → Mem → Prop) : Prop := ∃ v σ', ACall P f args σ v σ' ∧ R v σ'

theorem CallE_of {f : FuncId} {fn : Func} {c : Code} {args : List AV} {σ : Mem} {R : AV → Mem → Prop} {m : Nat} (hf : P.funcs[f]? = some fn) (hb : fn.body = some c) (hm : fn.ntmps = m) (hn : args.length ≤ m)
    (h : TE P c ⟨fr m (argS 0 args), [], σ⟩ (doneQ P fn R)) : CallE P f args σ R := by
  subst hm
  obtain ⟨e, x', h1, h2⟩ := TE_pre (Le_frame0 hn) h
  cases e with
  | normal =>
    obtain ⟨g1, v, g2, g3⟩ := h2
    exact ⟨v, x'.σ, ACall_of_T hf hb h1 (.inl rfl) g1 g2, g3⟩
  | ret =>
    obtain ⟨g1, v, g2, g3⟩ := h2
    exact ⟨v, x'.σ, ACall_of_T hf hb h1 (.inr rfl) g1 g2, g3⟩
  | exit id => exact h2.elim

theorem CallE.eq {f : FuncId} {args : List AV} {σ σ' : Mem} {v : AV} (h : CallE P f args σ fun u τ => u = v ∧ τ = σ') : ACall P f args σ v σ' := by
  obtain ⟨u, τ, h1, rfl, rfl⟩ := h
  exact h1

/-- One result. -/
theorem done_ret {fn : Func} {R : AV → Mem → Prop} {n : Nat} {S : List (Nat × AV)} {σ : Mem} {t : Nat} {v : AV} (hr : fn.results = #[.tmp t]) (hv : evS n S (.tmp t) = some v) (h : R v σ) : doneQ P fn R .ret ⟨fr n S, [], σ⟩ := by
  refine ⟨rfl, v, ?_, h⟩
  rw [← ev_fr] at hv
  simp only [resultsA, hr]
  simp only [ev] at hv
  simp [resA, hv]

theorem done_ret2 {fn : Func} {R : AV → Mem → Prop} {n : Nat} {S : List (Nat × AV)} {σ : Mem} {t u : Nat} {v w : AV} (hr : fn.results = #[.tmp t, .tmp u]) (hv : evS n S (.tmp t) = some v) (hw : evS n S (.tmp u) = some w) (h : R (.tup [v, w]) σ) : doneQ P fn R .ret ⟨fr n S, [], σ⟩ := by
  refine ⟨rfl, .tup [v, w], ?_, h⟩
  rw [← ev_fr] at hv hw
  simp only [resultsA, hr]
  simp only [ev] at hv hw
  simp [resA, hv, hw]

end
end Go.Proofs.Ytihbdelgoapeoaa.K
/- Walking over abstract states by rules: one rule for each operation. -/
namespace Go.Proofs.Ytihbdelgoapeoaa.K
open Go Go.RowKit
set_option linter.unusedSimpArgs false
set_option linter.unusedVariables false

theorem TE_seq_mid {P : Program} {c d : Code} {Q : AE → AS → Prop} {n : Nat} {S : List (Nat × AV)} {df : List AD} {σ : Mem} (R : List (Nat × AV)) (h : TE P c ⟨fr n S, df, σ⟩ (fun e z => e = .normal ∧ Le z ⟨fr n R, df, σ⟩)) (k : TE P d ⟨fr n R, df, σ⟩ Q) : TE P (.seq c d) ⟨fr n S, df, σ⟩ Q := by
  refine TE_seq (h.mono fun e z hz => ?_)
  obtain ⟨rfl, hl⟩ := hz
  exact TE_pre hl k
theorem mid_Le {n : Nat} {S R : List (Nat × AV)} {df : List AD} {σ : Mem} (h : knows S R) : (AE.normal = AE.normal) ∧ Le ⟨fr n S, df, σ⟩ ⟨fr n R, df, σ⟩ := ⟨rfl, Le_fr h⟩

def bitR (k : IntKind) : BinOp → Int → Int → Option Int
  | .and, a, b => some (k.wrap (BitVec.ofInt k.bits a &&& BitVec.ofInt k.bits b).toNat)
  | .or, a, b => some (k.wrap (BitVec.ofInt k.bits a ||| BitVec.ofInt k.bits b).toNat)
  | .xor, a, b => some (k.wrap (BitVec.ofInt k.bits a ^^^ BitVec.ofInt k.bits b).toNat)
  | .andNot, a, b => some (k.wrap (BitVec.ofInt k.bits a &&& ~~~ BitVec.ofInt k.bits b).toNat)
  | _, _, _ => none

def divR (k : IntKind) : BinOp → Int → Int → Option Int
  | .quo, a, b => some (k.wrap (a.tdiv b))
  | .rem, a, b => some (a.tmod b)
  | _, _, _ => none

def shR (k : IntKind) : BinOp → Int → Nat → Option Int
  | .shl, a, b => some (k.wrap (a * 2 ^ (min b k.bits)))
  | .shr, a, b => some (a.fdiv (2 ^ (min b k.bits)))
  | _, _, _ => none

def strR : BinOp → ByteArray → ByteArray → Option Bool
  | .eql, x, y => some (x.toList == y.toList)
  | .neq, x, y => some !(x.toList == y.toList)
  | .lss, x, y => some (Op.bytesLess x.toList y.toList)
  | .leq, x, y => some (Op.bytesLess x.toList y.toList || x.toList == y.toList)
  | .gtr, x, y => some !(Op.bytesLess x.toList y.toList || x.toList == y.toList)
  | .geq, x, y => some !(Op.bytesLess x.toList y.toList)
  | _, _, _ => none

theorem pureRun_bind {α β : Type} {P : Program} : ∀ {s : Sem α} {f : α → Sem β} {a : α}, pureRun P s = some a → pureRun P (s >>= f) = pureRun P (f a) := by
  intro s
  induction s with
  | pure b => intro f a h; simp [pureRun] at h; subst h; rfl
  | program k ih => intro f a h; simp only [pureRun] at h; exact ih P h
  | _ => intro f a h; simp [pureRun] at h

theorem pureRun_under {P : Program} {t : TypeId} {d : TypeDesc} (h : P.underlying t = some d) : pureRun P (underlying t) = some d := by
  unfold underlying
  have h1 : pureRun P program = some P := rfl
  rw [pureRun_bind h1]
  simp only [h]
  rfl

section
variable {P : Program} {ops : Array Oper} {rest : List Oper} {R : AS → Prop} {n : Nat} {S : List (Nat × AV)} {df : List AD} {σ σ' : Mem} {d : Tmp} {op : Op} {bop : BinOp} {ty t yt e : TypeId} {ps : String} {af : Array Edge} {u v : AV} {x y : Operand}

theorem TO_guard_t {j : Nat} {b : Bool} {dj d : Tmp} (hj : (ops[j]?).bind (·.dst) = some dj) (hb : evS n S (.tmp dj) = some (.bool b))
    (ht : b = true → TO P ops ({ dst := some d, op := op, type := ty, pos := ps, after := af, guard := none } :: rest) ⟨fr n S, df, σ⟩ R)
    (hf : b = false → TO P ops rest ⟨fr n ((d, .undef) :: S), df, σ⟩ R) : TO P ops ({ dst := some d, op := op, type := ty, pos := ps, after := af, guard := some (j, true) } :: rest) ⟨fr n S, df, σ⟩ R :=
  TO_guard hj hb ht fun h => by rw [fr_put]; exact hf h
theorem TO_guard_f {j : Nat} {b : Bool} {dj d : Tmp} (hj : (ops[j]?).bind (·.dst) = some dj) (hb : evS n S (.tmp dj) = some (.bool b))
    (ht : b = true → TO P ops rest ⟨fr n ((d, .undef) :: S), df, σ⟩ R)
    (hf : b = false → TO P ops ({ dst := some d, op := op, type := ty, pos := ps, after := af, guard := none } :: rest) ⟨fr n S, df, σ⟩ R) : TO P ops ({ dst := some d, op := op, type := ty, pos := ps, after := af, guard := some (j, false) } :: rest) ⟨fr n S, df, σ⟩ R :=
  TO_guard hj hb hf fun h => by rw [fr_put]; exact ht h
theorem TO_guard_yes0 {j : Nat} {want b : Bool} {dj : Tmp} (hj : (ops[j]?).bind (·.dst) = some dj) (hb : evS n S (.tmp dj) = some (.bool b)) (hw : b = want)
    (ht : TO P ops ({ dst := none, op := op, type := ty, pos := ps, after := af, guard := none } :: rest) ⟨fr n S, df, σ⟩ R) : TO P ops ({ dst := none, op := op, type := ty, pos := ps, after := af, guard := some (j, want) } :: rest) ⟨fr n S, df, σ⟩ R :=
  TO_guard hj hb (fun _ => ht) (fun h => by rw [hw] at h; cases want <;> cases h)

theorem TO_move (h : evS n S x = some v) (k : TO P ops rest ⟨fr n ((d, v) :: S), df, σ⟩ R) : TO P ops ({ dst := some d, op := .move x, type := ty, pos := ps, after := af, guard := none } :: rest) ⟨fr n S, df, σ⟩ R := TO_plain (p_move h) k
theorem TO_assign (h : evS n S x = some v) (k : TO P ops rest ⟨fr n ((d, v) :: S), df, σ⟩ R) : TO P ops ({ dst := some d, op := .assign x, type := ty, pos := ps, after := af, guard := none } :: rest) ⟨fr n S, df, σ⟩ R := TO_plain (p_assign h) k
theorem TO_pick_t {c : Operand} {b : Bool} (hc : evS n S c = some (.bool b)) (hb : b = true) (h : evS n S x = some v) (kk : TO P ops rest ⟨fr n ((d, v) :: S), df, σ⟩ R) : TO P ops ({ dst := some d, op := .pick c x y, type := ty, pos := ps, after := af, guard := none } :: rest) ⟨fr n S, df, σ⟩ R := TO_plain (p_pick_t hc hb h) kk
theorem TO_pick_f {c : Operand} {b : Bool} (hc : evS n S c = some (.bool b)) (hb : b = false) (h : evS n S y = some v) (kk : TO P ops rest ⟨fr n ((d, v) :: S), df, σ⟩ R) : TO P ops ({ dst := some d, op := .pick c x y, type := ty, pos := ps, after := af, guard := none } :: rest) ⟨fr n S, df, σ⟩ R := TO_plain (p_pick_f hc hb h) kk

/-- A binary operation of plain values. -/
theorem p_bin {a b r : Value} (hx : evS n S x = some u) (hu : toV u = some a) (hy : evS n S y = some v) (hv : toV v = some b) (h1 : ∀ cs, a ≠ .agg cs) (h2 : a ≠ .nilIface) (hr : pureRun P (binOp bop t a b) = some r) {z : AV} (hz : ofConst r = some z) : plainOp P (fr n S) σ (.binOp bop t x y yt) ty = some (z, σ) := by
  have hg : eqGuard bop t x y a b = pure () := eqGuard_plain h1 h2
  have h3 : pureRun P (do pure (); binOp bop t a b) = some r := hr
  have h4 : pureOp P (fr n S) (.binOp bop t x y yt) = some z := by
    have h5 : pureOp P (fr n S) (.binOp bop t x y yt) = (pureRun P (do eqGuard bop t x y a b; binOp bop t a b)).bind (fun r => ofConst r) := by
      simp only [pureOp, nilCmp_of (P := P) (s := fr n S) (op := bop) (t := t) (y := y) (by rw [ev_fr]; exact hx) hu, evV_of hx hu, evV_of hy hv]
      rfl
    rw [h5, hg]
    show (pureRun P (do pure (); binOp bop t a b)).bind (fun r => ofConst r) = _
    rw [h3]
    exact hz
  simp only [plainOp, h4, Option.map]

theorem TO_cmp {k : IntKind} {a b : Int} {c : Bool} (hx : evS n S x = some (.int k a)) (hy : evS n S y = some (.int k b)) (hc : cmpR bop a b = some c) (kk : TO P ops rest ⟨fr n ((d, .bool c) :: S), df, σ⟩ R) : TO P ops ({ dst := some d, op := .binOp bop t x y yt, type := ty, pos := ps, after := af, guard := none } :: rest) ⟨fr n S, df, σ⟩ R := TO_plain (p_cmp hx hy hc) kk
theorem TO_ari {k : IntKind} {a b c : Int} (hx : evS n S x = some (.int k a)) (hy : evS n S y = some (.int k b)) (hc : ariR bop a b = some c) (kk : TO P ops rest ⟨fr n ((d, .int k (k.wrap c)) :: S), df, σ⟩ R) : TO P ops ({ dst := some d, op := .binOp bop t x y yt, type := ty, pos := ps, after := af, guard := none } :: rest) ⟨fr n S, df, σ⟩ R := TO_plain (p_ari hx hy hc) kk
theorem TO_bit {k : IntKind} {a b c : Int} (hx : evS n S x = some (.int k a)) (hy : evS n S y = some (.int k b)) (hc : bitR k bop a b = some c) (kk : TO P ops rest ⟨fr n ((d, .int k c) :: S), df, σ⟩ R) : TO P ops ({ dst := some d, op := .binOp bop t x y yt, type := ty, pos := ps, after := af, guard := none } :: rest) ⟨fr n S, df, σ⟩ R := by
  refine TO_plain (p_bin (r := .int k c) hx rfl hy rfl (fun _ h => by cases h) (by simp) ?_ rfl) kk
  cases bop <;> simp only [bitR, reduceCtorEq, Option.some.injEq] at hc <;> subst hc <;> simp [binOp, Op.intBits, pureRun]
  all_goals rfl
theorem TO_div {k : IntKind} {a b c : Int} (hx : evS n S x = some (.int k a)) (hy : evS n S y = some (.int k b)) (hb : b ≠ 0) (hc : divR k bop a b = some c) (kk : TO P ops rest ⟨fr n ((d, .int k c) :: S), df, σ⟩ R) : TO P ops ({ dst := some d, op := .binOp bop t x y yt, type := ty, pos := ps, after := af, guard := none } :: rest) ⟨fr n S, df, σ⟩ R := by
  refine TO_plain (p_bin (r := .int k c) hx rfl hy rfl (fun _ h => by cases h) (by simp) ?_ rfl) kk
  cases bop <;> simp only [divR, reduceCtorEq, Option.some.injEq] at hc <;> subst hc <;> simp [binOp, Op.intDiv, pureRun, hb]
  all_goals rfl
theorem TO_sh {k k2 : IntKind} {a b c : Int} (hx : evS n S x = some (.int k a)) (hy : evS n S y = some (.int k2 b)) (hb : 0 ≤ b) (hc : shR k bop a b.toNat = some c) (kk : TO P ops rest ⟨fr n ((d, .int k c) :: S), df, σ⟩ R) : TO P ops ({ dst := some d, op := .binOp bop t x y yt, type := ty, pos := ps, after := af, guard := none } :: rest) ⟨fr n S, df, σ⟩ R := by
  refine TO_plain (p_bin (r := .int k c) hx rfl hy rfl (fun _ h => by cases h) (by simp) ?_ rfl) kk
  cases bop <;> simp only [shR, reduceCtorEq, Option.some.injEq] at hc <;> subst hc <;> simp [binOp, Op.shift, pureRun, Int.not_lt.2 hb]
  all_goals rfl
theorem TO_scmp {a b : ByteArray} {c : Bool} (hx : evS n S x = some (.str a)) (hy : evS n S y = some (.str b)) (hc : strR bop a b = some c) (kk : TO P ops rest ⟨fr n ((d, .bool c) :: S), df, σ⟩ R) : TO P ops ({ dst := some d, op := .binOp bop t x y yt, type := ty, pos := ps, after := af, guard := none } :: rest) ⟨fr n S, df, σ⟩ R := by
  refine TO_plain (p_bin (r := .bool c) hx rfl hy rfl (fun _ h => by cases h) (by simp) ?_ rfl) kk
  cases bop <;> simp only [strR, reduceCtorEq, Option.some.injEq] at hc <;> subst hc <;> simp [binOp, Op.stringOp, pureRun]
  all_goals rfl
theorem TO_scat {a b : ByteArray} (hx : evS n S x = some (.str a)) (hy : evS n S y = some (.str b)) (hl : a.size + b.size ≤ 9223372036854775807) (kk : TO P ops rest ⟨fr n ((d, .str (a ++ b)) :: S), df, σ⟩ R) : TO P ops ({ dst := some d, op := .binOp .add t x y yt, type := ty, pos := ps, after := af, guard := none } :: rest) ⟨fr n S, df, σ⟩ R := by
  refine TO_plain (p_bin (r := .string (a ++ b)) hx rfl hy rfl (fun _ h => by cases h) (by simp) ?_ rfl) kk
  have h : ¬ ((a.size + b.size : Nat) : Int) > IntKind.i64.max := by
    have : IntKind.i64.max = 9223372036854775807 := by decide
    omega
  simp only [binOp, Op.stringOp]
  rw [if_neg h]
  rfl
theorem eq_bool {a b : Bool} (ht : P.underlying t = some .bool) : pureRun P (Op.equal t (.bool a) (.bool b)) = some (a == b) := by
  unfold Op.equal
  show pureRun P (Op.equalIn (9999 + 1) t (.bool a) (.bool b)) = _
  unfold Op.equalIn
  rw [pureRun_bind (pureRun_under ht)]
  rfl
theorem TO_beq {a b : Bool} (hx : evS n S x = some (.bool a)) (hy : evS n S y = some (.bool b)) (ht : P.underlying t = some .bool) (kk : TO P ops rest ⟨fr n ((d, .bool (a == b)) :: S), df, σ⟩ R) : TO P ops ({ dst := some d, op := .binOp .eql t x y yt, type := ty, pos := ps, after := af, guard := none } :: rest) ⟨fr n S, df, σ⟩ R := by
  refine TO_plain (p_bin (r := .bool (a == b)) hx rfl hy rfl (fun _ h => by cases h) (by simp) ?_ rfl) kk
  show pureRun P (Op.equal t (.bool a) (.bool b) >>= _) = _
  rw [pureRun_bind (eq_bool ht)]
  rfl
theorem TO_bne {a b : Bool} (hx : evS n S x = some (.bool a)) (hy : evS n S y = some (.bool b)) (ht : P.underlying t = some .bool) (kk : TO P ops rest ⟨fr n ((d, .bool (a != b)) :: S), df, σ⟩ R) : TO P ops ({ dst := some d, op := .binOp .neq t x y yt, type := ty, pos := ps, after := af, guard := none } :: rest) ⟨fr n S, df, σ⟩ R := by
  refine TO_plain (p_bin (r := .bool (a != b)) hx rfl hy rfl (fun _ h => by cases h) (by simp) ?_ rfl) kk
  show pureRun P (Op.equal t (.bool a) (.bool b) >>= _) = _
  rw [pureRun_bind (eq_bool ht)]
  rfl
theorem TO_not {a : Bool} (hx : evS n S x = some (.bool a)) (kk : TO P ops rest ⟨fr n ((d, .bool (!a)) :: S), df, σ⟩ R) : TO P ops ({ dst := some d, op := .unOp .not t x, type := ty, pos := ps, after := af, guard := none } :: rest) ⟨fr n S, df, σ⟩ R := by
  refine TO_plain ?_ kk
  simp only [plainOp, pureOp, evV_of hx (r := .bool a) rfl]
  rfl
theorem TO_neg {k : IntKind} {a : Int} (hx : evS n S x = some (.int k a)) (kk : TO P ops rest ⟨fr n ((d, .int k (k.wrap (0 - a))) :: S), df, σ⟩ R) : TO P ops ({ dst := some d, op := .unOp .neg t x, type := ty, pos := ps, after := af, guard := none } :: rest) ⟨fr n S, df, σ⟩ R := by
  refine TO_plain ?_ kk
  simp only [plainOp, pureOp, evV_of hx (r := .int k a) rfl]
  rfl

/-- A conversion between numbers. -/
theorem TO_convInt {k j : IntKind} {a : Int} {td : TypeDesc} (hx : evS n S x = some (.int k a)) (ht : P.underlying t = some td) (he : P.underlying e = some (.int j)) (kk : TO P ops rest ⟨fr n ((d, .int j (j.wrap a)) :: S), df, σ⟩ R) : TO P ops ({ dst := some d, op := .convert t e x, type := ty, pos := ps, after := af, guard := none } :: rest) ⟨fr n S, df, σ⟩ R := by
  refine TO_plain ?_ kk
  have hr : pureRun P (convert t e (.int k a)) = some (.int j (j.wrap a)) := by
    unfold convert
    rw [pureRun_bind (pureRun_under ht), pureRun_bind (pureRun_under he)]
    rfl
  simp only [plainOp, ev_fr, hx, pureOp, evV_of hx (r := .int k a) rfl, hr, bind, Option.bind, Option.map]
  rfl

/-- A byte of a text. -/
theorem TO_sidx {k : IntKind} {i : Int} {s : ByteArray} {b : UInt8} (hx : evS n S x = some (.str s)) (hy : evS n S y = some (.int k i)) (ht : P.underlying t = some .string) (h0 : 0 ≤ i) (hb : s[i.toNat]? = some b) (kk : TO P ops rest ⟨fr n ((d, .int .u8 b.toNat) :: S), df, σ⟩ R) : TO P ops ({ dst := some d, op := .index t x y, type := ty, pos := ps, after := af, guard := none } :: rest) ⟨fr n S, df, σ⟩ R := by
  refine TO_plain ?_ kk
  have hr : pureRun P (Instr.index t (.string s) (.int k i)) = some (.int .u8 b.toNat) := by
    unfold Instr.index
    rw [pureRun_bind (a := (k, i)) rfl, pureRun_bind (pureRun_under ht)]
    simp only [h0, if_true, hb]
    rfl
  simp only [plainOp, ev_fr, hx, pureOp, evV_of hx (r := .string s) rfl, evV_of hy (r := .int k i) rfl, hr, bind, Option.bind, Option.map]
  rfl

/-- A part of a text. -/
theorem p_ssl {s : ByteArray} {lo hi : Option Operand} {lo' hi' : Option Value} {a b : Nat} (hx : evS n S x = some (.str s)) (ht : P.underlying t = some .string) (hl : optV (fr n S) lo = some lo') (hh : optV (fr n S) hi = some hi')
    (hb : pureRun P (Instr.sliceBounds false s.size s.size lo' hi' none) = some (a, b, s.size)) : plainOp P (fr n S) σ (.slice t x lo hi none) ty = some (.str (s.extract a b), σ) := by
  have hr : pureRun P (Instr.sliceAt t (.string s) lo' hi' none) = some (.string (s.extract a b)) := by
    unfold Instr.sliceAt
    rw [pureRun_bind (pureRun_under ht)]
    unfold Instr.slice
    show pureRun P (underlying t >>= _) = _
    rw [pureRun_bind (pureRun_under ht)]
    show pureRun P (Instr.sliceBounds false s.size s.size lo' hi' none >>= _) = _
    rw [pureRun_bind hb]
    rfl
  have ho : optV (fr n S) none = some none := rfl
  simp only [plainOp, ev_fr, hx, pureOp, evV_of hx (r := .string s) rfl, hl, hh, ho, hr, bind, Option.bind, Option.map]
  rfl
theorem bound_of {k : IntKind} {i : Int} {m : Nat} {c : BoundsCode} (h0 : 0 ≤ i) (h1 : i ≤ m) : pureRun P (Instr.sliceBound (.int k i) m c) = some i.toNat := by
  unfold Instr.sliceBound
  rw [pureRun_bind (a := (k, i)) rfl]
  simp only [h0, h1, and_self, if_true]
  rfl
theorem TO_ssl_lo {k : IntKind} {i : Int} {s : ByteArray} (hx : evS n S x = some (.str s)) (ht : P.underlying t = some .string) (hi : evS n S y = some (.int k i)) (h0 : 0 ≤ i) (h1 : i ≤ s.size) (kk : TO P ops rest ⟨fr n ((d, .str (s.extract i.toNat s.size)) :: S), df, σ⟩ R) : TO P ops ({ dst := some d, op := .slice t x (some y) none none, type := ty, pos := ps, after := af, guard := none } :: rest) ⟨fr n S, df, σ⟩ R := by
  refine TO_plain (p_ssl hx ht (lo' := some (.int k i)) (hi' := none) ?_ rfl ?_) kk
  · simp [optV, evV_of hi (r := .int k i) rfl]
  · unfold Instr.sliceBounds
    rw [pureRun_bind (a := s.size) rfl, pureRun_bind (a := s.size) rfl, pureRun_bind (bound_of h0 h1)]
    rfl
theorem TO_ssl_hi {k : IntKind} {i : Int} {s : ByteArray} (hx : evS n S x = some (.str s)) (ht : P.underlying t = some .string) (hi : evS n S y = some (.int k i)) (h0 : 0 ≤ i) (h1 : i ≤ s.size) (kk : TO P ops rest ⟨fr n ((d, .str (s.extract 0 i.toNat)) :: S), df, σ⟩ R) : TO P ops ({ dst := some d, op := .slice t x none (some y) none, type := ty, pos := ps, after := af, guard := none } :: rest) ⟨fr n S, df, σ⟩ R := by
  refine TO_plain (p_ssl hx ht (lo' := none) (hi' := some (.int k i)) rfl ?_ ?_) kk
  · simp [optV, evV_of hi (r := .int k i) rfl]
  · unfold Instr.sliceBounds
    rw [pureRun_bind (a := s.size) rfl]
    show pureRun P (Instr.sliceBound (.int k i) s.size _ >>= _) = _
    rw [pureRun_bind (bound_of h0 h1)]
    rfl
theorem TO_ssl {k j : IntKind} {i m : Int} {y' : Operand} {s : ByteArray} (hx : evS n S x = some (.str s)) (ht : P.underlying t = some .string) (hi : evS n S y = some (.int k i)) (hm : evS n S y' = some (.int j m)) (h0 : 0 ≤ i) (h1 : i ≤ m) (h2 : m ≤ s.size) (kk : TO P ops rest ⟨fr n ((d, .str (s.extract i.toNat m.toNat)) :: S), df, σ⟩ R) : TO P ops ({ dst := some d, op := .slice t x (some y) (some y') none, type := ty, pos := ps, after := af, guard := none } :: rest) ⟨fr n S, df, σ⟩ R := by
  refine TO_plain (p_ssl hx ht (lo' := some (.int k i)) (hi' := some (.int j m)) ?_ ?_ ?_) kk
  · simp [optV, evV_of hi (r := .int k i) rfl]
  · simp [optV, evV_of hm (r := .int j m) rfl]
  · unfold Instr.sliceBounds
    rw [pureRun_bind (a := s.size) rfl]
    show pureRun P (Instr.sliceBound (.int j m) s.size _ >>= _) = _
    rw [pureRun_bind (bound_of (by omega) h2), pureRun_bind (bound_of h0 (by omega))]
    rfl

/-- The length of a text. -/
theorem TO_slen {s : ByteArray} {c : Call} (hc : c.callee = .builtin .len) (ha : c.args = #[x]) (htt : c.argTypes = #[t]) (hx : evS n S x = some (.str s)) (ht : P.underlying t = some .string) (kk : TO P ops rest ⟨fr n ((d, .int .i64 s.size) :: S), df, σ⟩ R) : TO P ops ({ dst := some d, op := .call c, type := ty, pos := ps, after := af, guard := none } :: rest) ⟨fr n S, df, σ⟩ R := by
  refine TO_plain ?_ kk
  have hr : ∀ cs, pureRun P (builtin .len #[t] ty cs #[.string s]) = some (.value (.int .i64 s.size)) := by
    intro cs
    unfold builtin
    show pureRun P (Builtin.len_ #[t] ty #[.string s] >>= _) = _
    have h1 : pureRun P (Builtin.len_ #[t] ty #[.string s]) = some (.int .i64 s.size) := by
      show pureRun P (underlying t >>= _) = _
      rw [pureRun_bind (pureRun_under ht)]
      rfl
    rw [pureRun_bind h1]
    rfl
  simp only [plainOp, callB, hc, callV, ha, htt, ev_fr, hx, Option.bind, plainB, List.mapM_cons, List.mapM_nil, evV_of hx (r := .string s) rfl, pure, bind, hr, Option.map]
  rfl
/-- The length of a list. -/
theorem TO_llen {l : List AV} {tk : Tok} {c : Call} (hc : c.callee = .builtin .len) (ha : c.args = #[x]) (htt : c.argTypes = #[t]) (hx : evS n S x = some (.sl l tk)) (ht : P.underlying t = some (.slice e)) (kk : TO P ops rest ⟨fr n ((d, .int .i64 l.length) :: S), df, σ⟩ R) : TO P ops ({ dst := some d, op := .call c, type := ty, pos := ps, after := af, guard := none } :: rest) ⟨fr n S, df, σ⟩ R := by
  refine TO_plain ?_ kk
  simp only [plainOp, callB, hc, callV, ha, htt, ev_fr, hx, Option.bind, lenT, ht, Option.map]
end
end Go.Proofs.Ytihbdelgoapeoaa.K
/- Walking over abstract states by rules: operations on memory, calls. -/
namespace Go.Proofs.Ytihbdelgoapeoaa.K
open Go Go.RowKit
set_option linter.unusedSimpArgs false
set_option linter.unusedVariables false

def evsS (n : Nat) (S : List (Nat × AV)) : List Operand → Option (List AV)
  | [] => some []
  | x :: xs => match evS n S x, evsS n S xs with
    | some v, some vs => some (v :: vs)
    | _, _ => none

theorem evs_fr (n : Nat) (S : List (Nat × AV)) : ∀ xs : List Operand, evs (fr n S) xs = evsS n S xs
  | [] => rfl
  | x :: xs => by
    have ih := evs_fr n S xs
    unfold evs at ih ⊢
    rw [List.mapM_cons, ev_fr, ih]
    simp only [evsS]
    cases evS n S x <;> cases evsS n S xs <;> rfl

def partsS (n : Nat) (S : List (Nat × AV)) : List (Nat × Operand) → Option (List (Nat × AV))
  | [] => some []
  | (i, x) :: xs => match evS n S x, partsS n S xs with
    | some v, some vs => some ((i, v) :: vs)
    | _, _ => none

theorem parts_fr (n : Nat) (S : List (Nat × AV)) : ∀ xs : List (Nat × Operand), (xs.mapM fun (q : Nat × Operand) => (ev (fr n S) q.2).map fun v => (q.1, v)) = partsS n S xs
  | [] => rfl
  | (i, x) :: xs => by
    have ih := parts_fr n S xs
    rw [List.mapM_cons, ev_fr, ih]
    simp only [partsS]
    cases evS n S x <;> cases partsS n S xs <;> rfl

/-- Who is called, with what. -/
def calleeS (n : Nat) (S : List (Nat × AV)) (c : Call) : Option (FuncId × List AV) :=
  match c.callee with
  | .value f => match evS n S f, evsS n S c.args.toList with
    | some (.fn (.func g) first cap), some args => some (g, first ++ args ++ cap)
    | _, _ => none
  | _ => none

theorem callee_fr {n : Nat} {S : List (Nat × AV)} {c : Call} {r : FuncId × List AV} (h : calleeS n S c = some r) : callee (fr n S) c = some r := by
  unfold calleeS at h
  unfold callee
  split at h
  · rename_i f hf
    rw [hf]
    simp only [ev_fr, evs_fr]
    split at h
    · rename_i g first cap args h1 h2
      rw [h1, h2]
      exact h
    · cases h
  · cases h

def natBS (n : Nat) (S : List (Nat × AV)) (d : Nat) : Option Operand → Option Int
  | none => some d
  | some x => (evS n S x).bind intA

theorem natB_fr {n : Nat} {S : List (Nat × AV)} {d : Nat} {o : Option Operand} {a : Int} (h : natBS n S d o = some a) (h0 : 0 ≤ a) : natB (fr n S) d o = some a.toNat := by
  cases o with
  | none => simp only [natBS, Option.some.injEq] at h; subst h; rfl
  | some x =>
    simp only [natBS] at h
    simp only [natB, ev_fr, h, Option.bind_some, h0, if_true]

section
variable {P : Program} {ops : Array Oper} {rest : List Oper} {R : AS → Prop} {n : Nat} {S : List (Nat × AV)} {df : List AD} {σ σ' : Mem} {d : Tmp} {op : Op} {bop : BinOp} {ty t yt e ft : TypeId} {ps : String} {af : Array Edge} {u v : AV} {x y : Operand} {i f off z id o len : Nat} {cs : List AV} {tk : Tok}

theorem TO_extract {vs : List AV} (hx : evS n S x = some (.tup vs)) (hv : vs[i]? = some v) (k : TO P ops rest ⟨fr n ((d, v) :: S), df, σ⟩ R) : TO P ops ({ dst := some d, op := .extract x i, type := ty, pos := ps, after := af, guard := none } :: rest) ⟨fr n S, df, σ⟩ R :=
  TO_plain (by simp [plainOp, memOp, ev_fr, hx, hv]) k

theorem TO_field (hf : fieldA P t f = some (ft, off)) (hx : evS n S x = some (.agg cs)) (hv : partA P ft cs off = some v) (k : TO P ops rest ⟨fr n ((d, v) :: S), df, σ⟩ R) : TO P ops ({ dst := some d, op := .field t x f, type := ty, pos := ps, after := af, guard := none } :: rest) ⟨fr n S, df, σ⟩ R :=
  TO_plain (by simp [plainOp, memOp, ev_fr, hf, hx, hv]) k

theorem TO_fieldAddr_c (hf : fieldA P t f = some (ft, off)) (hz : sizeA P ft = some (z + 1)) (hx : evS n S x = some (.cptr cs)) (k : TO P ops rest ⟨fr n ((d, .cptr (cs.drop off)) :: S), df, σ⟩ R) : TO P ops ({ dst := some d, op := .fieldAddr t x f, type := ty, pos := ps, after := af, guard := none } :: rest) ⟨fr n S, df, σ⟩ R :=
  TO_plain (by simp [plainOp, memOp, ev_fr, hf, hx, hz]) k
theorem TO_fieldAddr_p (hf : fieldA P t f = some (ft, off)) (hz : sizeA P ft = some (z + 1)) (hx : evS n S x = some (.ptr id o)) (k : TO P ops rest ⟨fr n ((d, .ptr id (o + off)) :: S), df, σ⟩ R) : TO P ops ({ dst := some d, op := .fieldAddr t x f, type := ty, pos := ps, after := af, guard := none } :: rest) ⟨fr n S, df, σ⟩ R :=
  TO_plain (by simp [plainOp, memOp, ev_fr, hf, hx, hz]) k

theorem TO_load_c (hx : evS n S x = some (.cptr cs)) (hv : loadA P t cs = some v) (k : TO P ops rest ⟨fr n ((d, v) :: S), df, σ⟩ R) : TO P ops ({ dst := some d, op := .load t x, type := ty, pos := ps, after := af, guard := none } :: rest) ⟨fr n S, df, σ⟩ R :=
  TO_plain (by simp [plainOp, memOp, ev_fr, hx, hv]) k
theorem TO_load_p (hx : evS n S x = some (.ptr id off)) (hc : σ[id]? = some (.cells cs)) (hv : loadA P t (cs.drop off) = some v) (k : TO P ops rest ⟨fr n ((d, v) :: S), df, σ⟩ R) : TO P ops ({ dst := some d, op := .load t x, type := ty, pos := ps, after := af, guard := none } :: rest) ⟨fr n S, df, σ⟩ R :=
  TO_plain (by simp [plainOp, memOp, ev_fr, hx, hc, hv]) k

theorem TO_store (ha : evS n S x = some (.ptr id off)) (hc : σ[id]? = some (.cells cs)) (hx : evS n S y = some v) (hs : sizeA P t = some v.cells.length) (hl : off + v.cells.length ≤ cs.length) (ho : v.cells.all AV.one = true) (k : TO P ops rest ⟨fr n S, df, σ.set id (.cells (putA cs off v.cells))⟩ R) : TO P ops ({ dst := none, op := .store t x y, type := ty, pos := ps, after := af, guard := none } :: rest) ⟨fr n S, df, σ⟩ R :=
  TO_plain0 (v := .undef) (by simp only [plainOp, memOp, ev_fr, ha, hc, hx, Option.bind_some]; rw [if_pos ⟨hs, hl, ho⟩]) k

theorem TO_nil_p (hx : evS n S x = some (.ptr id off)) (k : TO P ops rest ⟨fr n ((d, .ptr id off) :: S), df, σ⟩ R) : TO P ops ({ dst := some d, op := .nilCheck x, type := ty, pos := ps, after := af, guard := none } :: rest) ⟨fr n S, df, σ⟩ R :=
  TO_plain (by simp [plainOp, memOp, ev_fr, hx]) k
theorem TO_nil_c (hx : evS n S x = some (.cptr cs)) (k : TO P ops rest ⟨fr n ((d, .cptr cs) :: S), df, σ⟩ R) : TO P ops ({ dst := some d, op := .nilCheck x, type := ty, pos := ps, after := af, guard := none } :: rest) ⟨fr n S, df, σ⟩ R :=
  TO_plain (by simp [plainOp, memOp, ev_fr, hx]) k
theorem TO_nil_f {g : FuncId} {fs gs : List AV} (hx : evS n S x = some (.fn (.func g) fs gs)) (k : TO P ops rest ⟨fr n ((d, .fn (.func g) fs gs) :: S), df, σ⟩ R) : TO P ops ({ dst := some d, op := .nilCheck x, type := ty, pos := ps, after := af, guard := none } :: rest) ⟨fr n S, df, σ⟩ R :=
  TO_plain (by simp [plainOp, memOp, ev_fr, hx]) k

/-- An element of a list. -/
theorem TO_idx_sl {k : IntKind} {j : Int} {l : List AV} (ht : P.underlying t = some (.slice e)) (hz : sizeA P e = some z) (hx : evS n S x = some (.sl l tk)) (hy : evS n S y = some (.int k j)) (h0 : 0 ≤ j) (hl : l[j.toNat]? = some v) (hv : v.cells.length = z) (kk : TO P ops rest ⟨fr n ((d, .cptr v.cells) :: S), df, σ⟩ R) : TO P ops ({ dst := some d, op := .indexAddr t x y, type := ty, pos := ps, after := af, guard := none } :: rest) ⟨fr n S, df, σ⟩ R :=
  TO_plain (by simp [plainOp, memOp, ev_fr, hx, hy, intA, Int.not_lt.2 h0, ht, hz, hl, hv]) kk
/-- An element of an array that stays. -/
theorem TO_idx_ac {k : IntKind} {j : Int} (ht : P.underlying t = some (.array len e)) (hz : sizeA P e = some z) (hx : evS n S x = some (.cptr cs)) (hy : evS n S y = some (.int k j)) (h0 : 0 ≤ j) (hl : j.toNat < len) (kk : TO P ops rest ⟨fr n ((d, .cptr (cs.drop (j.toNat * z))) :: S), df, σ⟩ R) : TO P ops ({ dst := some d, op := .indexAddr t x y, type := ty, pos := ps, after := af, guard := none } :: rest) ⟨fr n S, df, σ⟩ R :=
  TO_plain (by simp [plainOp, memOp, ev_fr, hx, hy, intA, Int.not_lt.2 h0, ht, hz, hl]) kk
/-- An element of an array. -/
theorem TO_idx_ap {k : IntKind} {j : Int} (ht : P.underlying t = some (.array len e)) (hz : sizeA P e = some z) (hx : evS n S x = some (.ptr id off)) (hy : evS n S y = some (.int k j)) (h0 : 0 ≤ j) (hl : j.toNat < len) (kk : TO P ops rest ⟨fr n ((d, .ptr id (off + j.toNat * z)) :: S), df, σ⟩ R) : TO P ops ({ dst := some d, op := .indexAddr t x y, type := ty, pos := ps, after := af, guard := none } :: rest) ⟨fr n S, df, σ⟩ R :=
  TO_plain (by simp [plainOp, memOp, ev_fr, hx, hy, intA, Int.not_lt.2 h0, ht, hz, hl]) kk
/-- An element of a list that changes. -/
theorem TO_idx_ms {k : IntKind} {j : Int} {cap : Nat} (ht : P.underlying t = some (.slice e)) (hz : sizeA P e = some z) (hx : evS n S x = some (.msl id off len cap)) (hy : evS n S y = some (.int k j)) (h0 : 0 ≤ j) (hl : j.toNat < len) (kk : TO P ops rest ⟨fr n ((d, .ptr id (off + j.toNat * z)) :: S), df, σ⟩ R) : TO P ops ({ dst := some d, op := .indexAddr t x y, type := ty, pos := ps, after := af, guard := none } :: rest) ⟨fr n S, df, σ⟩ R :=
  TO_plain (by simp [plainOp, memOp, ev_fr, hx, hy, intA, Int.not_lt.2 h0, ht, hz, hl]) kk
/-- An element of an array's value. -/
theorem TO_index_agg {k : IntKind} {j : Int} (ht : P.underlying t = some (.array len e)) (hz : sizeA P e = some z) (hx : evS n S x = some (.agg cs)) (hy : evS n S y = some (.int k j)) (h0 : 0 ≤ j) (hl : j.toNat < len) (hv : partA P e cs (j.toNat * z) = some v) (kk : TO P ops rest ⟨fr n ((d, v) :: S), df, σ⟩ R) : TO P ops ({ dst := some d, op := .index t x y, type := ty, pos := ps, after := af, guard := none } :: rest) ⟨fr n S, df, σ⟩ R :=
  TO_plain (by simp [plainOp, memOp, ev_fr, hx, hy, intA, Int.not_lt.2 h0, ht, hz, hl, hv]) kk

/-- A part of a list. -/
theorem TO_lsl {l : List AV} {lo hi : Option Operand} {a b : Int} (ht : P.underlying t = some (.slice e)) (hz : sizeA P e = some z) (hx : evS n S x = some (.sl l tk)) (hlo : natBS n S 0 lo = some a) (hhi : natBS n S l.length hi = some b) (h0 : 0 ≤ a) (h1 : a ≤ b) (h2 : b ≤ l.length) (hk : sizeOK z l = true)
    (kk : TO P ops rest ⟨fr n ((d, .sl ((l.take b.toNat).drop a.toNat) (if b.toNat = l.length then (if a.toNat = 0 then tk else if tk = .full then .full else .dead) else .dead)) :: S), df, σ⟩ R) : TO P ops ({ dst := some d, op := .slice t x lo hi none, type := ty, pos := ps, after := af, guard := none } :: rest) ⟨fr n S, df, σ⟩ R := by
  refine TO_plain ?_ kk
  have e1 := natB_fr hlo h0
  have e2 := natB_fr hhi (by omega)
  have e3 : a.toNat ≤ b.toNat ∧ b.toNat ≤ l.length := ⟨by omega, by omega⟩
  have e4 : cutSl l tk a.toNat b.toNat none = some (.sl ((l.take b.toNat).drop a.toNat) (if b.toNat = l.length then (if a.toNat = 0 then tk else if tk = .full then .full else .dead) else .dead)) := by
    unfold cutSl
    rw [if_pos ⟨e3.1, e3.2, Nat.le_refl _⟩]
  simp [plainOp, memOp, ev_fr, hx, ht, hz, e1, e2, natM, hk, e4]

theorem TO_build {parts : Array (Nat × Operand)} {zv : AV} {pl : Nat → Option (Nat × Nat)} {qs : List (Nat × AV)} (hz : zeroA P t = some zv) (hp : placesA P t = some pl) (hq : partsS n S parts.toList = some qs) (hv : fillA pl zv.cells qs = some cs) (k : TO P ops rest ⟨fr n ((d, .agg cs) :: S), df, σ⟩ R) : TO P ops ({ dst := some d, op := .build t parts, type := ty, pos := ps, after := af, guard := none } :: rest) ⟨fr n S, df, σ⟩ R :=
  TO_plain (by simp only [plainOp, memOp, hz, hp, Option.bind_some, parts_fr, hq, hv, Option.map_some]) k

theorem TO_buildSlice {parts : Array (Nat × Operand)} {zv : AV} {vs : List AV} (ht : P.underlying t = some (.slice e)) (hz : sizeA P e = some z) (hzv : zeroA P e = some zv) (hq : evsS n S (parts.toList.map (·.2)) = some vs)
    (hc : parts.toList.map (·.1) = List.range len ∧ z ≠ 0 ∧ zv.cells.length = z ∧ len * z ≤ 16777216 ∧ (vs.all fun v => v.cells.length == z) = true) (k : TO P ops rest ⟨fr n ((d, .sl vs .full) :: S), df, σ⟩ R) : TO P ops ({ dst := some d, op := .buildSlice t len parts, type := ty, pos := ps, after := af, guard := none } :: rest) ⟨fr n S, df, σ⟩ R :=
  TO_plain (by simp only [plainOp, memOp, ht, hz, hzv, Option.bind_some, evs_fr, hq]; rw [if_pos hc]) k

theorem TO_makeFunc {fn : Fn} {first cap : Array Operand} {fs gs : List AV} (hf : evsS n S first.toList = some fs) (hg : evsS n S cap.toList = some gs) (k : TO P ops rest ⟨fr n ((d, .fn fn fs gs) :: S), df, σ⟩ R) : TO P ops ({ dst := some d, op := .makeFunc fn first cap, type := ty, pos := ps, after := af, guard := none } :: rest) ⟨fr n S, df, σ⟩ R :=
  TO_plain (by simp [plainOp, memOp, evs_fr, hf, hg]) k

theorem TO_alloc (hz : zeroA P e = some v) (k : TO P ops rest ⟨fr n ((d, .ptr σ.length 0) :: S), df, σ ++ [.cells v.cells]⟩ R) : TO P ops ({ dst := some d, op := .alloc e, type := ty, pos := ps, after := af, guard := none } :: rest) ⟨fr n S, df, σ⟩ R :=
  TO_plain (by simp [plainOp, memOp, hz]) k
theorem TO_box (hx : evS n S x = some v) (k : TO P ops rest ⟨fr n ((d, .ptr σ.length 0) :: S), df, σ ++ [.cells v.cells]⟩ R) : TO P ops ({ dst := some d, op := .box e x, type := ty, pos := ps, after := af, guard := none } :: rest) ⟨fr n S, df, σ⟩ R :=
  TO_plain (by simp [plainOp, memOp, ev_fr, hx]) k
theorem TO_iface (ht : ∀ ms, P.underlying t ≠ some (.interface ms)) (hs : (P.underlying t).isSome = true) (hx : evS n S x = some v) (k : TO P ops rest ⟨fr n ((d, .iface t v) :: S), df, σ⟩ R) : TO P ops ({ dst := some d, op := .makeInterface t x, type := ty, pos := ps, after := af, guard := none } :: rest) ⟨fr n S, df, σ⟩ R := by
  refine TO_plain ?_ k
  obtain ⟨td, h⟩ := Option.isSome_iff_exists.1 hs
  simp only [plainOp, memOp, h, Option.bind_some, ev_fr, hx]
  cases td <;> first | rfl | exact absurd h (ht _)

theorem TO_append {c : Call} (hc : c.callee = .builtin .append) (ha : c.args = #[x, y]) (hts : c.argTypes = #[t, e]) (hx : evS n S x = some u) (hy : evS n S y = some v) {r : AV} (hr : appendA P σ t e u v = some (r, σ')) (k : TO P ops rest ⟨fr n ((d, r) :: S), df, σ'⟩ R) : TO P ops ({ dst := some d, op := .call c, type := ty, pos := ps, after := af, guard := none } :: rest) ⟨fr n S, df, σ⟩ R :=
  TO_plain (by simp [plainOp, callB, hc, ha, hts, ev_fr, hx, hy, appendX_of hr]) k

/-- A call of a function. -/
theorem TO_callE {c : Call} {g : FuncId} {args : List AV} {Rc : AV → Mem → Prop} (hc : calleeS n S c = some (g, args)) (he : enters P g = true) (h : CallE P g args σ Rc) (k : ∀ v σ', Rc v σ' → TO P ops rest ⟨fr n ((d, v) :: S), df, σ'⟩ R) :
    TO P ops ({ dst := some d, op := .call c, type := ty, pos := ps, after := af, guard := none } :: rest) ⟨fr n S, df, σ⟩ R := by
  obtain ⟨v, σ', h1, h2⟩ := h
  exact TO_call (callee_fr hc) he h1 (k v σ' h2)
theorem TO_callA {c : Call} {g : FuncId} {args : List AV} (hc : calleeS n S c = some (g, args)) (he : enters P g = true) (h : ACall P g args σ v σ') (k : TO P ops rest ⟨fr n ((d, v) :: S), df, σ'⟩ R) :
    TO P ops ({ dst := some d, op := .call c, type := ty, pos := ps, after := af, guard := none } :: rest) ⟨fr n S, df, σ⟩ R := TO_call (callee_fr hc) he h k
theorem TO_callA0 {c : Call} {g : FuncId} {args : List AV} (hc : calleeS n S c = some (g, args)) (he : enters P g = true) (h : ACall P g args σ v σ') (k : TO P ops rest ⟨fr n S, df, σ'⟩ R) :
    TO P ops ({ dst := none, op := .call c, type := ty, pos := ps, after := af, guard := none } :: rest) ⟨fr n S, df, σ⟩ R := TO_call0 (callee_fr hc) he h k

/-- A list of bytes, as a text. -/
theorem TO_conv_text {l : List AV} {ns : List Int} (hs : P.underlying t = some (.slice yt)) (hu : isU8 P yt = true) (he : P.underlying e = some .string) (hx : evS n S x = some (.sl l tk)) (hl : bytesA l = some ns) (k : TO P ops rest ⟨fr n ((d, .str (strOfNums ns)) :: S), df, σ⟩ R) : TO P ops ({ dst := some d, op := .convert t e x, type := ty, pos := ps, after := af, guard := none } :: rest) ⟨fr n S, df, σ⟩ R :=
  TO_plain (by simp [plainOp, convA, ev_fr, hx, hs, he, hu, hl]) k
/-- A text, as a list of bytes. -/
theorem TO_conv_bytes {s : ByteArray} (hs : P.underlying t = some .string) (he : P.underlying e = some (.slice yt)) (hu : isU8 P yt = true) (hx : evS n S x = some (.str s)) (hz : s.size ≤ 9223372036854775807) (k : TO P ops rest ⟨fr n ((d, .sl (strElems s) (.live σ.length)) :: S), df, σ ++ [AO.tok true]⟩ R) : TO P ops ({ dst := some d, op := .convert t e x, type := ty, pos := ps, after := af, guard := none } :: rest) ⟨fr n S, df, σ⟩ R :=
  TO_plain (by simp [plainOp, convA, ev_fr, hx, hs, he, hu, hz]) k
end

theorem TO_guard_no_t {P : Program} {ops : Array Oper} {rest : List Oper} {R : AS → Prop} {n : Nat} {S : List (Nat × AV)} {df : List AD} {σ : Mem} {op : Op} {ty : TypeId} {ps : String} {af : Array Edge} {j : Nat} {b : Bool} {dj d : Tmp} (hj : (ops[j]?).bind (·.dst) = some dj) (hb : evS n S (.tmp dj) = some (.bool b)) (hw : b = false)
    (hf : TO P ops rest ⟨fr n ((d, .undef) :: S), df, σ⟩ R) : TO P ops ({ dst := some d, op := op, type := ty, pos := ps, after := af, guard := some (j, true) } :: rest) ⟨fr n S, df, σ⟩ R := TO_guard_no hj hb hw hf
theorem TO_guard_no_f {P : Program} {ops : Array Oper} {rest : List Oper} {R : AS → Prop} {n : Nat} {S : List (Nat × AV)} {df : List AD} {σ : Mem} {op : Op} {ty : TypeId} {ps : String} {af : Array Edge} {j : Nat} {b : Bool} {dj d : Tmp} (hj : (ops[j]?).bind (·.dst) = some dj) (hb : evS n S (.tmp dj) = some (.bool b)) (hw : b = true)
    (hf : TO P ops rest ⟨fr n ((d, .undef) :: S), df, σ⟩ R) : TO P ops ({ dst := some d, op := op, type := ty, pos := ps, after := af, guard := some (j, false) } :: rest) ⟨fr n S, df, σ⟩ R := TO_guard_no hj hb hw hf

/-- What stands before a branch, by what is known at the branch; what is asked about is written into slot t on several ways. -/
theorem TE_mid_or {P : Program} {Q : AE → AS → Prop} {c1 c2 d1 d2 : Code} {n : Nat} {S : List (Nat × AV)} {df : List AD} {σ : Mem} (t : Tmp) (R : List (Nat × AV)) (h : TE P (.seq c1 (.cond (.tmp t) .skip c2)) ⟨fr n S, df, σ⟩ (fun e z => e = .normal ∧ Le z ⟨fr n R, df, σ⟩)) (k : TE P (.cond (.tmp t) d1 d2) ⟨fr n R, df, σ⟩ Q) :
    TE P (.seq (.seq c1 (.cond (.tmp t) .skip c2)) (.cond (.tmp t) d1 d2)) ⟨fr n S, df, σ⟩ Q := TE_seq_mid R h k
/-- The same before any branch at t. -/
theorem TE_mid_at {P : Program} {Q : AE → AS → Prop} {c d1 d2 : Code} {n : Nat} {S : List (Nat × AV)} {df : List AD} {σ : Mem} (t : Tmp) (R : List (Nat × AV)) (h : TE P c ⟨fr n S, df, σ⟩ (fun e z => e = .normal ∧ Le z ⟨fr n R, df, σ⟩)) (k : TE P (.cond (.tmp t) d1 d2) ⟨fr n R, df, σ⟩ Q) :
    TE P (.seq c (.cond (.tmp t) d1 d2)) ⟨fr n S, df, σ⟩ Q := TE_seq_mid R h k

/-- Of two ways, whichever is gone. -/
theorem TE_cond_t {P : Program} {Q : AE → AS → Prop} {c : Operand} {d1 d2 : Code} {n : Nat} {S : List (Nat × AV)} {df : List AD} {σ : Mem} {b : Bool} (hc : evS n S c = some (.bool b)) (hb : b = true) (h : TE P d1 ⟨fr n S, df, σ⟩ Q) : TE P (.cond c d1 d2) ⟨fr n S, df, σ⟩ Q :=
  TE_cond hc (fun _ => h) (fun h2 => by rw [hb] at h2; cases h2)
theorem TE_cond_f {P : Program} {Q : AE → AS → Prop} {c : Operand} {d1 d2 : Code} {n : Nat} {S : List (Nat × AV)} {df : List AD} {σ : Mem} {b : Bool} (hc : evS n S c = some (.bool b)) (hb : b = false) (h : TE P d2 ⟨fr n S, df, σ⟩ Q) : TE P (.cond c d1 d2) ⟨fr n S, df, σ⟩ Q :=
  TE_cond hc (fun h2 => by rw [hb] at h2; cases h2) (fun _ => h)
end Go.Proofs.Ytihbdelgoapeoaa.K
/- Walking over abstract states by rules: loops with what is asked kept in one word; more ends. -/
namespace Go.Proofs.Ytihbdelgoapeoaa.K
open Go Go.RowKit
set_option linter.unusedSimpArgs false
set_option linter.unusedVariables false

/-- What is asked of a round. -/
def loopQ {α : Type} (st : α → AS) (I : α → Prop) (μ : α → Nat) (m : Nat) (Q : AE → AS → Prop) : AE → AS → Prop
  | .normal, z => ∃ y', I y' ∧ μ y' < m ∧ Le z (st y')
  | e, z => Q e z

section
variable {P : Program} {Q : AE → AS → Prop} {α : Type} {st : α → AS} {I : α → Prop} {μ : α → Nat} {m : Nat}

theorem TE_loopI {c : Code} (st : α → AS) (I : α → Prop) (μ : α → Nat) (a : α) (h0 : I a) (round : ∀ y, I y → TE P c (st y) (loopQ st I μ (μ y) Q)) : TE P (.loop c) (st a) Q := by
  refine TE_loopP st I μ a h0 fun y hy => (round y hy).mono fun e z h => ?_
  cases e <;> exact h
theorem loopQ_exit {j : Nat} {z : AS} (h : Q (.exit j) z) : loopQ st I μ m Q (.exit j) z := h
theorem loopQ_ret {z : AS} (h : Q .ret z) : loopQ st I μ m Q .ret z := h
theorem loopQ_again {z : AS} (a : α) (hI : I a) (hm : μ a < m) (hl : Le z (st a)) : loopQ st I μ m Q .normal z := ⟨a, hI, hm, hl⟩

/-- A loop by known slots: from what is known at its head. -/
theorem TE_loopS {c : Code} {n : Nat} {S : List (Nat × AV)} {df : List AD} {σ : Mem} (st : α → AS) (I : α → Prop) (μ : α → Nat) (a : α) (h0 : I a) (hl : Le ⟨fr n S, df, σ⟩ (st a)) (round : ∀ y, I y → TE P c (st y) (loopQ st I μ (μ y) Q)) : TE P (.loop c) ⟨fr n S, df, σ⟩ Q :=
  TE_pre hl (TE_loopI st I μ a h0 round)
end

/-- What is asked at a cut: known slots, if the code goes on. -/
def cutQ (y : AS) (Q : AE → AS → Prop) : AE → AS → Prop
  | .normal, z => Le z y
  | e, z => Q e z
theorem cutQ_exit {Q : AE → AS → Prop} {y z : AS} {j : Nat} (h : Q (.exit j) z) : cutQ y Q (.exit j) z := h
theorem cutQ_ret {Q : AE → AS → Prop} {y z : AS} (h : Q .ret z) : cutQ y Q .ret z := h
theorem cutQ_normal {Q : AE → AS → Prop} {n : Nat} {S R : List (Nat × AV)} {df : List AD} {σ : Mem} (h : knows S R) : cutQ ⟨fr n R, df, σ⟩ Q .normal ⟨fr n S, df, σ⟩ := Le_fr h

theorem TE_cut {P : Program} {c d : Code} {Q : AE → AS → Prop} {x y : AS} (h : TE P c x (cutQ y Q)) (k : TE P d y Q) : TE P (.seq c d) x Q := by
  refine TE_seq (h.mono fun e z hz => ?_)
  cases e with
  | normal => exact TE_pre hz k
  | exit j => exact hz
  | ret => exact hz
/-- A cut behind a block. -/
theorem TE_cut_blk {P : Program} {c d : Code} {Q : AE → AS → Prop} {n : Nat} {S : List (Nat × AV)} {df : List AD} {σ : Mem} (id : Nat) (R : List (Nat × AV)) (h : TE P (.block id c) ⟨fr n S, df, σ⟩ (cutQ ⟨fr n R, df, σ⟩ Q)) (k : TE P d ⟨fr n R, df, σ⟩ Q) : TE P (.seq (.block id c) d) ⟨fr n S, df, σ⟩ Q := TE_cut h k

section
variable {P : Program} {ops : Array Oper} {rest : List Oper} {R : AS → Prop} {n : Nat} {S : List (Nat × AV)} {df : List AD} {σ σ' : Mem} {d : Tmp} {op : Op} {bop : BinOp} {ty t yt e : TypeId} {ps : String} {af : Array Edge} {u v : AV} {x y : Operand}

/-- A guard that was itself not carried out. -/
theorem TO_guard_un {j : Nat} {want : Bool} {dj d : Tmp} (hj : (ops[j]?).bind (·.dst) = some dj) (hb : evS n S (.tmp dj) = some .undef)
    (hf : TO P ops rest ⟨fr n ((d, .undef) :: S), df, σ⟩ R) : TO P ops ({ dst := some d, op := op, type := ty, pos := ps, after := af, guard := some (j, want) } :: rest) ⟨fr n S, df, σ⟩ R := by
  obtain ⟨x', h1, h2⟩ := hf
  have hg : (fr n S)[dj]? = some (some .undef) := by
    rw [fr_get]
    simp only [evS] at hb
    split at hb
    · rename_i h; rw [if_pos h, hb]
    · cases hb
  refine ⟨x', .skip ?_ ?_, h2⟩
  · simp only [wantedA, hj, Option.bind_some, hg]
    rfl
  · simp only [AS.put, fr_put]
    exact h1

theorem wrap64 {c : Int} (h0 : -9223372036854775808 ≤ c) (h1 : c ≤ 9223372036854775807) : IntKind.i64.wrap c = c := by
  exact IntWalk.i64_in c ⟨h0, h1⟩

/-- Sums that are no greater than an int. -/
theorem TO_add64 {a b : Int} (hx : evS n S x = some (.int .i64 a)) (hy : evS n S y = some (.int .i64 b)) (h0 : -9223372036854775808 ≤ a + b) (h1 : a + b ≤ 9223372036854775807) (kk : TO P ops rest ⟨fr n ((d, .int .i64 (a + b)) :: S), df, σ⟩ R) : TO P ops ({ dst := some d, op := .binOp .add t x y yt, type := ty, pos := ps, after := af, guard := none } :: rest) ⟨fr n S, df, σ⟩ R :=
  TO_ari hx hy rfl (by rw [wrap64 h0 h1]; exact kk)
theorem TO_sub64 {a b : Int} (hx : evS n S x = some (.int .i64 a)) (hy : evS n S y = some (.int .i64 b)) (h0 : -9223372036854775808 ≤ a - b) (h1 : a - b ≤ 9223372036854775807) (kk : TO P ops rest ⟨fr n ((d, .int .i64 (a - b)) :: S), df, σ⟩ R) : TO P ops ({ dst := some d, op := .binOp .sub t x y yt, type := ty, pos := ps, after := af, guard := none } :: rest) ⟨fr n S, df, σ⟩ R :=
  TO_ari hx hy rfl (by rw [wrap64 h0 h1]; exact kk)
end
end Go.Proofs.Ytihbdelgoapeoaa.K
