/- Abstract values and what the machine makes of them: part G. -/
import Derived.Test.YtihbdelgoapeoaaKKF
import Derived.Carry
import Derived.ChangeArms
import Derived.WideShapes
import Derived.Laws.StructEq
/- Arguments as they are read: typed values. -/
namespace Go.Proofs.Ytihbdelgoapeoaa.K
open Go Go.RowKit F
set_option linter.unusedSimpArgs false
set_option linter.unusedVariables false

/-- These cells are these values. -/
def CellsRel (w : World) (v : AV) (cs : List Value) : Prop := v.cells.length = cs.length ∧ ∀ i y, v.cells[i]? = some y → Rel Gh.none w y (cs.getD i undef)

/-- What is read as of this type is a typed value, of which Q holds. -/
def Opens {α : Type} (P : Program) (t : TypeId) (E : Enc α) (Q : α → Prop) : Prop :=
  ∀ {H : Type} {enc : TypeId × Value → H} {w : World} {base : Nat} {spare : Nat → Bool} {held : Bool} {fuel : Nat} {cs : List Value} {x : DataW H × List MemPlace},
    DataW.trod enc P w base spare held fuel t cs = some x → ∃ v a, E.rel v a ∧ Q a ∧ CellsRel w v cs

theorem CellsRel.one {w : World} {v : AV} {u : Value} (hv : v.cells = [v]) (h : Rel Gh.none w v u) : CellsRel w v [u] := by
  refine ⟨by rw [hv]; rfl, fun i y hy => ?_⟩
  rw [hv] at hy
  cases i with
  | zero => simp at hy; subst hy; exact h
  | succ i => simp at hy

section
variable {P : Program} {t e : TypeId}

theorem wf_i64 {n : Int} (h : (Lit.int .i64 n).wf = true) : -9223372036854775808 ≤ n ∧ n ≤ 9223372036854775807 := by
  simp [Lit.wf, IntKind.min, IntKind.max, IntKind.bits, IntKind.signed] at h
  omega
theorem wf_i32 {n : Int} (h : (Lit.int .i32 n).wf = true) : -2147483648 ≤ n ∧ n ≤ 2147483647 := by
  simp [Lit.wf, IntKind.min, IntKind.max, IntKind.bits, IntKind.signed] at h
  omega
theorem wf_u8 {n : Int} (h : (Lit.int .u8 n).wf = true) : 0 ≤ n ∧ n < 256 := by
  simp [Lit.wf, IntKind.min, IntKind.max, IntKind.bits, IntKind.signed] at h
  omega
theorem opens_i64 (ht : P.underlying t = some (.int .i64)) : Opens P t (eI .i64) (fun n => -9223372036854775808 ≤ n ∧ n ≤ 9223372036854775807) := fun h => by
  obtain ⟨n, rfl, _, hw⟩ := DataW.trod_int ht h
  exact ⟨_, n, rfl, wf_i64 hw, CellsRel.one rfl (.int _ _)⟩
theorem opens_i32 (ht : P.underlying t = some (.int .i32)) : Opens P t (eI .i32) (fun n => -2147483648 ≤ n ∧ n ≤ 2147483647) := fun h => by
  obtain ⟨n, rfl, _, hw⟩ := DataW.trod_int ht h
  exact ⟨_, n, rfl, wf_i32 hw, CellsRel.one rfl (.int _ _)⟩
theorem opens_u8 (ht : P.underlying t = some (.int .u8)) : Opens P t eB8 (fun n => 0 ≤ n ∧ n < 256) := fun h => by
  obtain ⟨n, rfl, _, hw⟩ := DataW.trod_int ht h
  exact ⟨_, n, ⟨rfl, wf_u8 hw⟩, wf_u8 hw, CellsRel.one rfl (.int _ _)⟩
theorem opens_y (ht : P.underlying t = some (.int .u8)) : Opens P t eY (fun _ => True) := fun h => by
  obtain ⟨n, rfl, _, hw⟩ := DataW.trod_int ht h
  exact ⟨_, u8 n, eY_u8 (wf_u8 hw).1 (wf_u8 hw).2, trivial, CellsRel.one rfl (.int _ _)⟩
theorem opens_bool (ht : P.underlying t = some .bool) : Opens P t eB (fun _ => True) := fun h => by
  obtain ⟨b, rfl, _⟩ := DataW.trod_bool ht h
  exact ⟨_, b, rfl, trivial, CellsRel.one rfl (.bool _)⟩
theorem opens_str (ht : P.underlying t = some .string) : Opens P t eS (fun s => s.length ≤ 9223372036854775807) := fun h => by
  obtain ⟨s, rfl, _, hl⟩ := DataW.trod_string ht h
  refine ⟨_, s.data.toList, rfl, ?_, ?_⟩
  · show s.data.toList.length ≤ _
    rw [Array.length_toList]; exact hl
  · rw [bs_of]; exact CellsRel.one rfl (.str _)

theorem take_each {α : Type} {E : Enc α} {Q : α → Prop} {w : World} {c : Nat → List Value} : ∀ n, (∀ i, i < n → ∃ v a, E.rel v a ∧ Q a ∧ CellsRel w v (c i)) →
    ∃ vs as, vs.length = n ∧ All2 E.rel vs as ∧ (∀ a ∈ as, Q a) ∧ ∀ i v, vs[i]? = some v → CellsRel w v (c i)
  | 0, _ => ⟨[], [], rfl, trivial, fun a h => by simp at h, fun i v h => by simp at h⟩
  | n + 1, h => by
    obtain ⟨vs, as, h1, h2, h3, h4⟩ := take_each n fun i hi => h i (by omega)
    obtain ⟨v, a, g1, g2, g3⟩ := h n (by omega)
    refine ⟨vs ++ [v], as ++ [a], by simp [h1], h2.append ⟨g1, trivial⟩, fun b hb => ?_, fun i u hu => ?_⟩
    · rcases List.mem_append.1 hb with hb | hb
      · exact h3 b hb
      · simp at hb; subst hb; exact g2
    · rw [List.getElem?_append] at hu
      split at hu
      · exact h4 i u hu
      · rename_i hl
        have hi : i = n := by
          have := (List.getElem?_eq_some_iff.1 hu).1
          simp at this
          omega
        subst hi
        simp [h1] at hu
        subst hu
        exact g3

theorem opens_slice {α : Type} {E : Enc α} {Q : α → Prop} (ht : P.underlying t = some (.slice e)) (hz : P.cellsOf e = E.size) (he : Opens P e E Q) : Opens P t (eL E) (fun l => l.length ≤ 9223372036854775807 ∧ ∀ a ∈ l, Q a) := fun {H enc w base spare held fuel cs x} h => by
  rcases DataW.trod_slice ht h with ⟨rfl, _⟩ | ⟨a, len, cap, elems, rest, n, _, rfl, _, hb, hl, hm, hlen, hel, _, _⟩
  · exact ⟨.nils, [], .inl ⟨rfl, rfl⟩, ⟨by simp, fun a h => by simp at h⟩, CellsRel.one rfl .nils⟩
  · have hml : len ≤ 9223372036854775807 := by have : cap ≤ 9223372036854775807 := hm; omega
    have key : ∀ i, i < len → ∃ cs', (w.cells? base (a.add (i * P.cellsOf e)) (P.cellsOf e)) = some cs' ∧ ∃ v b, E.rel v b ∧ Q b ∧ CellsRel w v cs' := by
      intro i hi
      have h1 := hel i hi
      rw [List.getElem?_eq_getElem (by omega)] at h1
      obtain ⟨cs', g1, g2⟩ := Option.bind_eq_some_iff.1 h1
      obtain ⟨v, b, k1, k2, k3⟩ := he g2
      exact ⟨cs', g1, v, b, k1, k2, k3⟩
    obtain ⟨vs, as, h1, h2, h3, h4⟩ := take_each (E := E) (Q := Q) (w := w) (c := fun i => ((w.cells? base (a.add (i * P.cellsOf e)) (P.cellsOf e)).getD [])) len fun i hi => by
      obtain ⟨cs', g1, v, b, k1, k2, k3⟩ := key i hi
      exact ⟨v, b, k1, k2, by rw [g1]; exact k3⟩
    refine ⟨.sl vs .dead, as, RS.of h2, ⟨by rw [← h2.length, h1]; exact hml, h3⟩, CellsRel.one rfl ?_⟩
    have hsz : ∀ v ∈ vs, v.cells.length = E.size := fun v hv => by obtain ⟨b, hb⟩ := h2.mem v hv; exact E.sz _ _ hb
    have hfl := flat_length hsz
    -- each cell, by its element
    have cell : ∀ j, j < len * E.size → ∃ u, w.cell? (a.add j) = some u ∧ ∀ y, (flat vs)[j]? = some y → Rel Gh.none w y u := by
      intro j hj
      have hp : 0 < E.size := Nat.pos_of_ne_zero fun h0 => by rw [h0] at hj; simp at hj
      have hi : j / E.size < len := by rw [Nat.div_lt_iff_lt_mul hp]; exact hj
      obtain ⟨cs', g1, _⟩ := key _ hi
      obtain ⟨_, gl, gc⟩ := World.cells?_some g1
      have hm' : j % E.size < E.size := Nat.mod_lt _ hp
      have hadd : a.add j = (a.add (j / E.size * P.cellsOf e)).add (j % E.size) := by
        rw [Addr.add_add, hz, Nat.mul_comm]
        congr 1
        exact (Nat.div_add_mod j E.size).symm
      have hc := gc (j % E.size) (by rw [hz]; exact hm')
      rw [List.getElem?_eq_getElem (by rw [gl, hz]; exact hm')] at hc
      refine ⟨_, by rw [hadd]; exact hc, fun y hy => ?_⟩
      have hvi : j / E.size < vs.length := by omega
      have hv4 := h4 _ _ (List.getElem?_eq_getElem hvi)
      rw [g1] at hv4
      have hcl := hsz _ (List.getElem_mem hvi)
      have hy1 : (vs[j / E.size].cells)[j % E.size]? = some (vs[j / E.size].cells[j % E.size]) := List.getElem?_eq_getElem (by rw [hcl]; exact hm')
      have hy2 : (vs[j / E.size].cells)[j % E.size]? = some y := by
        have h5 := flat_get hsz (List.getElem?_eq_getElem hvi) hy1
        rw [Nat.mul_comm, Nat.div_add_mod, hy] at h5
        rw [hy1, h5]
      have := hv4.2 _ _ hy2
      simpa [List.getD, List.getElem?_eq_getElem (show j % E.size < cs'.length by rw [gl, hz]; exact hm')] using this
    refine .sl E.size (fun j => (w.cell? (a.add j)).getD undef) h1.symm hml hsz (fun j hj => ?_) (fun j y hy => ?_) (fun h => by cases h) hl (fun k hk => by cases hk)
    · obtain ⟨u, hu, _⟩ := cell j hj
      exact ⟨by simp only [hu, Option.getD_some], Gh.none_sealed _ _⟩
    · have hj := (List.getElem?_eq_some_iff.1 hy).1
      rw [hfl, h1] at hj
      obtain ⟨u, hu, hr⟩ := cell j hj
      rw [hu]
      exact hr y hy

/-- The cells from a place on are these values. -/
def CR (w : World) (cs : List Value) (off : Nat) (L : List AV) : Prop := off + L.length = cs.length ∧ ∀ i y, L[i]? = some y → Rel Gh.none w y (cs.getD (off + i) undef)
theorem CR.nil {w : World} {cs : List Value} {off : Nat} (h : off = cs.length) : CR w cs off [] := ⟨by simpa using h, fun i y hy => by simp at hy⟩
theorem CR.cons {w : World} {cs : List Value} {off k off2 : Nat} {v : AV} {vc L : List AV} (hc : CellsRel w v ((cs.drop off).take k)) (hv : v.cells = vc) (hk : vc.length = k) (ho : off + k = off2) (h : CR w cs off2 L) : CR w cs off (vc ++ L) := by
  subst hv
  subst ho
  refine ⟨by rw [List.length_append, hk, ← Nat.add_assoc]; exact h.1, fun i y hy => ?_⟩
  rw [List.getElem?_append] at hy
  split at hy
  · rename_i hi
    have h2 := hc.2 i y hy
    have hik : i < k := by omega
    have e : ((cs.drop off).take k).getD i undef = cs.getD (off + i) undef := by
      simp only [List.getD, List.getElem?_take, if_pos hik, List.getElem?_drop]
    rwa [e] at h2
  · rename_i hi
    have h2 := h.2 _ y hy
    rw [hk] at h2
    have e : off + k + (i - k) = off + i := by omega
    rwa [e] at h2
theorem CR.agg {w : World} {cs : List Value} {L : List AV} (h : CR w cs 0 L) : CellsRel w (.agg L) cs := ⟨by have := h.1; rw [Nat.zero_add] at this; exact this, fun i y hy => by have := h.2 i y hy; rwa [Nat.zero_add] at this⟩

/-- An argument. -/
theorem CellsRel.arg {w : World} {v : AV} {u : Value} (h : CellsRel w v u.cells.toList) (hu : (∃ cs, v = .agg cs ∧ ∃ us, u = .agg us) ∨ (v.cells = [v] ∧ u.cells = #[u])) : Rel Gh.none w v u := by
  rcases hu with ⟨cs, rfl, us, rfl⟩ | ⟨h1, h2⟩
  · refine .agg (by have := h.1; simpa [AV.cells, Value.cells] using this.symm) fun i x hx => ?_
    have := h.2 i x hx
    simpa [Value.cells, List.getD, Array.getD_eq_getD_getElem?] using this
  · have := h.2 0 v (by rw [h1]; rfl)
    rw [h2] at this
    simpa using this
theorem arg_one {P : Program} {w : World} {H : Type} {enc : TypeId × Value → H} {base : Nat} {sp : Nat → Bool} {hd : Bool} {α : Type} {E : Enc α} {Q : α → Prop} {v : Value} {d : DataW H} {p : List MemPlace} (ho : Opens P t E Q) (h : DataW.Trod enc P w base sp hd t v d p) (hv : v.cells = #[v]) (he : ∀ u a, E.rel u a → u.cells = [u]) :
    ∃ u a, E.rel u a ∧ Q a ∧ Rel Gh.none w u v := by
  obtain ⟨fuel, h⟩ := h
  obtain ⟨u, a, h1, h2, h3⟩ := ho h
  exact ⟨u, a, h1, h2, h3.arg (.inr ⟨he _ _ h1, hv⟩)⟩
theorem arg_agg {P : Program} {w : World} {H : Type} {enc : TypeId × Value → H} {base : Nat} {sp : Nat → Bool} {hd : Bool} {α : Type} {E : Enc α} {Q : α → Prop} {v : Value} {d : DataW H} {p : List MemPlace} (ho : Opens P t E Q) (h : DataW.Trod enc P w base sp hd t v d p) (hv : ∃ us, v = .agg us) (he : ∀ u a, E.rel u a → ∃ cs, u = .agg cs) :
    ∃ u a, E.rel u a ∧ Q a ∧ Rel Gh.none w u v := by
  obtain ⟨fuel, h⟩ := h
  obtain ⟨u, a, h1, h2, h3⟩ := ho h
  obtain ⟨cs, hc⟩ := he _ _ h1
  exact ⟨u, a, h1, h2, h3.arg (.inl ⟨cs, hc, hv⟩)⟩
theorem one_eI {k : IntKind} : ∀ u a, (eI k).rel u a → u.cells = [u] := by rintro _ _ rfl; rfl
theorem one_eB8 : ∀ u a, eB8.rel u a → u.cells = [u] := by rintro _ _ ⟨rfl, _⟩; rfl
theorem one_eB : ∀ u a, eB.rel u a → u.cells = [u] := by rintro _ _ rfl; rfl
theorem one_eS : ∀ u a, eS.rel u a → u.cells = [u] := by rintro _ _ rfl; rfl
theorem one_eL {α : Type} {E : Enc α} : ∀ u a, (eL E).rel u a → u.cells = [u] := fun u a h => RS.cells h

/-- What a call of the machine's comes to, that is handed typed values. -/
theorem CallE.calls {P : Program} {f : FuncId} {args : List AV} {b : Bool} (h : CallE P f args [] fun v σ' => eB.rel v b ∧ Ext [] σ') {w : World} {vs : Array Value} (hargs : Rels Gh.none w args vs) : Calls P f vs w fun e w' => e = .returned (.bool b) ∧ Below w.heap.size w w' := by
  obtain ⟨v, σ', h1, h2, _⟩ := h
  obtain rfl : v = .bool b := h2
  exact h1.calls hargs rfl
theorem rels_nil {w : World} : Rels Gh.none w [] #[] := Rels.nil _ _
theorem rels_cons {w : World} {x : AV} {v : Value} {xs : List AV} {vs : List Value} (h : Rel Gh.none w x v) (k : Rels Gh.none w xs vs.toArray) : Rels Gh.none w (x :: xs) (v :: vs).toArray := by
  refine ⟨by have := k.1; simp at this ⊢; exact this, fun i y hy => ?_⟩
  cases i with
  | zero => simp at hy; subst hy; simpa [Array.getD_eq_getD_getElem?] using h
  | succ i =>
    have := k.2 i y (by simpa using hy)
    simpa [Array.getD_eq_getD_getElem?] using this
theorem rels_of {w : World} {args : List AV} {vs : List Value} (h : args.length = vs.length) (hr : ∀ (i : Nat) x v, args[i]? = some x → vs[i]? = some v → Rel Gh.none w x v) : Rels Gh.none w args vs.toArray := by
  refine ⟨by simp [h], fun i x hx => ?_⟩
  have hi := (List.getElem?_eq_some_iff.1 hx).1
  have hv : vs[i]? = some (vs[i]'(by omega)) := List.getElem?_eq_getElem (by omega)
  have := hr i x _ hx hv
  simpa [Array.getD_eq_getD_getElem?, hv] using this
end
end Go.Proofs.Ytihbdelgoapeoaa.K
/- Structs held against each other. -/
namespace Go.Proofs.Ytihbdelgoapeoaa.K
open Go Go.RowKit F
set_option linter.unusedSimpArgs false
set_option linter.unusedVariables false

section
variable {P : Program}
/-- Field by field. -/
def EqF (P : Program) (d : Nat) (xs ys : Array Value) : List Field → Bool → Prop
  | [], r => r = true
  | f :: fs, r => f.name ≠ "_" ∧ ∃ a b e s, pureRun P (part f.type xs f.offset) = some a ∧ pureRun P (part f.type ys f.offset) = some b ∧ pureRun P (Op.equalIn d f.type a b) = some e ∧ EqF P d xs ys fs s ∧ r = (e && s)

theorem eqf_loop {d : Nat} {xs ys : Array Value} (body : Field → (Option Bool × Unit) → Sem (ForInStep ((Option Bool × Unit))))
    (hb : ∀ f a b e, f.name ≠ "_" → pureRun P (part f.type xs f.offset) = some a → pureRun P (part f.type ys f.offset) = some b → pureRun P (Op.equalIn d f.type a b) = some e → pureRun P (body f (none, ())) = some (if e then .yield (none, ()) else .done (some false, ()))) :
    ∀ (fs : List Field) (r : Bool), EqF P d xs ys fs r → pureRun P (forIn fs ((none, ()) : Option Bool × Unit) body) = some (if r then none else some false, ())
  | [], r, h => by
    have : r = true := h
    subst this
    simp [pureRun, pure]
  | f :: fs, r, h => by
    obtain ⟨hn, a, b, e, s, h1, h2, h3, h4, rfl⟩ := h
    have ih := eqf_loop body hb fs s h4
    rw [List.forIn_cons, pureRun_bind (hb f a b e hn h1 h2 h3)]
    cases e
    · rfl
    · simpa using ih

theorem pureRun_equal_struct {t : TypeId} {fs : Array Field} {d : Nat} {xs ys : Array Value} {r : Bool} (ht : P.underlying t = some (.struct fs)) (hp : P.stoodInHeld t = false) (h : EqF P d xs ys fs.toList r) : pureRun P (Op.equalIn (d + 1) t (.agg xs) (.agg ys)) = some r := by
  unfold Op.equalIn
  rw [pureRun_bind (pureRun_under ht)]
  simp only []
  rw [pureRun_bind (a := P) rfl]
  rw [hp]
  simp only [Bool.false_eq_true, if_false]
  rw [← Array.forIn_toList]
  rw [pureRun_bind (eqf_loop (P := P) (d := d) (xs := xs) (ys := ys) _ (fun f a b e hn h1 h2 h3 => ?_) fs.toList r h)]
  · cases r <;> rfl
  · simp only [if_pos hn]
    rw [pureRun_bind h1, pureRun_bind h2, pureRun_bind h3]
    cases e <;> rfl
theorem eq_int {t : TypeId} {k k' : IntKind} {d : Nat} {a b : Int} (h : P.underlying t = some (.int k')) : pureRun P (Op.equalIn (d + 1) t (.int k a) (.int k b)) = some (a == b) := by
  unfold Op.equalIn
  rw [pureRun_bind (pureRun_under h)]
  simp [pureRun, pure]
theorem eq_bool1 {t : TypeId} {d : Nat} {a b : Bool} (h : P.underlying t = some .bool) : pureRun P (Op.equalIn (d + 1) t (.bool a) (.bool b)) = some (a == b) := by
  unfold Op.equalIn
  rw [pureRun_bind (pureRun_under h)]
  simp [pureRun, pure]
theorem eq_str1 {t : TypeId} {d : Nat} {a b : Str} (h : P.underlying t = some .string) : pureRun P (Op.equalIn (d + 1) t (.string (bs a)) (.string (bs b))) = some (a == b) := by
  unfold Op.equalIn
  rw [pureRun_bind (pureRun_under h)]
  show some (bs a == bs b) = some (a == b)
  rw [beq_toListBytes, bs_toList, bs_toList]
theorem seq_of {t : TypeId} {xs ys : Array Value} {r : Bool} (hg : P.eqGuardType P.depth t = false) (h : pureRun P (Op.equalIn Op.maxDepth t (.agg xs) (.agg ys)) = some r) {n : Nat} {S : List (Nat × AV)} {σ : Mem} {x y : Operand} {yt ty : TypeId} {cs ds : List AV} (hx : evS n S x = some (.agg cs)) (hy : evS n S y = some (.agg ds)) (hcs : toV (.agg cs) = some (.agg xs)) (hds : toV (.agg ds) = some (.agg ys)) :
    plainOp P (fr n S) σ (.binOp .eql t x y yt) ty = some (.bool r, σ) ∧ plainOp P (fr n S) σ (.binOp .neq t x y yt) ty = some (.bool (!r), σ) := by
  have hn : ∀ op, nilCmp P (fr n S) op t x y = none := fun op => nilCmp_of (by rw [ev_fr]; exact hx) hcs
  have hg2 : ∀ op, pureRun P (eqGuard op t x y (.agg xs) (.agg ys)) = some () := by
    intro op
    cases op <;> first
      | rfl
      | (show pureRun P (program >>= fun p => program >>= _) = _
         refine (pureRun_bind (a := P) rfl).trans ?_
         refine (pureRun_bind (a := P) rfl).trans ?_
         rw [hg]
         rfl)
  constructor
  · have h4 : pureRun P (do eqGuard .eql t x y (.agg xs) (.agg ys); binOp .eql t (.agg xs) (.agg ys)) = some (.bool r) := by
      rw [pureRun_bind (hg2 _)]
      show pureRun P (Op.equal t (.agg xs) (.agg ys) >>= _) = _
      rw [pureRun_bind (a := r) (show pureRun P (Op.equal t (.agg xs) (.agg ys)) = some r from h)]; rfl
    simp only [plainOp, pureOp, hn, evV_of hx hcs, evV_of hy hds, bind, Option.bind]
    simp only [bind] at h4
    rw [h4]
    rfl
  · have h4 : pureRun P (do eqGuard .neq t x y (.agg xs) (.agg ys); binOp .neq t (.agg xs) (.agg ys)) = some (.bool (!r)) := by
      rw [pureRun_bind (hg2 _)]
      show pureRun P (Op.equal t (.agg xs) (.agg ys) >>= _) = _
      rw [pureRun_bind (a := r) (show pureRun P (Op.equal t (.agg xs) (.agg ys)) = some r from h)]; rfl
    simp only [plainOp, pureOp, hn, evV_of hx hcs, evV_of hy hds, bind, Option.bind]
    simp only [bind] at h4
    rw [h4]
    rfl
end
end Go.Proofs.Ytihbdelgoapeoaa.K
/- A list of so many noughts. -/
namespace Go.Proofs.Ytihbdelgoapeoaa.K
open Go Go.RowKit F
set_option linter.unusedSimpArgs false
set_option linter.unusedVariables false

section
variable {P : Program}
theorem All2.rep {α β : Type} {r : α → β → Prop} {a : α} {b : β} (h : r a b) : ∀ n : Nat, All2 r (List.replicate n a) (List.replicate n b)
  | 0 => trivial
  | n + 1 => ⟨h, All2.rep h n⟩
theorem lmake_some {α : Type} {z : α} {n : Int} {l : List α} (h : lmake z n = some l) : 0 ≤ n ∧ n ≤ 2147483648 ∧ l = List.replicate n.toNat z := by
  unfold lmake at h
  split at h
  · rename_i hc; cases h; exact ⟨hc.1, hc.2, rfl⟩
  · cases h
end
section
variable {P : Program} {md : MD} {ops : Array Oper} {rest : List Oper} {R : AS → Prop} {n : Nat} {S : List (Nat × AV)} {df : List AD} {σ : Mem} {d : Tmp} {ty t e : TypeId} {ps : String} {af : Array Edge} {x y : Operand} {α : Type} {E : Enc α}
theorem TY_make {zv : AV} {za : α} {l : List α} {i : TypeInfo} {k : Int} (hM : MB md.to σ) (ht : P.underlying t = some (.slice e)) (hi : P.info? e = some i) (hz : zeroA P e = some zv) (hr : E.rel zv za) (hs : zv.cells.length = i.size) (h1 : 1 < i.size) (hb : i.bytes ≤ 65536)
    (hx : evS n S x = some (.int .i64 k)) (hy : evS n S y = some (.int .i64 k)) (hl : lmake za k = some l) (K : ∀ u, RS E u l → TX P md.to ops rest ⟨fr n ((d, u) :: S), df, σ⟩ R) :
    TX P md.to ops ({ dst := some d, op := .makeSlice t x y, type := ty, pos := ps, after := af, guard := none } :: rest) ⟨fr n S, df, σ⟩ R := by
  obtain ⟨h0, h2, rfl⟩ := lmake_some hl
  have h9 : ¬ i.size = 1 := by omega
  have he : effK P (.makeSlice t x y) = false := by simp [effK, singleE, ht, hi, h9]
  refine TX_plain (v := .sl (List.replicate k.toNat zv) .full) ?_ he rfl (K _ (RS.of (All2.rep hr _)))
  have hkb : k * (i.bytes : Int) ≤ 281474976710656 := by
    have h3 : k * (i.bytes : Int) ≤ 2147483648 * 65536 := Int.mul_le_mul h2 (by omega) (by omega) (by omega)
    omega
  simp only [plainOp, memOp, ht, hi, hz, ev_fr, hx, hy, Option.bind_some]
  rw [if_neg (by omega), if_pos ⟨trivial, h0, hkb, h2, hs, h1⟩]
end
end Go.Proofs.Ytihbdelgoapeoaa.K
/- What is known of memory may be seen otherwise, between two steps: what changed, and will not any more, is seen as what stays. -/
namespace Go.Proofs.Ytihbdelgoapeoaa.K
open Go Go.RowKit F
set_option linter.unusedSimpArgs false
set_option linter.unusedVariables false

/-- The same machine, seen otherwise. -/
def Gst (x y : AS) : Prop := ∀ G a w, Inv G x a w → ∃ G', Inv G' y a w ∧ Evo G w G' w

section
variable {P : Program} {Q : AE → AS → Prop} {c : Code} {x y : AS}
theorem Gst.refl (x : AS) : Gst x x := fun G a w h => ⟨G, h, Evo.refl _ _⟩
theorem T.ghost {e : AE} {x' : AS} (hg : Gst x y) (h : T P c y e x') : T P c x e x' := fun G a w Q hi hQ => by
  obtain ⟨G', h1, h2⟩ := hg G a w hi
  exact h G' a w Q h1 fun G2 a' w' hi2 ev => hQ G2 a' w' hi2 (h2.trans ev)
theorem TE_ghost (hg : Gst x y) (h : TE P c y Q) : TE P c x Q :=
  let ⟨e, x', h1, h2⟩ := h
  ⟨e, x', h1.ghost hg, h2⟩
end

section
variable {G : Gh} {σ : Mem} {w : World} {id off len cap size : Nat} {cs vs : List AV}
/-- What a pointer leads to, if it will not change any more. -/
theorem freeze_ptr (hi : InvH G σ w) {u : Value} (hk : σ[id]? = some (.cells cs)) (hr : Rel G w (.ptr id off) u) : Rel (G.drop id) w (.cptr (cs.drop off)) u := by
  cases hr with
  | @ptr _ _ b hn hb =>
    obtain ⟨b', c, e, fr, h1, h2, h3, hu, h4⟩ := hi.cells id cs hk
    obtain rfl : b = b' := (hb b' h1).symm
    refine .cptr (fun i => c.getD (off + i) undef) (fun i hil => ?_) (fun i x hx => ?_)
    · rw [List.length_drop] at hil
      refine ⟨?_, fun j hj => ?_, fun t j ht htj hjb => ?_⟩
      · rw [add_plain']
        exact cell_row h2 (by omega)
      · simp only [add_block, Gh.drop]
        split
        · simp
        · rename_i hne
          intro e
          have hidlt : id < G.n := hn
          exact hne (hi.inj j id b hj hidlt e h1)
      · simp only [add_block] at hjb
        exact absurd hjb (hi.apart id b t j hn ht h1 htj)
    · rw [List.getElem?_drop] at hx
      exact (h4 (off + i) x hx).evo (Evo.drop id)

/-- A value, seen otherwise. -/
def FrzV (id : Nat) (cs : List AV) (v v' : AV) : Prop :=
  v' = v ∨ (∃ off, v = .ptr id off ∧ v' = .cptr (cs.drop off)) ∨
  ∃ off len cap size vs, v = .msl id off len cap ∧ v' = .sl vs .dead ∧ len = vs.length ∧ len ≤ maxLen ∧ len ≤ cap ∧ (∀ x ∈ vs, x.cells.length = size) ∧ (cs.drop off).take (len * size) = flat vs
theorem FrzV.same (v : AV) : FrzV id cs v v := .inl rfl
theorem FrzV.ptr : FrzV id cs (.ptr id off) (.cptr (cs.drop off)) := .inr (.inl ⟨_, rfl, rfl⟩)
theorem FrzV.ptr0 : FrzV id cs (.ptr id 0) (.cptr cs) := .inr (.inl ⟨0, rfl, rfl⟩)
theorem FrzV.rel (hi : InvH G σ w) {u : Value} {v v' : AV} (hk : σ[id]? = some (.cells cs)) (h : FrzV id cs v v') (hr : Rel G w v u) : Rel (G.drop id) w v' u := by
  rcases h with rfl | ⟨off, rfl, rfl⟩ | ⟨off, len, cap, size, vs, rfl, rfl, h1, h2, h3, h4, h5⟩
  · exact hr.evo (Evo.drop id)
  · exact freeze_ptr hi hk hr
  · exact freeze_rel hi hk hr h1 h2 h3 h4 h5
/-- A frame's values, one by one. -/
def FrzS (id : Nat) (cs : List AV) : List (Nat × AV) → List (Nat × AV) → Prop
  | [], [] => True
  | (t, v) :: S, (t', v') :: S' => t' = t ∧ FrzV id cs v v' ∧ FrzS id cs S S'
  | _, _ => False
theorem FrzS.look : ∀ {S S' : List (Nat × AV)}, FrzS id cs S S' → ∀ {t : Nat} {v' : AV}, look S' t = some v' → ∃ v, look S t = some v ∧ FrzV id cs v v'
  | [], [], _, t, v', h => by simp [K.look] at h
  | (t1, v1) :: S, (t2, v2) :: S', ⟨h1, h2, h3⟩, t, v', h => by
    subst h1
    simp only [K.look] at h ⊢
    split at h
    · rename_i he
      rw [if_pos he]
      cases h
      exact ⟨_, rfl, h2⟩
    · rename_i he
      rw [if_neg he]
      exact FrzS.look h3 h
/-- What changed is seen as what stays. -/
theorem Gst.freeze {n : Nat} {S S' : List (Nat × AV)} (hk : σ[id]? = some (.cells cs)) (hS : FrzS id cs S S') : Gst ⟨fr n S, [], σ⟩ ⟨fr n S', [], σ.set id (.tok false)⟩ := fun G a w hi => by
  refine ⟨G.drop id, ⟨⟨?_, ?_⟩, ?_, hi.h.drop hk⟩, Evo.drop id⟩
  · have := hi.tm.1
    rw [fr_length] at this ⊢
    exact this
  · intro i x hx
    rw [fr_get] at hx
    split at hx
    · rename_i hlt
      obtain ⟨v, hv, hf⟩ := hS.look (Option.some.inj hx)
      exact hf.rel hi.h hk (hi.tm.2 i v (by rw [fr_get, if_pos hlt, hv]))
    · cases hx
  · exact ⟨hi.df.1, fun i x hx => by simp at hx⟩
theorem TE_freeze {P : Program} {Q : AE → AS → Prop} {c : Code} {σ0 : Mem} {W : List Nat} {F : List Res} {n : Nat} {S : List (Nat × AV)} (S' : List (Nat × AV)) (hO : Own σ0 W σ (.obj id cs :: F)) (hS : FrzS id cs S S')
    (k : ∀ σ', Own σ0 W σ' F → TE P c ⟨fr n S', [], σ'⟩ Q) : TE P c ⟨fr n S, [], σ⟩ Q :=
  TE_ghost (Gst.freeze (hO.obj 0 rfl) hS) (k _ hO.kill)
end
end Go.Proofs.Ytihbdelgoapeoaa.K
/- Places that stay, or none. -/
namespace Go.Proofs.Ytihbdelgoapeoaa.K
open Go Go.RowKit F
set_option linter.unusedSimpArgs false
set_option linter.unusedVariables false

/-- A pointer: nil, or to what stays. -/
def RP {α : Type} (E : Enc α) (u : AV) (o : Option α) : Prop := (u = .nilp ∧ o = none) ∨ ∃ cs x, u = .cptr cs ∧ o = some x ∧ E.rel (.agg cs) x
def eP {α : Type} (E : Enc α) : Enc (Option α) := ⟨RP E, 1, by rintro _ _ (⟨rfl, rfl⟩ | ⟨cs, x, rfl, rfl, h⟩) <;> rfl, by rintro _ _ (⟨rfl, rfl⟩ | ⟨cs, x, rfl, rfl, h⟩) <;> rfl⟩
section
variable {α : Type} {E : Enc α} {u : AV} {o : Option α} {x : α} {cs : List AV}
theorem RP.nil (E : Enc α) : RP E .nilp none := .inl ⟨rfl, rfl⟩
theorem RP.of (h : E.rel (.agg cs) x) : RP E (.cptr cs) (some x) := .inr ⟨cs, x, rfl, rfl, h⟩
theorem RP.cells (h : RP E u o) : u.cells = [u] := by rcases h with ⟨rfl, rfl⟩ | ⟨cs, x, rfl, rfl, h⟩ <;> rfl
theorem RP.one1 (h : RP E u o) : AV.one u = true := by rcases h with ⟨rfl, rfl⟩ | ⟨cs, x, rfl, rfl, h⟩ <;> rfl
theorem RP.get (h : RP E u o) (ho : o = some x) : ∃ cs, u = .cptr cs ∧ E.rel (.agg cs) x := by
  rcases h with ⟨rfl, rfl⟩ | ⟨cs, y, rfl, rfl, h⟩
  · cases ho
  · cases ho; exact ⟨cs, rfl, h⟩
end
section
variable {P : Program} {md : Option (Mem → Prop)} {ops : Array Oper} {rest : List Oper} {R : AS → Prop} {n : Nat} {S : List (Nat × AV)} {df : List AD} {σ σ' : Mem} {d : Tmp} {ty t yt e : TypeId} {ps : String} {af : Array Edge} {u v : AV} {x y : Operand} {α : Type} {E : Enc α} {o : Option α}
theorem evq {v : AV} (h : evS n S x = some u) (he : u = v) : evS n S x = some v := he ▸ h
theorem eq_pp {d : Nat} (ht : P.underlying t = some (.pointer e)) : pureRun P (Op.equalIn (d + 1) t (.pointer none) (.pointer none)) = some true := by
  unfold Op.equalIn
  rw [pureRun_bind (pureRun_under ht)]
  rfl
theorem nil_nil {b : BinOp} {r : Bool} (ht : P.underlying t = some (.pointer e)) (hx : evS n S x = some .nilp) (hy : evS n S y = some .nilp) (hg : P.eqGuardType P.depth t = false) (hb : b = .eql ∧ r = true ∨ b = .neq ∧ r = false) : plainOp P (fr n S) σ (.binOp b t x y yt) ty = some (.bool r, σ) := by
  have hn : ∀ op, nilCmp P (fr n S) op t x y = none := fun op => nilCmp_of (by rw [ev_fr]; exact hx) rfl
  have hg2 : ∀ op, pureRun P (eqGuard op t x y (.pointer none) (.pointer none)) = some () := by
    intro op
    cases op <;> first
      | rfl
      | (show pureRun P (program >>= fun p => program >>= _) = _
         refine (pureRun_bind (a := P) rfl).trans ?_
         refine (pureRun_bind (a := P) rfl).trans ?_
         rw [hg]
         rfl)
  have he : pureRun P (Op.equal t (.pointer none) (.pointer none)) = some true := by
    exact eq_pp (d := 9999) ht
  rcases hb with ⟨rfl, rfl⟩ | ⟨rfl, rfl⟩
  · have h4 : pureRun P (do eqGuard .eql t x y (.pointer none) (.pointer none); binOp .eql t (.pointer none) (.pointer none)) = some (.bool true) := by
      rw [pureRun_bind (hg2 _)]
      show pureRun P (Op.equal t (.pointer none) (.pointer none) >>= _) = _
      rw [pureRun_bind he]; rfl
    simp only [plainOp, pureOp, hn, evV_of hx rfl, evV_of hy rfl, bind, Option.bind]
    simp only [bind] at h4
    rw [h4]
    rfl
  · have h4 : pureRun P (do eqGuard .neq t x y (.pointer none) (.pointer none); binOp .neq t (.pointer none) (.pointer none)) = some (.bool false) := by
      rw [pureRun_bind (hg2 _)]
      show pureRun P (Op.equal t (.pointer none) (.pointer none) >>= _) = _
      rw [pureRun_bind he]; rfl
    simp only [plainOp, pureOp, hn, evV_of hx rfl, evV_of hy rfl, bind, Option.bind]
    simp only [bind] at h4
    rw [h4]
    rfl
theorem nil_op {b : BinOp} {r : Bool} (ht : P.underlying t = some (.pointer e)) (hg : P.eqGuardType P.depth t = false) (hx : evS n S x = some u) (hy : evS n S y = some .nilp) (h : RP E u o) (hb : b = .eql ∧ r = o.isNone ∨ b = .neq ∧ r = o.isSome) : plainOp P (fr n S) σ (.binOp b t x y yt) ty = some (.bool r, σ) := by
  rcases h with ⟨rfl, rfl⟩ | ⟨cs, z, rfl, rfl, h⟩
  · exact nil_nil ht hx hy hg hb
  · rcases hb with ⟨rfl, rfl⟩ | ⟨rfl, rfl⟩ <;> simp [plainOp, pureOp, nilCmp, ev_fr, hx, hy, heldA, ht]
theorem TX_nilp (ht : P.underlying t = some (.pointer e)) (hg : P.eqGuardType P.depth t = false) (hx : evS n S x = some u) (hy : evS n S y = some .nilp) (h : RP E u o) (k : TX P md ops rest ⟨fr n ((d, .bool o.isNone) :: S), df, σ⟩ R) : TX P md ops ({ dst := some d, op := .binOp .eql t x y yt, type := ty, pos := ps, after := af, guard := none } :: rest) ⟨fr n S, df, σ⟩ R :=
  TX_plain (nil_op ht hg hx hy h (.inl ⟨rfl, rfl⟩)) rfl rfl k
theorem TX_nnilp (ht : P.underlying t = some (.pointer e)) (hg : P.eqGuardType P.depth t = false) (hx : evS n S x = some u) (hy : evS n S y = some .nilp) (h : RP E u o) (k : TX P md ops rest ⟨fr n ((d, .bool o.isSome) :: S), df, σ⟩ R) : TX P md ops ({ dst := some d, op := .binOp .neq t x y yt, type := ty, pos := ps, after := af, guard := none } :: rest) ⟨fr n S, df, σ⟩ R :=
  TX_plain (nil_op ht hg hx hy h (.inr ⟨rfl, rfl⟩)) rfl rfl k
end
end Go.Proofs.Ytihbdelgoapeoaa.K
