/- Abstract values and what the machine makes of them: part C. -/
import Derived.Test.YtihbdelgoapeoaaKKB
import Derived.Orders
/- Every operation but a call of a function is sound. -/
namespace Go.Proofs.Ytihbdelgoapeoaa.K
open Go Go.RowKit
set_option linter.unusedSimpArgs false
set_option linter.unusedVariables false

section
variable {P : Program} {G : Gh} {σ : Mem} {w : World} {s : Fr} {a : Act} {o : Oper}

theorem flat_ints (ns : List Int) : flat (ns.map (AV.int .u8)) = ns.map (AV.int .u8) :=
  flat_one (fun x hx => by obtain ⟨n, _, rfl⟩ := List.mem_map.1 hx; rfl)

theorem conv_ok (hi : InvH G σ w) (hs : RelF G w s a.tmps) {src dst : TypeId} {x : Operand} {r : AV} {σ' : Mem} (ho : o.op = .convert src dst x) (h : convA P s σ src dst x = some (r, σ')) : OpOK P G w a o r σ' := by
  simp only [convA, Option.bind_eq_some_iff] at h
  obtain ⟨v, hv, h⟩ := h
  have hr := ev_rel hs hv
  generalize hea : a.eval x = ea at hr
  cases v <;> simp only [reduceCtorEq] at h
  case sl l t =>
    split at h
    · rename_i e hsrc hdst
      split at h
      · rename_i hu8
        simp only [Option.map_eq_some_iff, Prod.mk.injEq] at h
        obtain ⟨ns, hns, rfl, rfl⟩ := h
        have hl := bytesA_spec hns
        subst hl
        cases hr with
        | @sl _ _ b len cap size c hlen hmax hsize hrow hrel hfull hcap hlive =>
          simp only [List.length_map] at hlen
          have hrun := run_bytes_string (P := P) (w := w) (cap := cap) hsrc (isU8_spec hu8) hdst (b := b) (len := len) (xs := ns) hlen.symm (fun i hil => by
            have hm : AV.int .u8 (ns[i]'(by omega)) ∈ ns.map (AV.int .u8) := List.mem_map.2 ⟨_, List.getElem_mem _, rfl⟩
            have hsz := hsize _ hm
            simp [AV.cells] at hsz
            have h1 := (hrow i (by rw [← hsz]; omega)).1
            have h2 := hrel i (.int .u8 (ns[i]'(by omega))) (by rw [flat_ints]; simp [show i < ns.length by omega])
            rw [h1]
            generalize c i = ci at h2
            cases h2
            simp [List.getD, show i < ns.length by omega])
          refine .still hi (v := .string (strOfNums ns)) ?_ (.str _)
          simp only [execOp, ho, hea]
          simp [hrun]
      · cases h
    · cases h
  case str t =>
    split at h
    · rename_i e hsrc hdst
      split at h
      · rename_i hc
        obtain ⟨hu8, hsz⟩ := hc
        cases h
        cases hr
        obtain ⟨w', hrun, hbel, hrow⟩ := run_string_bytes (P := P) (w := w) hsrc hdst (isU8_spec hu8) hsz
        have hge := grownCap_ge w t.size 0 e
        have hle := grownCap_le_maxLen w t.size 0 e (by simp only [maxLen]; omega)
        have hlen : (strElems t).length = t.size := by simp [strElems]
        have hvs : (strVals t).size = t.size := by simp [strVals]
        have hcells : ∀ x ∈ strElems t, x.cells = [x] := by
          intro x hx
          simp only [strElems, List.mem_map] at hx
          obtain ⟨b, _, rfl⟩ := hx
          rfl
        obtain ⟨G', g1, g2, g3⟩ := fresh_rowG (cap := grownCap w t.size 0 e) (z := 1) (zs := strElems t) hi hbel (Nat.le_refl _) hrow (fun o ho h => by
            simp only [Array.size_append, Array.size_replicate, hvs] at ho
            omega) (strElems_size t) (by omega) (by simp [hvs]; omega) (by omega) hle (fun i x hx => by
            rw [flat_one hcells] at hx
            have hil := (List.getElem?_eq_some_iff.1 hx).1
            simp only [strElems, List.getElem?_map, Option.map_eq_some_iff] at hx
            obtain ⟨b, hb, rfl⟩ := hx
            have e1 : (strVals t ++ Array.replicate (grownCap w t.size 0 e - t.size) (Value.int .u8 0)).getD i undef = .int .u8 b.toNat := by
              simp only [Array.getD_eq_getD_getElem?]
              rw [Array.getElem?_append_left (by omega)]
              simp only [strVals, Array.getElem?_map]
              rw [← Array.getElem?_toList, hb]
              rfl
            rw [e1]
            exact .int _ _)
        rw [hlen] at g3
        refine ⟨G', _, _, w', ?_, .inl rfl, g1, g2, g3⟩
        simp only [execOp, ho, hea]
        simp [hrun]
      · cases h
    · cases h

theorem exec_builtin {b : Builtin} {c : Call} (ho : o.op = .call c) (hc : c.callee = .builtin b) :
    execOp a.eval o = builtin b c.argTypes o.type (c.args.map fun | .const _ => true | _ => false) (c.args.map a.eval) := by
  simp only [execOp, ho, resolve, hc, invoke]
  rfl

theorem evVs_eq (hs : RelF G w s a.tmps) : ∀ {xs : List Operand} {vs : List Value}, xs.mapM (evV s) = some vs → xs.map a.eval = vs := by
  intro xs vs h
  obtain ⟨h1, h2⟩ := mapM_get h
  apply List.ext_getElem?
  intro i
  by_cases hi : i < vs.length
  · obtain ⟨x, hx, he⟩ := h2 i vs[i] (by simp [hi])
    rw [List.getElem?_map, hx]
    simp [evV_eq hs he, hi]
  · simp [h1 ▸ Nat.le_of_not_lt hi, Nat.le_of_not_lt hi]

theorem plainB_ok (hi : InvH G σ w) (hs : RelF G w s a.tmps) {b : Builtin} {c : Call} {r : AV} {xs : List Operand} (ho : o.op = .call c) (hb : c.callee = .builtin b) (hxs : c.args.toList = xs) (h : plainB P s b c o.type xs = some r) : OpOK P G w a o r σ := by
  have hex := exec_builtin (a := a) ho hb
  simp only [plainB, Option.bind_eq_some_iff] at h
  obtain ⟨vs, hvs, nx, hnx, h⟩ := h
  cases nx <;> simp only [reduceCtorEq] at h
  rename_i v
  have e1 : c.args.map a.eval = vs.toArray := by
    rw [← evVs_eq hs hvs, ← hxs]
    apply Array.ext'
    simp
  refine .still hi (v := v) ?_ (ofConst_rel h G w)
  rw [hex, e1]
  exact pureRun_run hnx w

theorem callV_ok (hi : InvH G σ w) (hs : RelF G w s a.tmps) {b : Builtin} {c : Call} {r : AV} (ho : o.op = .call c) (hb : c.callee = .builtin b) (h : callV P s b c o.type = some r) : OpOK P G w a o r σ := by
  have hex := exec_builtin (a := a) ho hb
  unfold callV at h
  split at h
  · rename_i x t rest hargs htys
    simp only [Option.bind_eq_some_iff] at h
    obtain ⟨v, hv, h⟩ := h
    have hr := ev_rel hs hv
    have e1 : c.args.map a.eval = #[a.eval x] := by
      apply Array.ext'
      simp [hargs]
    have e2 : c.argTypes[0]? = some t := by
      rw [← Array.getElem?_toList, htys]
      rfl
    have slc : ∀ {ad : Option Addr} {n m : Nat}, a.eval x = .slice ad n m → lenT P t n = some r → OpOK P G w a o r σ := by
      intro ad n m hea hu
      unfold lenT at hu
      split at hu
      · rename_i e hu'
        cases hu
        refine .still hi (v := .int .i64 n) ?_ (.int _ _)
        rw [hex, e1, hea]
        simp [builtin, Builtin.len_, e2, run_underlying hu', goInt]
      · cases hu
    split at h
    · generalize hea : a.eval x = ea at hr
      cases hr with
      | sl size c hlen _ _ _ _ _ _ _ => exact slc hea (by rw [hlen]; exact h)
    · generalize hea : a.eval x = ea at hr
      cases hr with
      | msl h1 h2 h3 => exact slc hea h
    · exact plainB_ok hi hs ho hb hargs h
  · exact plainB_ok hi hs ho hb rfl h

theorem callB_ok (hi : InvH G σ w) (hs : RelF G w s a.tmps) {c : Call} {r : AV} {σ' : Mem} (ho : o.op = .call c) (h : callB P s σ c o.type = some (r, σ')) : OpOK P G w a o r σ' := by
  unfold callB at h
  split at h
  · rename_i hb
    have hex := exec_builtin (a := a) ho hb
    split at h
    · rename_i x y t u hargs htys
      simp only [Option.bind_eq_some_iff] at h
      obtain ⟨vx, hvx, vy, hvy, h⟩ := h
      obtain ⟨G', v, w', g1, g2, g3, g4⟩ : ∃ G' v w', (Builtin.append_ #[t, u] o.type #[a.eval x, a.eval y]).run P w = .ok v w' ∧ InvH G' σ' w' ∧ Evo G w G' w' ∧ Rel G' w' r v := by
        unfold appendX at h
        split at h
        · rename_i q hq
          cases h
          exact append_sound (ty := o.type) hi (ev_rel hs hvx) (ev_rel hs hvy) hq
        · exact appendM_sound (ty := o.type) hi (ev_rel hs hvx) (ev_rel hs hvy) h
      refine ⟨G', _, v, w', ?_, .inl rfl, g2, g3, g4⟩
      have e1 : c.args.map a.eval = #[a.eval x, a.eval y] := by
        apply Array.ext'
        simp [hargs]
      have e2 : c.argTypes = #[t, u] := by
        apply Array.ext'
        simp [htys]
      rw [hex, e1, e2]
      simp [builtin, g1]
    · cases h
  · rename_i hb
    simp only [Option.map_eq_some_iff, Prod.mk.injEq] at h
    obtain ⟨v, hv, rfl, rfl⟩ := h
    exact callV_ok hi hs ho hb hv
  · cases h

theorem memOp_ok (hi : InvH G σ w) (hs : RelF G w s a.tmps) {r : AV} {σ' : Mem} (h : memOp P s σ o.op = some (r, σ')) : OpOK P G w a o r σ' := by
  cases ho : o.op <;> first
    | exact move_ok hi hs (.inl ho) h
    | exact move_ok hi hs (.inr ho) h
    | exact pick_ok hi hs ho h
    | exact alloc_ok (s := s) hi ho h
    | exact box_ok hi hs ho h
    | exact load_ok hi hs ho h
    | exact store_ok hi hs ho h
    | exact nilCheck_ok hi hs ho h
    | exact makeInterface_ok hi hs ho h
    | exact makeFunc_ok hi hs ho h
    | exact fieldAddr_ok hi hs ho h
    | exact field_ok hi hs ho h
    | exact extract_ok hi hs ho h
    | exact indexAddr_ok hi hs ho h
    | exact index_ok hi hs ho h
    | exact slice_ok hi hs ho h
    | exact build_ok hi hs ho h
    | exact buildSlice_ok hi hs ho h
    | exact makeSlice_ok hi hs ho h
    | (rw [ho] at h; simp [memOp] at h)

theorem pureOp_ok (hi : InvH G σ w) (hs : RelF G w s a.tmps) {r : AV} {σ' : Mem} (h : (pureOp P s o.op).map (fun v => (v, σ)) = some (r, σ')) : OpOK P G w a o r σ' := by
  simp only [Option.map_eq_some_iff, Prod.mk.injEq] at h
  obtain ⟨v, hv, rfl, rfl⟩ := h
  obtain ⟨u, hu, hr⟩ := pureOp_sound hs hv
  exact .still hi hu hr

theorem plainOp_ok (hi : InvH G σ w) (hs : RelF G w s a.tmps) {r : AV} {σ' : Mem} (h : plainOp P s σ o.op o.type = some (r, σ')) : OpOK P G w a o r σ' := by
  unfold plainOp at h
  split at h
  · exact pureOp_ok hi hs h
  · exact pureOp_ok hi hs h
  · rename_i ho
    split at h
    · exact conv_ok hi hs ho h
    · split at h
      · exact conv_ok hi hs ho h
      · exact pureOp_ok hi hs h
    · exact pureOp_ok hi hs h
  · split at h
    · exact memOp_ok hi hs h
    · exact memOp_ok hi hs h
    · exact memOp_ok hi hs h
    · exact pureOp_ok hi hs h
  · split at h
    · exact memOp_ok hi hs h
    · exact pureOp_ok hi hs h
  · rename_i ho
    exact callB_ok hi hs ho h
  · exact memOp_ok hi hs h

end
end Go.Proofs.Ytihbdelgoapeoaa.K
/- Code over abstract states: what a stretch of code comes to, and what a call does. -/
namespace Go.Proofs.Ytihbdelgoapeoaa.K
open Go Go.RowKit
set_option linter.unusedSimpArgs false
set_option linter.unusedVariables false

/-- A deferred call. -/
structure AD where
  f : Fn
  cap : List AV
  args : List AV

/-- An abstract frame and the abstract memory. -/
structure AS where
  tm : Fr
  df : List AD
  σ : Mem

def ADRel (G : Gh) (w : World) (x : AD) (d : Deferred) : Prop := ∃ cs, d.target = .fn x.f cs ∧ Rels G w x.cap cs ∧ Rels G w x.args d.args

def ADRels (G : Gh) (w : World) (xs : List AD) (ds : List Deferred) : Prop := ds.length = xs.length ∧ ∀ (i : Nat) (x : AD), xs[i]? = some x → ∃ d, ds[i]? = some d ∧ ADRel G w x d

structure Inv (G : Gh) (x : AS) (a : Act) (w : World) : Prop where
  tm : RelF G w x.tm a.tmps
  df : ADRels G w x.df a.defers
  h : InvH G x.σ w

theorem ADRels.evo {G G' : Gh} {w w' : World} (e : Evo G w G' w') {xs : List AD} {ds : List Deferred} (h : ADRels G w xs ds) : ADRels G' w' xs ds :=
  ⟨h.1, fun i x hx => by
    obtain ⟨d, hd, cs, h1, h2, h3⟩ := h.2 i x hx
    exact ⟨d, hd, cs, h1, h2.evo e, h3.evo e⟩⟩

def putD (tm : Fr) (d : Option Tmp) (v : AV) : Fr :=
  match d with
  | some d => tm.set d (some v)
  | none => tm

def AS.put (x : AS) (d : Option Tmp) (v : AV) : AS := { x with tm := putD x.tm d v }

theorem RelF.putD {G : Gh} {w : World} {tm : Fr} {a : Act} (h : RelF G w tm a.tmps) (d : Option Tmp) {v : AV} {u : Value} (hv : Rel G w v u) : RelF G w (putD tm d v) (a.put d u).tmps := by
  cases d with
  | none => exact h
  | some d =>
    refine ⟨by simp [K.putD, Act.put, h.1], fun i x hx => ?_⟩
    simp only [K.putD, List.getElem?_set] at hx
    simp only [Act.put, Array.getD_eq_getD_getElem?]
    split at hx
    · rename_i hdi
      subst hdi
      split at hx
      · rename_i hlt
        cases hx
        rw [Array.getElem?_setIfInBounds_self_of_lt (by rw [h.1]; exact hlt)]
        exact hv
      · cases hx
    · rename_i hne
      rw [Array.getElem?_setIfInBounds_ne hne]
      have := h.2 i x hx
      simpa [Array.getD_eq_getD_getElem?] using this

theorem Inv.put {G : Gh} {x : AS} {a : Act} {w : World} (h : Inv G x a w) (d : Option Tmp) {v : AV} {u : Value} (hv : Rel G w v u) : Inv G (x.put d v) (a.put d u) w := by
  refine ⟨h.tm.putD d hv, ?_, h.h⟩
  have : (a.put d u).defers = a.defers := by cases d <;> rfl
  rw [this]
  exact h.df

/-! ### Calls -/
/-- A call with abstract arguments: what it hands back, and the memory behind it. -/
def ACall (P : Program) (f : FuncId) (args : List AV) (σ : Mem) (v : AV) (σ' : Mem) : Prop :=
  ∀ G w vs, InvH G σ w → Rels G w args vs → Calls P f vs w fun e w' => ∃ G' u, e = .returned u ∧ InvH G' σ' w' ∧ Evo G w G' w' ∧ Rel G' w' v u

/-- The function has a text of its own, that is entered. -/
def enters (P : Program) (f : FuncId) : Bool :=
  match P.funcs[f]? with
  | some fn => fn.body.isSome && fn.name != "runtime.NumGoroutine"
  | none => false

theorem run_callFunc {P : Program} {f : FuncId} (h : enters P f = true) (args : Array Value) (w : World) : (callFunc f args).run P w = .ok (.enter f args) w := by
  unfold enters at h
  split at h
  · rename_i fn hf
    simp only [Bool.and_eq_true, bne_iff_ne, ne_eq] at h
    have h1 : fn.body.isNone = false := by cases hb : fn.body <;> simp_all
    have h2 : ¬ (fn.name = "runtime.NumGoroutine") := h.2
    have h3 : ¬ (fn.body = none) := by intro e; rw [e] at h1; cases h1
    simp [callFunc, program, Sem.run, hf, h2, h3]
  · cases h

/-! ### One operation -/
/-- Is the operation carried out? By its guard. Nothing: that is not known. -/
def wantedA (ops : Array Oper) (tm : Fr) (o : Oper) : Option Bool :=
  match o.guard with
  | none => some true
  | some (j, want) => match ((ops[j]?).bind (·.dst)).bind (tm[·]?) with
    | some (some (.bool b)) => some (b == want)
    | some none => none
    | _ => some false

theorem wantedA_eq {G : Gh} {w : World} {tm : Fr} {tmps : Array Value} (h : RelF G w tm tmps) (ops : Array Oper) (o : Oper) {b : Bool} (hb : wantedA ops tm o = some b) : Region.wanted o (yielded ops tmps) = b := by
  unfold wantedA at hb
  unfold Region.wanted
  cases hg : o.guard with
  | none => rw [hg] at hb; simp at hb; simp [hb]
  | some g =>
    obtain ⟨j, want⟩ := g
    rw [hg] at hb
    simp only [yielded] at hb ⊢
    cases hd : (ops[j]?).bind (·.dst) with
    | none => rw [hd] at hb; simp at hb; simp [hb]
    | some d =>
      rw [hd] at hb
      simp only [Option.bind_some] at hb ⊢
      cases hx : tm[d]? with
      | none =>
        have : tmps[d]? = none := by
          rw [List.getElem?_eq_none_iff] at hx
          exact Array.getElem?_eq_none (by rw [h.1]; exact hx)
        rw [hx] at hb
        simp at hb
        simp [this, hb]
      | some ox =>
        rw [hx] at hb
        cases ox with
        | none => simp at hb
        | some x =>
          have hr := h.2 d x hx
          have hlt := (List.getElem?_eq_some_iff.1 hx).1
          have e : tmps[d]? = some (tmps.getD d undef) := by
            rw [Array.getD_eq_getD_getElem?, Array.getElem?_eq_getElem (by rw [h.1]; exact hlt)]
            rfl
          rw [e]
          generalize tmps.getD d undef = u at hr
          cases hr <;> simp at hb <;> simp [hb]
          all_goals (rename_i c; cases c <;> cases want <;> simp_all)

/-- A call of a function value: the function and all its arguments. -/
def callee (s : Fr) (c : Call) : Option (FuncId × List AV) :=
  match c.callee with
  | .value f => (ev s f).bind fun
    | .fn (.func g) first cap => (evs s c.args.toList).map fun args => (g, first ++ args ++ cap)
    | _ => none
  | _ => none

/-- What one operation comes to. -/
inductive OpA (P : Program) (x : AS) (o : Oper) : AV → AS → Prop
  | plain {v : AV} {σ' : Mem} (h : plainOp P x.tm x.σ o.op o.type = some (v, σ')) : OpA P x o v { x with σ := σ' }
  | call {c : Call} {g : FuncId} {args : List AV} {v : AV} {σ' : Mem} (ho : o.op = .call c) (hc : callee x.tm c = some (g, args)) (he : enters P g = true) (h : ACall P g args x.σ v σ') : OpA P x o v { x with σ := σ' }
  | defer {c : Call} {f : Fn} {first cap args : List AV} (ho : o.op = .defer c) {fo : Operand} (hf : c.callee = .value fo) (hv : ev x.tm fo = some (.fn f first cap)) (ha : evs x.tm c.args.toList = some args) : OpA P x o .undef { x with df := ⟨f, cap, first ++ args⟩ :: x.df }

theorem Rels.append {G : Gh} {w : World} {xs ys : List AV} {us vs : Array Value} (h : Rels G w xs us) (k : Rels G w ys vs) : Rels G w (xs ++ ys) (us ++ vs) := by
  refine ⟨by simp [h.1, k.1], fun i x hx => ?_⟩
  rw [List.getElem?_append] at hx
  simp only [Array.getD_eq_getD_getElem?, Array.getElem?_append]
  split at hx
  · rename_i hl
    rw [if_pos (by rw [h.1]; exact hl)]
    have := h.2 i x hx
    simpa [Array.getD_eq_getD_getElem?] using this
  · rename_i hl
    rw [if_neg (by rw [h.1]; exact hl), h.1]
    have := k.2 _ x hx
    simpa [Array.getD_eq_getD_getElem?] using this

theorem undef_rel (G : Gh) (w : World) : Rel G w .undef undef := .tup rfl fun i x h => by simp at h

/-- An operation that is carried out: its wp. -/
theorem OpA.wp {P : Program} {x x' : AS} {o : Oper} {v : AV} (h : OpA P x o v x') {G : Gh} {a : Act} {w : World} (hi : Inv G x a w) {K : Act → World → Prop} {Q : Exit → Act → World → Prop}
    (hK : ∀ G' a' w', Inv G' (x'.put o.dst v) a' w' → Evo G w G' w' → K a' w') : o.wp P a w K Q := by
  cases h with
  | @plain _ σ' h =>
    obtain ⟨G', nx, u, w', hrun, hg, hinv, hev, hr⟩ := plainOp_ok hi.h hi.tm h
    unfold Oper.wp
    rw [hrun]
    have hk : K (a.put o.dst u) w' := hK G' _ w' (Inv.put (x := { x with σ := σ' }) ⟨hi.tm.evo hev, hi.df.evo hev, hinv⟩ o.dst hr) hev
    rcases hg with rfl | ⟨rfl, rfl⟩
    · exact hk
    · exact hk
  | @call c g args _ σ' ho hc he h =>
    unfold callee at hc
    split at hc
    · rename_i f hf
      simp only [Option.bind_eq_some_iff] at hc
      obtain ⟨fv, hfv, hc⟩ := hc
      cases fv <;> (try simp only [reduceCtorEq] at hc)
      rename_i fn first cap
      cases fn <;> simp only [reduceCtorEq, Option.map_eq_some_iff, Prod.mk.injEq] at hc
      rename_i g0
      obtain ⟨as, has, hg, rfl⟩ := hc
      subst hg
      have hfr := ev_rel hi.tm hfv
      generalize hef : a.eval f = ef at hfr
      cases hfr with
      | fn h1 h2 h3 h4 =>
        rename_i fs cs
        have hrel : Rels G w (first ++ as ++ cap) (fs ++ c.args.map a.eval ++ cs) := ((Rels.append ⟨h1, h2⟩ (evs_rel' hi.tm has)).append ⟨h3, h4⟩)
        have hcalls := h G w _ hi.h hrel
        have hex : (execOp a.eval o).run P w = .ok (.enter g0 (fs ++ c.args.map a.eval ++ cs)) w := by
          simp only [execOp, ho, resolve, hf, hef, Deferred.ofValue]
          simp [invoke, run_callFunc he]
        unfold Oper.wp
        rw [hex]
        refine hcalls.mono fun e w' ⟨G', u, he', hinv, hev, hr⟩ => ?_
        subst he'
        exact hK G' _ w' (Inv.put (x := { x with σ := σ' }) ⟨hi.tm.evo hev, hi.df.evo hev, hinv⟩ o.dst hr) hev
    · cases hc
  | @defer c f first cap args ho fo hf hv ha =>
    have hfr := ev_rel hi.tm hv
    generalize hef : a.eval fo = ef at hfr
    cases hfr with
    | fn h1 h2 h3 h4 =>
      rename_i fs cs
      have hrel : Rels G w (first ++ args) (fs ++ c.args.map a.eval) := Rels.append ⟨h1, h2⟩ (evs_rel' hi.tm ha)
      have hex : (execOp a.eval o).run P w = .ok (.defer { target := .fn f cs, args := fs ++ c.args.map a.eval }) w := by
        simp only [execOp, ho, resolve, hf, hef, Deferred.ofValue]
        simp
      unfold Oper.wp
      rw [hex]
      have hinv : Inv G { x with df := ⟨f, cap, first ++ args⟩ :: x.df } { a with defers := { target := .fn f cs, args := fs ++ c.args.map a.eval } :: a.defers } w := by
        refine ⟨hi.tm, ⟨by simp [hi.df.1], fun i d hd => ?_⟩, hi.h⟩
        cases i with
        | zero =>
          simp at hd
          subst hd
          exact ⟨_, rfl, cs, rfl, ⟨h3, h4⟩, hrel⟩
        | succ i => exact hi.df.2 i d (by simpa using hd)
      exact hK G _ w (hinv.put o.dst (undef_rel G w)) (Evo.refl _ _)

/-- Operations one behind the other: those of a region, in the text's order. -/
inductive OpsA (P : Program) (ops : Array Oper) : List Oper → AS → AS → Prop
  | nil (x : AS) : OpsA P ops [] x x
  | step {o : Oper} {rest : List Oper} {x x1 x2 : AS} {v : AV} (hw : wantedA ops x.tm o = some true) (h : OpA P x o v x1) (hr : OpsA P ops rest (x1.put o.dst v) x2) : OpsA P ops (o :: rest) x x2
  | skip {o : Oper} {rest : List Oper} {x x2 : AS} (hw : wantedA ops x.tm o = some false) (hr : OpsA P ops rest (x.put o.dst .undef) x2) : OpsA P ops (o :: rest) x x2

theorem OpsA.wp {P : Program} {ops : Array Oper} {l : List Oper} {x x' : AS} (h : OpsA P ops l x x') : ∀ {G : Gh} {a : Act} {w : World} {Q : Exit → Act → World → Prop}, Inv G x a w →
    (∀ G' a' w', Inv G' x' a' w' → Evo G w G' w' → Q .normal a' w') → wpList P ops Q l a w := by
  induction h with
  | nil x => intro G a w Q hi hQ; exact hQ G a w hi (Evo.refl _ _)
  | step hw h hr ih =>
    intro G a w Q hi hQ
    unfold wpList
    rw [if_pos (wantedA_eq hi.tm _ _ hw)]
    exact .inl (h.wp hi fun G' a' w' hi' hev => ih hi' fun G2 a2 w2 hi2 hev2 => hQ G2 a2 w2 hi2 (hev.trans hev2))
  | @skip o rest x x2 hw hr ih =>
    intro G a w Q hi hQ
    unfold wpList
    rw [if_neg (by rw [wantedA_eq hi.tm _ _ hw]; decide)]
    exact ih (hi.put o.dst (undef_rel G w)) hQ

/-! ### Code -/
inductive AE where
  | normal
  | exit (id : Nat)
  | ret
  deriving DecidableEq

def AE.to : AE → Exit
  | .normal => .normal
  | .exit id => .exit id
  | .ret => .ret

/-- From this state the code comes to this end in this state. -/
def T (P : Program) (c : Code) (x : AS) (e : AE) (x' : AS) : Prop :=
  ∀ G a w (Q : Exit → Act → World → Prop), Inv G x a w → (∀ G' a' w', Inv G' x' a' w' → Evo G w G' w' → Q e.to a' w') → c.wp P Q a w

section
variable {P : Program}

theorem T_region {id : Nat} {ops : Array Oper} {x x' : AS} (h : OpsA P ops ops.toList x x') : T P (.region id ops false) x .normal x' :=
  fun G a w Q hi hQ => wp_region_list (h.wp hi hQ)

theorem T_skip (x : AS) : T P .skip x .normal x := fun G a w Q hi hQ => wp_skip (hQ G a w hi (Evo.refl _ _))
theorem T_ret (x : AS) : T P .ret x .ret x := fun G a w Q hi hQ => wp_ret (hQ G a w hi (Evo.refl _ _))
theorem T_exit (id : Nat) (x : AS) : T P (.exit id) x (.exit id) x := fun G a w Q hi hQ => wp_exit (hQ G a w hi (Evo.refl _ _))

theorem T_seq {c d : Code} {x x1 x2 : AS} {e : AE} (h : T P c x .normal x1) (k : T P d x1 e x2) : T P (.seq c d) x e x2 :=
  fun G a w Q hi hQ => wp_seq (h G a w _ hi fun G1 a1 w1 hi1 ev1 => k G1 a1 w1 Q hi1 fun G2 a2 w2 hi2 ev2 => hQ G2 a2 w2 hi2 (ev1.trans ev2))

theorem T_seq_out {c d : Code} {x x1 : AS} {e : AE} (h : T P c x e x1) (he : e ≠ .normal) : T P (.seq c d) x e x1 :=
  fun G a w Q hi hQ => wp_seq (h G a w _ hi fun G1 a1 w1 hi1 ev1 => by
    cases e with
    | normal => exact absurd rfl he
    | exit id => exact hQ G1 a1 w1 hi1 ev1
    | ret => exact hQ G1 a1 w1 hi1 ev1)

theorem T_cond {c : Operand} {d1 d2 : Code} {x x' : AS} {e : AE} {b : Bool} (hc : ev x.tm c = some (.bool b)) (h : T P (if b then d1 else d2) x e x') : T P (.cond c d1 d2) x e x' := by
  intro G a w Q hi hQ
  have hr := ev_rel hi.tm hc
  generalize hea : a.eval c = ea at hr
  cases hr
  have := h G a w Q hi hQ
  exact wp_cond hea (by cases b <;> exact this)

theorem T_block {id : Nat} {c : Code} {x x' : AS} {e : AE} (h : T P c x e x') : T P (.block id c) x (if e = .exit id then .normal else e) x' :=
  fun G a w Q hi hQ => wp_block (h G a w _ hi fun G1 a1 w1 hi1 ev1 => by
    have := hQ G1 a1 w1 hi1 ev1
    cases e with
    | normal => simpa [Exit.inBlock, AE.to] using this
    | ret => simpa [Exit.inBlock, AE.to] using this
    | exit j =>
      by_cases hj : j = id
      · subst hj
        simpa [Exit.inBlock, AE.to] using this
      · have e1 : (if AE.exit j = AE.exit id then AE.normal else AE.exit j) = AE.exit j := if_neg (by intro h; injection h with h; exact hj h)
        rw [e1] at this
        simpa [Exit.inBlock, AE.to, hj] using this)

theorem T_block_out {id : Nat} {c : Code} {x x' : AS} (h : T P c x (.exit id) x') : T P (.block id c) x .normal x' := by
  have := T_block (id := id) h
  simpa using this

theorem T_block_thru {id : Nat} {c : Code} {x x' : AS} {e : AE} (h : T P c x e x') (he : e ≠ .exit id) : T P (.block id c) x e x' := by
  have := T_block (id := id) h
  rwa [if_neg he] at this

/-- Rounds of a loop. -/
inductive LoopA (P : Program) (c : Code) : AS → AE → AS → Prop
  | out {x x' : AS} {e : AE} (h : T P c x e x') (he : e ≠ .normal) : LoopA P c x e x'
  | again {x x1 x2 : AS} {e : AE} (h : T P c x .normal x1) (hr : LoopA P c x1 e x2) : LoopA P c x e x2

theorem T_loop {c : Code} {x x' : AS} {e : AE} (h : LoopA P c x e x') : T P (.loop c) x e x' := by
  intro G a w Q hi hQ b k cs
  have key : ∀ {x x' : AS} {e : AE}, LoopA P c x e x' → ∀ {G : Gh} {a : Act} {w : World}, Inv G x a w → (∀ G' a' w', Inv G' x' a' w' → Evo G w G' w' → Q e.to a' w') →
      ∃ e' a' w', Q e' a' w' ∧ Arrives P (lone (b.at a (.code c :: .inLoop c :: k)) cs w) b k cs e' a' w' := by
    intro x x' e h
    induction h with
    | @out x x' e h he =>
      intro G a w hi hQ
      obtain ⟨e1, a1, w1, hq, harr⟩ := h G a w (fun e' a' w' => e' = e.to ∧ Q e.to a' w') hi (fun G' a' w' h1 h2 => ⟨rfl, hQ G' a' w' h1 h2⟩) b (.inLoop c :: k) cs
      obtain ⟨rfl, hq⟩ := hq
      cases e with
      | normal => exact absurd rfl he
      | exit id => exact ⟨_, a1, w1, hq, .pass (x := .inLoop c) rfl (fun _ _ => .inl (by simp [AE.to])) harr⟩
      | ret => exact ⟨_, a1, w1, hq, .pass (x := .inLoop c) rfl (fun _ _ => .inl (by simp [AE.to])) harr⟩
    | @again x x1 x2 e h hr ih =>
      intro G a w hi hQ
      obtain ⟨e1, a1, w1, hq, harr⟩ := h G a w (fun e' a' w' => e' = .normal ∧ ∃ G', Inv G' x1 a' w' ∧ Evo G w G' w') hi (fun G' a' w' h1 h2 => ⟨rfl, G', h1, h2⟩) b (.inLoop c :: k) cs
      obtain ⟨rfl, G1, hi1, ev1⟩ := hq
      obtain ⟨e2, a2, w2, hq2, harr2⟩ := ih hi1 fun G' a' w' h1 h2 => hQ G' a' w' h1 (ev1.trans h2)
      exact ⟨e2, a2, w2, hq2, .of_steps (Steps.trans harr (.one step_inLoop)) harr2⟩
  obtain ⟨e', a', w', hq, harr⟩ := key h hi hQ
  exact ⟨e', a', w', hq, .of_steps (.one step_loop) harr⟩

/-! ### A function's text -/
def resA (P : Program) (x : AS) : ResultVar → Option AV
  | .tmp t => (x.tm[t]?).join
  | .cell t ty => ((x.tm[t]?).join).bind fun
    | .ptr id off => (x.σ[id]?).bind fun
      | .cells cs => loadA P ty (cs.drop off)
      | _ => none
    | _ => none

def resultsA (P : Program) (fn : Func) (x : AS) : Option AV :=
  (fn.results.toList.mapM (resA P x)).map fun
  | [v] => v
  | vs => .tup vs

end
end Go.Proofs.Ytihbdelgoapeoaa.K
/- A function's text and a call of it. -/
namespace Go.Proofs.Ytihbdelgoapeoaa.K
open Go Go.RowKit
set_option linter.unusedSimpArgs false
set_option linter.unusedVariables false

section
variable {P : Program}

/-- A result variable, as the machine reads it. -/
def resM (tmps : Array Value) : ResultVar → Sem Value
  | .tmp t => pure (tmps.getD t undef)
  | .cell a t => do loadVar t (← asAddr (tmps.getD a undef))

theorem results_eq (fn : Func) (tmps : Array Value) : results fn tmps = (do
    let vs ← fn.results.mapM (resM tmps)
    pure (if h : vs.size = 1 then vs[0] else .tuple vs)) := by
  unfold results
  congr 2

theorem resA_sound {G : Gh} {x : AS} {a : Act} {w : World} (hi : Inv G x a w) {rv : ResultVar} {v : AV} (h : resA P x rv = some v) :
    ∃ u, (resM a.tmps rv).run P w = .ok u w ∧ Rel G w v u := by
  cases rv with
  | tmp t => exact ⟨a.tmps.getD t undef, rfl, hi.tm.2 t v (Option.join_eq_some_iff.1 h)⟩
  | cell t ty =>
    simp only [resA, Option.bind_eq_some_iff] at h
    obtain ⟨p, hp, h⟩ := h
    have hr := hi.tm.2 t p (Option.join_eq_some_iff.1 hp)
    generalize hea : a.tmps.getD t undef = ea at hr
    cases p <;> simp only [reduceCtorEq, Option.bind_eq_some_iff] at h
    rename_i id off
    obtain ⟨ob, hob, h⟩ := h
    cases ob <;> simp only [reduceCtorEq] at h
    rename_i cs
    cases hr with
    | @ptr _ _ bb hn hb =>
      obtain ⟨b', c, e, fr, h1, h2, h3, hu, h4⟩ := hi.h.cells id cs hob
      obtain rfl : bb = b' := (hb b' h1).symm
      obtain ⟨z, hz, hzr⟩ := load_sound (P := P) (G := G) (w := w) (a := ⟨bb, off, none⟩) (fun i => c.getD (off + i) undef) (fun i hil => by
        rw [List.length_drop] at hil
        rw [add_plain']
        exact cell_row h2 (by omega)) (fun i y hy => h4 (off + i) y (by simpa using hy)) h
      refine ⟨z, ?_, hzr⟩
      simp only [resM, hea, asAddr]
      simp [hz]

theorem resL_sound {G : Gh} {x : AS} {a : Act} {w : World} (hi : Inv G x a w) : ∀ {l : List ResultVar} {vs : List AV}, l.mapM (resA P x) = some vs →
    ∃ us : List Value, (l.mapM (resM a.tmps)).run P w = .ok us w ∧ us.length = vs.length ∧ ∀ (i : Nat) (v : AV), vs[i]? = some v → Rel G w v (us.getD i undef)
  | [], vs, h => by simp at h; subst h; exact ⟨[], rfl, rfl, fun i v hv => by simp at hv⟩
  | rv :: l, vs, h => by
    simp only [List.mapM_cons, Option.bind_eq_bind, Option.bind_eq_some_iff] at h
    obtain ⟨v, hv, vs', hvs, h⟩ := h
    simp at h
    subst h
    obtain ⟨u, hu, hr⟩ := resA_sound hi hv
    obtain ⟨us, hus, hl, hrs⟩ := resL_sound hi hvs
    refine ⟨u :: us, ?_, by simp [hl], fun i y hy => ?_⟩
    · simp only [List.mapM_cons, Sem.run_bind, hu, Result.andThen_ok, hus, Sem.run_pure]
    · cases i with
      | zero => simp at hy; subst hy; exact hr
      | succ i => exact hrs i y (by simpa using hy)

theorem results_sound {G : Gh} {x : AS} {a : Act} {w : World} (hi : Inv G x a w) {fn : Func} {v : AV} (h : resultsA P fn x = some v) : ∃ u, (results fn a.tmps).run P w = .ok u w ∧ Rel G w v u := by
  simp only [resultsA, Option.map_eq_some_iff] at h
  obtain ⟨vs, hvs, h⟩ := h
  obtain ⟨us, hus, hl, hr⟩ := resL_sound hi hvs
  have e : (results fn a.tmps).run P w = .ok (if h : us.toArray.size = 1 then us.toArray[0] else .tuple us.toArray) w := by
    rw [results_eq, Array.mapM_eq_mapM_toList]
    simp only [Sem.run_bind, map_eq_pure_bind, hus, Result.andThen_ok, Sem.run_pure]
  rw [e]
  refine ⟨_, rfl, ?_⟩
  split at h
  · rename_i y
    subst h
    have h1 : us.toArray.size = 1 := by simpa using hl
    rw [dif_pos h1]
    have := hr 0 y (by simp)
    have e2 : us.toArray[0] = us.getD 0 undef := by
      simp [List.getD, show 0 < us.length by simpa using (by omega : 0 < us.toArray.size)]
    rw [e2]
    exact this
  · rename_i vs' hne
    subst h
    have h1 : ¬ us.toArray.size = 1 := by
      intro h1
      have : vs.length = 1 := by rw [← hl]; simpa using h1
      obtain ⟨y, hy⟩ := List.length_eq_one_iff.1 this
      exact hne y hy
    rw [dif_neg h1]
    exact .tup (by simpa using hl) fun i x hx => by simpa [Array.getD_eq_getD_getElem?, List.getD] using hr i x hx

/-- The frame in which a function begins. -/
def frame0 (fn : Func) (args : List AV) : Fr := args.map some ++ List.replicate (fn.ntmps - args.length) (some .undef)

theorem frame0_rel {G : Gh} {w : World} {fn : Func} {args : List AV} {vs : Array Value} (h : Rels G w args vs) : RelF G w (frame0 fn args) (vs ++ Array.replicate (fn.ntmps - vs.size) undef) := by
  rw [h.1]
  have h2 : Rels G w (args ++ List.replicate (fn.ntmps - args.length) .undef) (vs ++ Array.replicate (fn.ntmps - args.length) undef) := by
    refine Rels.append h ⟨by simp, fun i x hx => ?_⟩
    have hil := (List.getElem?_eq_some_iff.1 hx).1
    have : x = .undef := by
      have := (List.getElem?_eq_some_iff.1 hx).2
      simpa using this.symm
    subst this
    have e : (Array.replicate (fn.ntmps - args.length) undef).getD i undef = undef := by
      simp [Array.getD]
    rw [e]
    exact undef_rel G w
  have e : frame0 fn args = (args ++ List.replicate (fn.ntmps - args.length) AV.undef).map some := by simp [frame0]
  rw [e]
  refine ⟨by rw [List.length_map]; exact h2.1, fun i x hx => h2.2 i x ?_⟩
  rw [List.getElem?_map] at hx
  simpa using hx

/-- A function's text comes to an end: so does a call of it. -/
theorem ACall_of_T {f : FuncId} {fn : Func} {c : Code} {args : List AV} {σ : Mem} {x' : AS} {v : AV} {e : AE} (hf : P.funcs[f]? = some fn) (hb : fn.body = some c)
    (h : T P c ⟨frame0 fn args, [], σ⟩ e x') (he : e = .normal ∨ e = .ret) (hd : x'.df = []) (hr : resultsA P fn x' = some v) : ACall P f args σ v x'.σ := by
  intro G w vs hi hargs
  refine calls_of_wp hf hb (h G _ w _ ⟨frame0_rel hargs, ⟨rfl, fun i x hx => by simp at hx⟩, hi⟩ fun G' a' w' hi' hev => ?_)
  have hdf : a'.defers = [] := by
    have := hi'.df.1
    rw [hd] at this
    exact List.eq_nil_of_length_eq_zero (by simpa using this)
  obtain ⟨u, hu, hur⟩ := results_sound hi' hr
  rcases he with rfl | rfl
  · exact ⟨hdf, u, hu, G', u, rfl, hi'.h, hev, hur⟩
  · exact ⟨hdf, u, hu, G', u, rfl, hi'.h, hev, hur⟩

/-- A call that hands back a plain value, from no memory at all. -/
theorem ACall.calls {f : FuncId} {args : List AV} {v : AV} {σ' : Mem} (h : ACall P f args [] v σ') {w : World} {vs : Array Value} (hargs : Rels Gh.none w args vs) {u : Value} (hu : toV v = some u) :
    Calls P f vs w fun e w' => e = .returned u ∧ Below w.heap.size w w' := by
  refine (h Gh.none w vs (InvH.start w) hargs).mono fun e w' ⟨G', u', he, hi, hev, hr⟩ => ?_
  rw [toV_eq hu hr] at he
  exact ⟨he, hev.below⟩

/-- What a contract of the machine's own says: nothing is written, the value is known. -/
theorem ACall.of_calls {f : FuncId} {args : List AV} {σ : Mem} {v : AV} (h : ∀ G w vs, Rels G w args vs → Calls P f vs w fun e w' => ∃ u, e = .returned u ∧ Below w.heap.size w w' ∧ Rel G w' v u) : ACall P f args σ v σ :=
  fun G w vs hi hargs => (h G w vs hargs).mono fun e w' ⟨u, he, hb, hr⟩ => ⟨G, u, he, hi.of_below hb, Evo.of_below hb, hr⟩

end
end Go.Proofs.Ytihbdelgoapeoaa.K
/- The abstract machine as a program: what it answers is so. -/
namespace Go.Proofs.Ytihbdelgoapeoaa.K
open Go Go.RowKit
set_option linter.unusedSimpArgs false
set_option linter.unusedVariables false

/-- What calls do: a table of contracts. -/
abbrev CallT := FuncId → List AV → Mem → Option (AV × Mem)

def opF (C : CallT) (P : Program) (x : AS) (o : Oper) : Option (AV × AS) :=
  match o.op with
  | .call c =>
    match c.callee with
    | .value _ => (callee x.tm c).bind fun (g, args) => if enters P g = true then (C g args x.σ).map fun (v, σ') => (v, { x with σ := σ' }) else none
    | _ => (plainOp P x.tm x.σ o.op o.type).map fun (v, σ') => (v, { x with σ := σ' })
  | .defer c =>
    match c.callee with
    | .value fo => (ev x.tm fo).bind fun
      | .fn f first cap => (evs x.tm c.args.toList).map fun args => (.undef, { x with df := ⟨f, cap, first ++ args⟩ :: x.df })
      | _ => none
    | _ => none
  | _ => (plainOp P x.tm x.σ o.op o.type).map fun (v, σ') => (v, { x with σ := σ' })

def opsF (C : CallT) (P : Program) (ops : Array Oper) : List Oper → AS → Option AS
  | [], x => some x
  | o :: rest, x =>
    (wantedA ops x.tm o).bind fun b => if b = true then (opF C P x o).bind fun (v, x1) => opsF C P ops rest (x1.put o.dst v)
    else opsF C P ops rest (x.put o.dst .undef)

def codeF (C : CallT) (P : Program) (D : Array Oper → AS → Option AS) : Nat → Code → AS → Option (AE × AS)
  | 0, _, _ => none
  | n + 1, c, x =>
    match c with
    | .skip => some (.normal, x)
    | .ret => some (.ret, x)
    | .exit id => some (.exit id, x)
    | .region _ ops d => if d = true then (D ops x).map fun x1 => (.normal, x1) else (opsF C P ops ops.toList x).map fun x1 => (.normal, x1)
    | .seq a b => (codeF C P D n a x).bind fun (e, x1) => match e with
      | .normal => codeF C P D n b x1
      | e => some (e, x1)
    | .cond c a b => (ev x.tm c).bind fun
      | .bool t => codeF C P D n (if t then a else b) x
      | _ => none
    | .block id c => (codeF C P D n c x).map fun (e, x1) => ((if e = .exit id then .normal else e), x1)
    | .loop c => (codeF C P D n c x).bind fun (e, x1) => match e with
      | .normal => codeF C P D n (.loop c) x1
      | e => some (e, x1)
    | _ => none

def CallsOK (P : Program) (C : CallT) : Prop := ∀ f args σ v σ', C f args σ = some (v, σ') → ACall P f args σ v σ'
def DrawOK (P : Program) (D : Array Oper → AS → Option AS) : Prop := ∀ id ops x x', D ops x = some x' → T P (.region id ops true) x .normal x'

section
variable {P : Program} {C : CallT} {D : Array Oper → AS → Option AS}

theorem opF_sound (hC : CallsOK P C) {x x1 : AS} {o : Oper} {v : AV} (h : opF C P x o = some (v, x1)) : OpA P x o v x1 := by
  unfold opF at h
  have plain : (plainOp P x.tm x.σ o.op o.type).map (fun (v, σ') => (v, { x with σ := σ' })) = some (v, x1) → OpA P x o v x1 := by
    intro h
    simp only [Option.map_eq_some_iff, Prod.mk.injEq] at h
    obtain ⟨⟨v', σ'⟩, hp, rfl, rfl⟩ := h
    exact .plain hp
  split at h
  · rename_i c ho
    split at h
    · simp only [Option.bind_eq_some_iff] at h
      obtain ⟨⟨g, args⟩, hc, h⟩ := h
      split at h
      · rename_i he
        simp only [Option.map_eq_some_iff, Prod.mk.injEq] at h
        obtain ⟨⟨v', σ'⟩, hcall, rfl, rfl⟩ := h
        exact .call ho hc he (hC _ _ _ _ _ hcall)
      · cases h
    · exact plain h
  · rename_i c ho
    split at h
    · rename_i fo hfo
      simp only [Option.bind_eq_some_iff] at h
      obtain ⟨fv, hfv, h⟩ := h
      split at h
      · simp only [Option.map_eq_some_iff, Prod.mk.injEq] at h
        obtain ⟨args, ha, rfl, rfl⟩ := h
        exact .defer ho hfo hfv ha
      · cases h
    · cases h
  · exact plain h

theorem opsF_sound (hC : CallsOK P C) {ops : Array Oper} : ∀ {l : List Oper} {x x' : AS}, opsF C P ops l x = some x' → OpsA P ops l x x'
  | [], x, x', h => by simp [opsF] at h; subst h; exact .nil _
  | o :: l, x, x', h => by
    unfold opsF at h
    simp only [Option.bind_eq_some_iff] at h
    obtain ⟨b, hw, h⟩ := h
    cases b
    · exact .skip hw (opsF_sound hC (by simpa using h))
    · simp only [if_true, Option.bind_eq_some_iff] at h
      obtain ⟨⟨v, x1⟩, ho, h⟩ := h
      exact .step hw (opF_sound hC ho) (opsF_sound hC h)

theorem codeF_sound (hC : CallsOK P C) (hD : DrawOK P D) : ∀ {n : Nat} {c : Code} {x x' : AS} {e : AE}, codeF C P D n c x = some (e, x') → T P c x e x'
  | 0, c, x, x', e, h => by simp [codeF] at h
  | n + 1, c, x, x', e, h => by
    cases c <;> simp only [codeF, reduceCtorEq, Option.some.injEq, Prod.mk.injEq] at h
    case skip => obtain ⟨rfl, rfl⟩ := h; exact T_skip _
    case ret => obtain ⟨rfl, rfl⟩ := h; exact T_ret _
    case exit id => obtain ⟨rfl, rfl⟩ := h; exact T_exit _ _
    case region id ops d =>
      split at h
      · rename_i hd
        subst hd
        simp only [Option.map_eq_some_iff, Prod.mk.injEq] at h
        obtain ⟨x1, hx, rfl, rfl⟩ := h
        exact hD id ops x x1 hx
      · rename_i hd
        have : d = false := by simpa using hd
        subst this
        simp only [Option.map_eq_some_iff, Prod.mk.injEq] at h
        obtain ⟨x1, hx, rfl, rfl⟩ := h
        exact T_region (opsF_sound hC hx)
    case seq a b =>
      simp only [Option.bind_eq_some_iff] at h
      obtain ⟨⟨e1, x1⟩, h1, h2⟩ := h
      cases e1 <;> simp only [Option.some.injEq, Prod.mk.injEq] at h2
      · exact T_seq (codeF_sound hC hD h1) (codeF_sound hC hD h2)
      · obtain ⟨rfl, rfl⟩ := h2; exact T_seq_out (codeF_sound hC hD h1) (by simp)
      · obtain ⟨rfl, rfl⟩ := h2; exact T_seq_out (codeF_sound hC hD h1) (by simp)
    case cond c a b =>
      simp only [Option.bind_eq_some_iff] at h
      obtain ⟨v, hv, h⟩ := h
      cases v <;> simp only [reduceCtorEq] at h
      exact T_cond hv (codeF_sound hC hD h)
    case block id c =>
      simp only [Option.map_eq_some_iff, Prod.mk.injEq] at h
      obtain ⟨⟨e1, x1⟩, h1, rfl, rfl⟩ := h
      exact T_block (codeF_sound hC hD h1)
    case loop c =>
      simp only [Option.bind_eq_some_iff] at h
      obtain ⟨⟨e1, x1⟩, h1, h2⟩ := h
      have aux : ∀ {m : Nat} {y y' : AS} {e : AE}, m ≤ n → codeF C P D m (.loop c) y = some (e, y') → LoopA P c y e y' := by
        intro m
        induction m with
        | zero => intro y y' e _ h; simp [codeF] at h
        | succ m ih =>
          intro y y' e hm h
          simp only [codeF, Option.bind_eq_some_iff] at h
          obtain ⟨⟨e1, y1⟩, g1, g2⟩ := h
          have g1' := codeF_sound hC hD (n := m) g1
          cases e1 <;> simp only [Option.some.injEq, Prod.mk.injEq] at g2
          · exact .again g1' (ih (by omega) g2)
          · obtain ⟨rfl, rfl⟩ := g2; exact .out g1' (by simp)
          · obtain ⟨rfl, rfl⟩ := g2; exact .out g1' (by simp)
      have h1' := codeF_sound hC hD h1
      cases e1 <;> simp only [Option.some.injEq, Prod.mk.injEq] at h2
      · exact T_loop (.again h1' (aux (Nat.le_refl _) h2))
      · obtain ⟨rfl, rfl⟩ := h2; exact T_loop (.out h1' (by simp))
      · obtain ⟨rfl, rfl⟩ := h2; exact T_loop (.out h1' (by simp))
  termination_by n => n

/-- Calls of functions by their texts, down to a depth. -/
def callF (P : Program) (D : CallT → Array Oper → AS → Option AS) : Nat → CallT
  | 0, _, _, _ => none
  | n + 1, f, args, σ => (P.funcs[f]?).bind fun fn => (fn.body).bind fun c => (codeF (callF P D n) P (D (callF P D n)) n c ⟨frame0 fn args, [], σ⟩).bind fun (e, x') =>
    if (e = .normal ∨ e = .ret) ∧ x'.df.isEmpty = true then (resultsA P fn x').map fun v => (v, x'.σ) else none

theorem callF_sound {D : CallT → Array Oper → AS → Option AS} (hD : ∀ C, CallsOK P C → DrawOK P (D C)) : ∀ n, CallsOK P (callF P D n)
  | 0 => fun f args σ v σ' h => by simp [callF] at h
  | n + 1 => fun f args σ v σ' h => by
    have ih := callF_sound hD n
    simp only [callF, Option.bind_eq_some_iff] at h
    obtain ⟨fn, hf, c, hb, ⟨e, x'⟩, hc, h⟩ := h
    simp only at h
    split at h
    · rename_i hcond
      simp only [Option.map_eq_some_iff, Prod.mk.injEq] at h
      obtain ⟨v', hv, rfl, rfl⟩ := h
      exact ACall_of_T hf hb (codeF_sound ih (hD _ ih) hc) hcond.1 (by simpa using hcond.2) hv
    · cases h

/-- No region that draws its order. -/
def noDraw (C : CallT) (ops : Array Oper) (x : AS) : Option AS := none
theorem noDraw_ok (C : CallT) : DrawOK P (noDraw C) := fun id ops x x' h => by simp [noDraw] at h

end
end Go.Proofs.Ytihbdelgoapeoaa.K
/- A region that draws its order: the text's order tells, whatever order is drawn. -/
namespace Go.Proofs.Ytihbdelgoapeoaa.K
open Go Go.RowKit
set_option linter.unusedSimpArgs false
set_option linter.unusedVariables false

/-! ### What an operation looks at -/
theorem ev_congr {s t : Fr} {x : Operand} (h : ∀ i, x = .tmp i → s[i]? = t[i]?) : ev s x = ev t x := by
  cases x <;> simp [ev]
  rw [h _ rfl]

theorem evs_congr {s t : Fr} : ∀ {xs : List Operand}, (∀ x ∈ xs, ev s x = ev t x) → evs s xs = evs t xs
  | [], _ => rfl
  | x :: xs, h => by
    have := evs_congr (xs := xs) (fun y hy => h y (by simp [hy]))
    unfold evs at *
    simp only [List.mapM_cons, this, h x (by simp)]

theorem evVs_congr {s t : Fr} : ∀ {xs : List Operand}, (∀ x ∈ xs, ev s x = ev t x) → xs.mapM (evV s) = xs.mapM (evV t)
  | [], _ => rfl
  | x :: xs, h => by
    have := evVs_congr (xs := xs) (fun y hy => h y (by simp [hy]))
    simp only [List.mapM_cons, this, evV, h x (by simp)]

theorem parts_congr {s t : Fr} : ∀ {xs : List (Nat × Operand)}, (∀ x ∈ xs, ev s x.2 = ev t x.2) →
    xs.mapM (fun (q : Nat × Operand) => (ev s q.2).map fun v => (q.1, v)) = xs.mapM (fun (q : Nat × Operand) => (ev t q.2).map fun v => (q.1, v))
  | [], _ => rfl
  | x :: xs, h => by
    have := parts_congr (xs := xs) (fun y hy => h y (by simp [hy]))
    simp only [List.mapM_cons, this, h x (by simp)]

theorem plainOp_congr {P : Program} {s t : Fr} {σ : Mem} {op : Op} {ty : TypeId} (h : ∀ x ∈ op.operands.toList, ev s x = ev t x) : plainOp P s σ op ty = plainOp P t σ op ty := by
  have hV : ∀ x, ev s x = ev t x → evV s x = evV t x := fun x hx => by simp [evV, hx]
  have hB : ∀ d (x : Option Operand), (∀ y, x = some y → ev s y = ev t y) → natB s d x = natB t d x := by
    intro d x hx
    cases x with
    | none => rfl
    | some y => simp [natB, hx y rfl]
  have hM : ∀ (x : Option Operand), (∀ y, x = some y → ev s y = ev t y) → natM s x = natM t x := by
    intro x hx
    cases x with
    | none => rfl
    | some y => simp [natM, hx y rfl]
  have hO : ∀ (x : Option Operand), (∀ y, x = some y → ev s y = ev t y) → optV s x = optV t x := by
    intro x hx
    cases x with
    | none => rfl
    | some y => simp [optV, hV y (hx y rfl)]
  cases op
  case binOp op xt x y yt => simp only [plainOp, pureOp, nilCmp, h x (by simp [Op.operands]), h y (by simp [Op.operands]), hV x (h x (by simp [Op.operands])), hV y (h y (by simp [Op.operands]))]
  case unOp op xt x => simp only [plainOp, pureOp, hV x (h x (by simp [Op.operands]))]
  case convert a b x => simp only [plainOp, pureOp, convA, hV x (h x (by simp [Op.operands])), h x (by simp [Op.operands])]
  case slice xt x lo hi mx =>
    have e1 := h x (by simp [Op.operands])
    have e2 : ∀ y, lo = some y → ev s y = ev t y := fun y hy => h y (by subst hy; simp [Op.operands])
    have e3 : ∀ y, hi = some y → ev s y = ev t y := fun y hy => h y (by subst hy; simp [Op.operands])
    have e4 : ∀ y, mx = some y → ev s y = ev t y := fun y hy => h y (by subst hy; simp [Op.operands])
    simp only [plainOp, pureOp, memOp, hV x e1, e1, hB _ lo e2, hB _ hi e3, hM mx e4, hO lo e2, hO hi e3, hO mx e4]
  case index xt x i =>
    have e1 := h x (by simp [Op.operands])
    have e2 := h i (by simp [Op.operands])
    simp only [plainOp, pureOp, memOp, hV x e1, e1, hV i e2, e2]
  case call c =>
    obtain ⟨cal, args, tys⟩ := c
    have ha : ∀ x ∈ args.toList, ev s x = ev t x := fun x hx => h x (by simp [Op.operands, Call.operands] at hx ⊢; exact .inr hx)
    cases cal with
    | builtin b =>
      have e2 := evVs_congr ha
      have gen : ∀ b', plainB P s b' ⟨.builtin b, args, tys⟩ ty args.toList = plainB P t b' ⟨.builtin b, args, tys⟩ ty args.toList := fun b' => by simp only [plainB, e2]
      have hcv : ∀ b', callV P s b' ⟨.builtin b, args, tys⟩ ty = callV P t b' ⟨.builtin b, args, tys⟩ ty := by
        intro b'
        unfold callV
        simp only
        generalize hal : args.toList = al at ha gen
        generalize tys.toList = tl
        cases b' <;> first
          | exact gen _
          | (rcases al with _ | ⟨x, _ | ⟨y, al⟩⟩ <;> rcases tl with _ | ⟨z, tl⟩ <;> first
              | exact gen _
              | (have ex := ha x (by simp)
                 simp only [ex, gen]))
      simp only [plainOp, callB]
      cases b <;> first
        | (simp only [hcv]; done)
        | (generalize args.toList = al at ha
           generalize tys.toList = tl
           rcases al with _ | ⟨x, _ | ⟨y, _ | ⟨z, al⟩⟩⟩ <;> rcases tl with _ | ⟨t1, _ | ⟨t2, _ | ⟨t3, tl⟩⟩⟩ <;> first
             | rfl
             | (have ex := ha x (by simp)
                have ey := ha y (by simp)
                simp only [ex, ey]))
    | value f => rfl
    | invoke r m => rfl
  case move x => simp only [plainOp, memOp, h x (by simp [Op.operands])]
  case assign x => simp only [plainOp, memOp, h x (by simp [Op.operands])]
  case pick c x y => simp only [plainOp, memOp, h c (by simp [Op.operands]), h x (by simp [Op.operands]), h y (by simp [Op.operands])]
  case alloc e => rfl
  case box e x => simp only [plainOp, memOp, h x (by simp [Op.operands])]
  case load e x => simp only [plainOp, memOp, h x (by simp [Op.operands])]
  case store e x y => simp only [plainOp, memOp, h x (by simp [Op.operands]), h y (by simp [Op.operands])]
  case nilCheck x => simp only [plainOp, memOp, h x (by simp [Op.operands])]
  case makeInterface e x => simp only [plainOp, memOp, h x (by simp [Op.operands])]
  case makeFunc f xs ys =>
    have e1 := evs_congr (s := s) (t := t) (xs := xs.toList) (fun x hx => h x (by simp [Op.operands] at hx ⊢; exact .inl hx))
    have e2 := evs_congr (s := s) (t := t) (xs := ys.toList) (fun x hx => h x (by simp [Op.operands] at hx ⊢; exact .inr hx))
    simp only [plainOp, memOp, e1, e2]
  case fieldAddr e x f => simp only [plainOp, memOp, h x (by simp [Op.operands])]
  case field e x f => simp only [plainOp, memOp, h x (by simp [Op.operands])]
  case extract x i => simp only [plainOp, memOp, h x (by simp [Op.operands])]
  case indexAddr e x i => simp only [plainOp, memOp, h x (by simp [Op.operands]), h i (by simp [Op.operands])]
  case build e parts =>
    have e1 := parts_congr (s := s) (t := t) (xs := parts.toList) (fun x hx => h x.2 (by simp [Op.operands]; exact ⟨x.1, by simpa using hx⟩))
    simp only [plainOp, memOp, e1]
  case buildSlice e n parts =>
    have e1 := evs_congr (s := s) (t := t) (xs := parts.toList.map (·.2)) (fun x hx => h x (by simpa [Op.operands] using hx))
    simp only [plainOp, memOp, e1]
  case makeSlice e x y => simp only [plainOp, memOp, h x (by simp [Op.operands]), h y (by simp [Op.operands])]
  all_goals rfl

theorem callee_congr {s t : Fr} {c : Call} (h : ∀ x ∈ c.operands.toList, ev s x = ev t x) : callee s c = callee t c := by
  obtain ⟨cal, args, tys⟩ := c
  cases cal with
  | value f =>
    have e1 := h f (by simp [Call.operands])
    have e2 := evs_congr (s := s) (t := t) (xs := args.toList) (fun x hx => h x (by simp [Call.operands] at hx ⊢; exact .inr hx))
    simp only [callee, e1, e2]
  | builtin b => rfl
  | invoke r m => rfl

/-! ### What comes before what -/
/-- Operation j is before operation i, by the edges that always bind. -/
def pre (ops : Array Oper) (i j : Nat) : Bool := ((Region.before ops).getD i 0).testBit j

theorem before_spec (ops : Array Oper) : (Region.before ops).size = ops.size ∧ ∀ i j, pre ops i j = true → ∃ o e, ops[i]? = some o ∧ e ∈ o.after ∧ Region.binds .any e = true ∧ (e.on = j ∨ (e.on < i ∧ pre ops e.on j = true)) := by
  have inner : ∀ (acc : Array Nat) (l : List Edge) (s0 j : Nat), (l.foldl (fun s e => if Region.binds .any e = true then s ||| 2 ^ e.on ||| acc.getD e.on 0 else s) s0).testBit j = true →
      s0.testBit j = true ∨ ∃ e ∈ l, Region.binds .any e = true ∧ (e.on = j ∨ (acc.getD e.on 0).testBit j = true) := by
    intro acc l
    induction l with
    | nil => intro s0 j h; exact .inl h
    | cons e l ih =>
      intro s0 j h
      simp only [List.foldl_cons] at h
      rcases ih _ j h with h | ⟨e', he', h⟩
      · split at h
        · rename_i hb
          simp only [Nat.testBit_or, Bool.or_eq_true] at h
          rcases h with (h | h) | h
          · exact .inl h
          · refine .inr ⟨e, by simp, hb, .inl ?_⟩
            simpa [Nat.testBit_two_pow] using h
          · exact .inr ⟨e, by simp, hb, .inr h⟩
        · exact .inl h
      · exact .inr ⟨e', by simp [he'], h⟩
  have outer : ∀ (l : List Oper) (acc : Array Nat) (k : Nat), acc.size = k → (∀ m, l[m]? = ops[k + m]?) →
      (∀ i j, i < k → (acc.getD i 0).testBit j = true → ∃ o e, ops[i]? = some o ∧ e ∈ o.after ∧ Region.binds .any e = true ∧ (e.on = j ∨ (e.on < i ∧ (acc.getD e.on 0).testBit j = true))) →
      let r := l.foldl (fun acc o => acc.push (o.after.foldl (fun s e => if Region.binds .any e then s ||| 2 ^ e.on ||| acc.getD e.on 0 else s) 0)) acc
      r.size = k + l.length ∧ ∀ i j, i < k + l.length → (r.getD i 0).testBit j = true → ∃ o e, ops[i]? = some o ∧ e ∈ o.after ∧ Region.binds .any e = true ∧ (e.on = j ∨ (e.on < i ∧ (r.getD e.on 0).testBit j = true)) := by
    intro l
    induction l with
    | nil => intro acc k hs _ h; exact ⟨by simpa using hs, fun i j hi => h i j (by simpa using hi)⟩
    | cons o l ih =>
      intro acc k hs hl h
      have ho : ops[k]? = some o := by have := hl 0; simpa using this.symm
      have hl' : ∀ m, l[m]? = ops[(k + 1) + m]? := fun m => by have := hl (m + 1); simpa [Nat.add_assoc, Nat.add_comm 1 m] using this
      simp only [List.foldl_cons, List.length_cons]
      have get : ∀ (z : Nat) (i : Nat), i < k → (acc.push z).getD i 0 = acc.getD i 0 := by
        intro z i hi
        simp [Array.getD, hs, hi, Nat.lt_succ_of_lt hi, Array.getElem_push]
      have := ih (acc.push (o.after.foldl (fun s e => if Region.binds .any e then s ||| 2 ^ e.on ||| acc.getD e.on 0 else s) 0)) (k + 1) (by simp [hs]) hl' (by
        intro i j hi hb
        by_cases hik : i < k
        · rw [get _ i hik] at hb
          obtain ⟨o', e, h1, h2, h3, h4⟩ := h i j hik hb
          refine ⟨o', e, h1, h2, h3, h4.imp id fun ⟨g1, g2⟩ => ⟨g1, ?_⟩⟩
          rw [get _ _ (by omega)]
          exact g2
        · obtain rfl : i = k := by omega
          have e1 : (acc.push (o.after.foldl (fun s e => if Region.binds .any e then s ||| 2 ^ e.on ||| acc.getD e.on 0 else s) 0)).getD i 0 = o.after.foldl (fun s e => if Region.binds .any e then s ||| 2 ^ e.on ||| acc.getD e.on 0 else s) 0 := by
            rw [← hs]
            simp [Array.getD]
          rw [e1, ← Array.foldl_toList] at hb
          rcases inner acc _ 0 j hb with hb | ⟨e, he, hbind, hb⟩
          · simp at hb
          · refine ⟨o, e, ho, by simpa using he, hbind, hb.imp id fun hb => ?_⟩
            have hlt : e.on < i := by
              rcases Nat.lt_or_ge e.on i with g | g
              · exact g
              · have : acc.getD e.on 0 = 0 := by simp [Array.getD, show ¬ e.on < acc.size by omega]
                rw [this] at hb
                simp at hb
            exact ⟨hlt, by rw [get _ _ hlt]; exact hb⟩)
      have e2 : k + 1 + l.length = k + (l.length + 1) := by omega
      rw [e2] at this
      exact this
  have := outer ops.toList #[] 0 rfl (fun m => by simp) (fun i j hi => by omega)
  simp only [Nat.zero_add, Array.length_toList] at this
  have hb : Region.before ops = ops.toList.foldl (fun acc o => acc.push (o.after.foldl (fun s e => if Region.binds .any e then s ||| 2 ^ e.on ||| acc.getD e.on 0 else s) 0)) #[] := by
    unfold Region.before
    rw [← Array.foldl_toList]
  rw [← hb] at this
  refine ⟨this.1, fun i j h => ?_⟩
  by_cases hi : i < ops.size
  · exact this.2 i j hi h
  · unfold pre at h
    have e : (Region.before ops).getD i 0 = 0 := by simp [Array.getD, this.1, hi]
    rw [e] at h
    simp at h

end Go.Proofs.Ytihbdelgoapeoaa.K
/- A region that draws its order: what the text's order comes to, every order comes to. -/
namespace Go.Proofs.Ytihbdelgoapeoaa.K
open Go Go.RowKit
set_option linter.unusedSimpArgs false
set_option linter.unusedVariables false

/-- The temporary that an operation writes. -/
def dstOf (ops : Array Oper) (i : Nat) : Option Tmp := (ops[i]?).bind (·.dst)

/-- The temporaries that an operation names. -/
def names (ops : Array Oper) (o : Oper) : List Tmp :=
  o.op.operands.toList.filterMap (fun | .tmp t => some t | _ => none) ++ o.dst.toList ++ (match o.guard with | some (j, _) => (dstOf ops j).toList | none => [])

/-- The edges order all that must be ordered: whoever names a temporary and whoever writes it; the operations of E among each other. -/
def okRegion (ops : Array Oper) (E : Nat → Bool) : Bool :=
  (List.range ops.size).all fun i => match ops[i]? with
  | none => true
  | some o => (o.after.toList.all fun e => !Region.binds .any e || decide (e.on < i)) &&
    (List.range ops.size).all fun j => j == i ||
      (((match dstOf ops j with | some d => !(names ops o).contains d | none => true) || (if j < i then pre ops i j else pre ops j i)) &&
       (!(E i && E j) || (if j < i then pre ops i j else pre ops j i)))

/-- The temporaries behind the operations that L names, in the text's order. -/
def tmF (ops : Array Oper) (v : Nat → AV) (L : Nat → Bool) (tm : Fr) (l : List Nat) : Fr := l.foldl (fun tm j => if L j then putD tm (dstOf ops j) (v j) else tm) tm

theorem putD_length (tm : Fr) (d : Option Tmp) (v : AV) : (putD tm d v).length = tm.length := by cases d <;> simp [putD]

theorem tmF_length {ops : Array Oper} {v : Nat → AV} {L : Nat → Bool} : ∀ (l : List Nat) (tm : Fr), (tmF ops v L tm l).length = tm.length
  | [], tm => rfl
  | j :: l, tm => by
    show (tmF ops v L (if L j then putD tm (dstOf ops j) (v j) else tm) l).length = _
    rw [tmF_length l]
    split
    · exact putD_length _ _ _
    · rfl

theorem tmF_get {ops : Array Oper} {v : Nat → AV} {L M : Nat → Bool} {t : Nat} : ∀ (l : List Nat) (tm tm' : Fr), tm.length = tm'.length → tm[t]? = tm'[t]? → (∀ j ∈ l, dstOf ops j = some t → L j = M j) →
    (tmF ops v L tm l)[t]? = (tmF ops v M tm' l)[t]?
  | [], tm, tm', _, h, _ => h
  | j :: l, tm, tm', hl, h, hd => by
    show (tmF ops v L (if L j then putD tm (dstOf ops j) (v j) else tm) l)[t]? = (tmF ops v M (if M j then putD tm' (dstOf ops j) (v j) else tm') l)[t]?
    refine tmF_get l _ _ ?_ ?_ (fun k hk => hd k (by simp [hk]))
    · split <;> split <;> simp [putD_length, hl]
    · by_cases hdj : dstOf ops j = some t
      · rw [hd j (by simp) hdj, hdj]
        split
        · simp only [putD, List.getElem?_set]
          simp [hl]
        · exact h
      · have keep : ∀ (b : Bool) (x : Fr), (if b = true then putD x (dstOf ops j) (v j) else x)[t]? = x[t]? := by
          intro b x
          split
          · cases hj : dstOf ops j with
            | none => rfl
            | some d =>
              have : d ≠ t := fun e => hdj (by rw [hj, e])
              simp [putD, List.getElem?_set, this]
          · rfl
        rw [keep, keep]
        exact h

/-- The memory behind them. -/
def σF (E : Nat → Bool) (X : Nat → AS) (L : Nat → Bool) (σ : Mem) (l : List Nat) : Mem := l.foldl (fun s j => if L j && E j then (X (j + 1)).σ else s) σ

theorem σF_congr {E : Nat → Bool} {X : Nat → AS} {L M : Nat → Bool} : ∀ (l : List Nat) (σ : Mem), (∀ j ∈ l, E j = true → L j = M j) → σF E X L σ l = σF E X M σ l
  | [], _, _ => rfl
  | j :: l, σ, h => by
    show σF E X L (if L j && E j then (X (j + 1)).σ else σ) l = σF E X M (if M j && E j then (X (j + 1)).σ else σ) l
    have e : (L j && E j) = (M j && E j) := by
      cases hE : E j
      · simp
      · simp [h j (by simp) hE]
    rw [e]
    exact σF_congr l _ (fun k hk => h k (by simp [hk]))

theorem range_split {i n : Nat} (h : i ≤ n) : List.range n = List.range i ++ List.range' i (n - i) := by
  rw [List.range_eq_range', List.range_eq_range']
  have e0 := List.range'_append_1 (s := 0) (m := i) (n := n - i)
  rw [Nat.zero_add] at e0
  rw [e0]
  congr 1
  omega

/-- A run of the operations in the text's order: the states between, the values. -/
structure Run (P : Program) (ops : Array Oper) (E : Nat → Bool) (X : Nat → AS) (v : Nat → AV) : Prop where
  step : ∀ i o, ops[i]? = some o → (wantedA ops (X i).tm o = some true ∧ ∃ σ', OpA P (X i) o (v i) { X i with σ := σ' } ∧ X (i + 1) = ({ X i with σ := σ' } : AS).put o.dst (v i)) ∨
    (wantedA ops (X i).tm o = some false ∧ v i = .undef ∧ X (i + 1) = (X i).put o.dst .undef)
  still : ∀ i, i < ops.size → E i = false → (X (i + 1)).σ = (X i).σ
  quiet : ∀ i o, ops[i]? = some o → E i = false → wantedA ops (X i).tm o = some true → ∀ k, k ≤ ops.size → (∀ j, j < ops.size → E j = true → (pre ops i j = true → j < k) ∧ (pre ops j i = true → k ≤ j)) →
    plainOp P (X i).tm (X k).σ o.op o.type = some (v i, (X k).σ)

section
variable {P : Program} {ops : Array Oper} {E : Nat → Bool} {X : Nat → AS} {v : Nat → AV}

theorem dst_of {i : Nat} {o : Oper} (h : ops[i]? = some o) : dstOf ops i = o.dst := by simp [dstOf, h]

theorem Run.tm (hR : Run P ops E X v) : ∀ i, i ≤ ops.size → (X i).tm = tmF ops v (fun _ => true) (X 0).tm (List.range i) ∧ (X i).df = (X 0).df
  | 0, _ => ⟨rfl, rfl⟩
  | i + 1, hi => by
    obtain ⟨ih, ihd⟩ := hR.tm i (by omega)
    have ho : ops[i]? = some ops[i] := Array.getElem?_eq_getElem (by omega)
    have e : tmF ops v (fun _ => true) (X 0).tm (List.range (i + 1)) = putD (X i).tm (dstOf ops i) (v i) := by
      rw [ih]
      unfold tmF
      rw [List.range_succ, List.foldl_append]
      rfl
    rw [e, dst_of ho]
    rcases hR.step i _ ho with ⟨_, σ', _, h⟩ | ⟨_, hv, h⟩
    · rw [h]; exact ⟨rfl, ihd⟩
    · rw [h, hv]; exact ⟨rfl, ihd⟩

/-- The temporaries ahead of operation i: those of the operations below i. -/
theorem Run.tm_get (hR : Run P ops E X v) (i : Nat) (hi : i ≤ ops.size) (t : Nat) : (X i).tm[t]? = (tmF ops v (fun j => decide (j < i)) (X 0).tm (List.range ops.size))[t]? := by
  rw [(hR.tm i hi).1]
  have e : List.range ops.size = List.range i ++ (List.range' i (ops.size - i)) := by
    exact range_split hi
  have e2 : tmF ops v (fun j => decide (j < i)) (X 0).tm (List.range ops.size) = tmF ops v (fun j => decide (j < i)) (tmF ops v (fun j => decide (j < i)) (X 0).tm (List.range i)) (List.range' i (ops.size - i)) := by
    rw [e]; unfold tmF; rw [List.foldl_append]
  have e3 : ∀ (l : List Nat) (tm : Fr), (∀ j ∈ l, i ≤ j) → tmF ops v (fun j => decide (j < i)) tm l = tm := by
    intro l
    induction l with
    | nil => intro tm _; rfl
    | cons j l ih =>
      intro tm h
      show tmF ops v (fun j => decide (j < i)) (if decide (j < i) then _ else tm) l = tm
      rw [if_neg (by have := h j (by simp); simp; omega)]
      exact ih tm (fun k hk => h k (by simp [hk]))
  rw [e2, e3 _ _ (fun j hj => (List.mem_range'_1.1 hj).1)]
  exact tmF_get _ _ _ rfl rfl (fun j hj _ => by simp at hj ⊢; exact hj)

theorem Run.σ_eq (hR : Run P ops E X v) : ∀ i, i ≤ ops.size → (X i).σ = σF E X (fun j => decide (j < i)) (X 0).σ (List.range ops.size) := by
  have low : ∀ i, i ≤ ops.size → (X i).σ = σF E X (fun _ => true) (X 0).σ (List.range i) := by
    intro i
    induction i with
    | zero => intro _; rfl
    | succ i ih =>
      intro hi
      have e : σF E X (fun _ => true) (X 0).σ (List.range (i + 1)) = if E i then (X (i + 1)).σ else (X i).σ := by
        rw [ih (by omega)]
        unfold σF
        rw [List.range_succ, List.foldl_append]
        simp
      rw [e]
      cases hE : E i
      · simp [hR.still i (by omega) hE]
      · simp
  intro i hi
  rw [low i hi]
  have e : List.range ops.size = List.range i ++ (List.range' i (ops.size - i)) := by
    exact range_split hi
  have e2 : σF E X (fun j => decide (j < i)) (X 0).σ (List.range ops.size) = σF E X (fun j => decide (j < i)) (σF E X (fun j => decide (j < i)) (X 0).σ (List.range i)) (List.range' i (ops.size - i)) := by
    rw [e]; unfold σF; rw [List.foldl_append]
  have e3 : ∀ (l : List Nat) (σ : Mem), (∀ j ∈ l, i ≤ j) → σF E X (fun j => decide (j < i)) σ l = σ := by
    intro l
    induction l with
    | nil => intro tm _; rfl
    | cons j l ih =>
      intro tm h
      show σF E X (fun j => decide (j < i)) (if decide (j < i) && E j then _ else tm) l = tm
      rw [if_neg (by have := h j (by simp); simp; omega)]
      exact ih tm (fun k hk => h k (by simp [hk]))
  rw [e2, e3 _ _ (fun j hj => (List.mem_range'_1.1 hj).1)]
  exact σF_congr _ _ (fun j hj _ => by simp at hj ⊢; exact hj)

/-- What is listed is closed under what comes before. -/
def Closed (ops : Array Oper) (L : Nat → Bool) : Prop := ∀ i o, ops[i]? = some o → L i = true → ∀ e ∈ o.after, Region.binds .any e = true → L e.on = true

theorem Closed.pre {L : Nat → Bool} (h : Closed ops L) : ∀ i j, L i = true → pre ops i j = true → L j = true := by
  intro i
  induction i using Nat.strongRecOn with
  | _ i ih =>
    intro j hL hp
    obtain ⟨o, e, ho, he, hb, hj⟩ := (before_spec ops).2 i j hp
    have h1 := h i o ho hL e he hb
    rcases hj with rfl | ⟨hlt, hj⟩
    · exact h1
    · exact ih e.on hlt j h1 hj

/-- What comes before an operation that is ready is listed. -/
theorem ready_pre {L : Nat → Bool} (h : Closed ops L) {i : Nat} {o : Oper} (ho : ops[i]? = some o) (hr : ∀ e ∈ o.after, Region.binds .any e = true → L e.on = true) {j : Nat} (hp : pre ops i j = true) : L j = true := by
  obtain ⟨o', e, ho', he, hb, hj⟩ := (before_spec ops).2 i j hp
  rw [ho] at ho'
  cases ho'
  have h1 := hr e he hb
  rcases hj with rfl | ⟨hlt, hj⟩
  · exact h1
  · exact h.pre e.on j h1 hj

structure OkR (ops : Array Oper) (E : Nat → Bool) : Prop where
  down : ∀ i o, ops[i]? = some o → ∀ e ∈ o.after, Region.binds .any e = true → e.on < i
  names : ∀ i o, ops[i]? = some o → ∀ j, j < ops.size → j ≠ i → ∀ d, dstOf ops j = some d → d ∈ names ops o → (if j < i then pre ops i j else pre ops j i) = true
  chain : ∀ i j, i < ops.size → j < ops.size → j ≠ i → E i = true → E j = true → (if j < i then pre ops i j else pre ops j i) = true

theorem okRegion_spec (h : okRegion ops E = true) : OkR ops E := by
  unfold okRegion at h
  rw [List.all_eq_true] at h
  have key : ∀ i o, ops[i]? = some o → (∀ e ∈ o.after, Region.binds .any e = true → e.on < i) ∧ ∀ j, j < ops.size → j ≠ i →
      (∀ d, dstOf ops j = some d → d ∈ K.names ops o → (if j < i then pre ops i j else pre ops j i) = true) ∧ (E i = true → E j = true → (if j < i then pre ops i j else pre ops j i) = true) := by
    intro i o ho
    have hi := (Array.getElem?_eq_some_iff.1 ho).1
    have := h i (by simpa using hi)
    simp only [ho, Bool.and_eq_true] at this
    obtain ⟨h1, h2⟩ := this
    refine ⟨fun e he hb => ?_, fun j hj hne => ?_⟩
    · have := (List.all_eq_true.1 h1) e (by simpa using he)
      simpa [hb] using this
    · have := (List.all_eq_true.1 h2) j (by simpa using hj)
      simp only [Bool.or_eq_true, beq_iff_eq, hne, false_or, Bool.and_eq_true] at this
      obtain ⟨g1, g2⟩ := this
      refine ⟨fun d hd hmem => ?_, fun hEi hEj => ?_⟩
      · rcases g1 with g1 | g1
        · rw [hd] at g1
          simp at g1
          exact absurd hmem g1
        · exact g1
      · rcases g2 with g2 | g2
        · simp [hEi, hEj] at g2
        · exact g2
  exact ⟨fun i o ho => (key i o ho).1, fun i o ho j hj hne d hd hm => ((key i o ho).2 j hj hne).1 d hd hm, fun i j hi hj hne h1 h2 => ((key i _ (Array.getElem?_eq_getElem hi)).2 j hj hne).2 h1 h2⟩

/-- An operation that is ready sees what it sees in the text's order. -/
theorem lookup_ready (hO : OkR ops E) (hR : Run P ops E X v) {L : Nat → Bool} (hc : Closed ops L) {i : Nat} {o : Oper} (ho : ops[i]? = some o) (hL : L i = false) (hr : ∀ e ∈ o.after, Region.binds .any e = true → L e.on = true) {t : Nat} (ht : t ∈ names ops o) :
    (tmF ops v L (X 0).tm (List.range ops.size))[t]? = (X i).tm[t]? := by
  have hi := (Array.getElem?_eq_some_iff.1 ho).1
  rw [hR.tm_get i (by omega) t]
  refine tmF_get _ _ _ rfl rfl fun j hj hd => ?_
  have hjs : j < ops.size := by simpa using hj
  by_cases hji : j = i
  · subst hji; simp [hL]
  · have := hO.names i o ho j hjs hji t hd ht
    by_cases hlt : j < i
    · rw [if_pos hlt] at this
      simp [hlt, ready_pre hc ho hr this]
    · rw [if_neg hlt] at this
      have : L j = false := by
        cases hLj : L j
        · rfl
        · have h2 := hc.pre j i hLj this
          rw [hL] at h2
          cases h2
      simp [this, hlt]

theorem wantedA_congr {tm tm' : Fr} {o : Oper} (h : ∀ t ∈ names ops o, tm[t]? = tm'[t]?) : wantedA ops tm o = wantedA ops tm' o := by
  unfold wantedA
  cases hg : o.guard with
  | none => rfl
  | some g =>
    obtain ⟨j, want⟩ := g
    simp only
    cases hd : (ops[j]?).bind (·.dst) with
    | none => rfl
    | some d =>
      simp only [Option.bind_some]
      rw [h d (by simp only [names, hg, List.mem_append]; right; show d ∈ (dstOf ops j).toList; simp [dstOf, hd])]

theorem operands_congr {tm tm' : Fr} {o : Oper} (h : ∀ t ∈ names ops o, tm[t]? = tm'[t]?) : ∀ x ∈ o.op.operands.toList, ev tm x = ev tm' x := by
  intro x hx
  refine ev_congr fun i hi => ?_
  subst hi
  refine h i ?_
  simp only [names, List.mem_append, List.mem_filterMap]
  exact .inl (.inl ⟨.tmp i, hx, rfl⟩)

theorem OpA.other {x y : AS} {o : Oper} {u : AV} {σ' : Mem} (h : OpA P x o u { x with σ := σ' }) (hσ : y.σ = x.σ) (hev : ∀ z ∈ o.op.operands.toList, ev x.tm z = ev y.tm z) : OpA P y o u { y with σ := σ' } := by
  generalize hx' : ({ x with σ := σ' } : AS) = x' at h
  cases h with
  | @plain _ σ2 h =>
    have : σ2 = σ' := by injection hx' with _ _ h3; exact h3.symm
    subst this
    refine .plain ?_
    rw [← plainOp_congr hev, hσ]
    exact h
  | @call c g args _ σ2 ho hc he h =>
    have : σ2 = σ' := by injection hx' with _ _ h3; exact h3.symm
    subst this
    refine .call ho ?_ he (by rw [hσ]; exact h)
    rw [← hc]
    exact (callee_congr (fun z hz => hev z (by rw [ho]; exact hz))).symm
  | defer ho hf hv ha =>
    injection hx' with _ h2 _
    have := congrArg List.length h2
    simp at this

end
end Go.Proofs.Ytihbdelgoapeoaa.K
/- A region that draws its order: the theorem. -/
namespace Go.Proofs.Ytihbdelgoapeoaa.K
open Go Go.RowKit
set_option linter.unusedSimpArgs false
set_option linter.unusedVariables false

section
variable {P : Program} {ops : Array Oper} {E : Nat → Bool} {X : Nat → AS} {v : Nat → AV}

theorem Run.tm_succ (hR : Run P ops E X v) {i : Nat} {o : Oper} (ho : ops[i]? = some o) : (X (i + 1)).tm = putD (X i).tm o.dst (v i) := by
  rcases hR.step i o ho with ⟨_, σ', _, h⟩ | ⟨_, hv, h⟩
  · rw [h]; rfl
  · rw [h, hv]; rfl

/-- The listed ones of what must be in order are those below some place. -/
theorem exists_k {L : Nat → Bool} (h : ∀ i j, i < j → E i = true → E j = true → L j = true → L i = true) : ∀ m, ∃ k, k ≤ m ∧ ∀ j, j < m → E j = true → L j = decide (j < k)
  | 0 => ⟨0, Nat.le_refl _, fun j hj => by omega⟩
  | m + 1 => by
    obtain ⟨k, hk, hall⟩ := exists_k h m
    by_cases hm : E m = true ∧ L m = true
    · refine ⟨m + 1, Nat.le_refl _, fun j hj hE => ?_⟩
      by_cases hjm : j = m
      · subst hjm; simp [hm.2]
      · have := h j m (by omega) hE hm.1 hm.2
        simp [this]; omega
    · refine ⟨k, by omega, fun j hj hE => ?_⟩
      by_cases hjm : j = m
      · subst hjm
        have : L j = false := by
          cases hL : L j
          · rfl
          · exact absurd ⟨hE, hL⟩ hm
        rw [this]
        symm
        simp; omega
      · exact hall j (by omega) hE

/-- One more is listed. -/
def also (L : Nat → Bool) (i : Nat) : Nat → Bool := fun j => if j = i then true else L j

theorem tm_also (hO : OkR ops E) (hR : Run P ops E X v) {L : Nat → Bool} (hc : Closed ops L) {i : Nat} {o : Oper} (ho : ops[i]? = some o) (hL : L i = false) (hr : ∀ e ∈ o.after, Region.binds .any e = true → L e.on = true) :
    tmF ops v (also L i) (X 0).tm (List.range ops.size) = putD (tmF ops v L (X 0).tm (List.range ops.size)) o.dst (v i) := by
  have hi := (Array.getElem?_eq_some_iff.1 ho).1
  have hlenX : (X i).tm.length = (X 0).tm.length := by rw [(hR.tm i (by omega)).1, tmF_length]
  apply List.ext_getElem?
  intro t
  by_cases hd : dstOf ops i = some t
  · have ht : t ∈ names ops o := by
      simp only [names, List.mem_append]
      left; right
      rw [← dst_of ho, hd]
      simp
    have e1 : (tmF ops v (also L i) (X 0).tm (List.range ops.size))[t]? = (X (i + 1)).tm[t]? := by
      rw [hR.tm_get (i + 1) (by omega) t]
      refine tmF_get _ _ _ rfl rfl fun j hj hdj => ?_
      have hjs : j < ops.size := by simpa using hj
      unfold also
      by_cases hji : j = i
      · subst hji; simp
      · rw [if_neg hji]
        have := hO.names i o ho j hjs hji t hdj ht
        by_cases hlt : j < i
        · rw [if_pos hlt] at this
          simp [ready_pre hc ho hr this]; omega
        · rw [if_neg hlt] at this
          have : L j = false := by
            cases hLj : L j
            · rfl
            · have h2 := hc.pre j i hLj this
              rw [hL] at h2
              cases h2
          simp [this]; omega
    rw [e1, hR.tm_succ ho, ← dst_of ho, hd]
    simp only [putD, List.getElem?_set]
    simp [hlenX, tmF_length]
  · have e1 : (tmF ops v (also L i) (X 0).tm (List.range ops.size))[t]? = (tmF ops v L (X 0).tm (List.range ops.size))[t]? := by
      refine tmF_get _ _ _ rfl rfl fun j hj hdj => ?_
      unfold also
      rw [if_neg]
      rintro rfl
      exact hd hdj
    rw [e1]
    rw [← dst_of ho]
    cases hj : dstOf ops i with
    | none => rfl
    | some d =>
      have : d ≠ t := fun e => hd (by rw [hj, e])
      simp [putD, List.getElem?_set, this]

theorem T_draw {id : Nat} (hm : P.follows .mixedOrders = true) (hok : okRegion ops E = true) (hR : Run P ops E X v) : T P (.region id ops true) (X 0) .normal (X ops.size) := by
  have hO := okRegion_spec hok
  intro G0 a0 w0 Q hi0 hQ
  refine wp_region_any hm ?_
  have main : ∀ (fuel : Nat) (listed : Array Bool) (a : Act) (w : World), listed.size = ops.size → ((List.range ops.size).filter fun i => !listed.getD i false).length = fuel → Closed ops (fun i => listed.getD i false) →
      (∃ G, RelF G w (tmF ops v (fun i => listed.getD i false) (X 0).tm (List.range ops.size)) a.tmps ∧ ADRels G w (X 0).df a.defers ∧ InvH G (σF E X (fun i => listed.getD i false) (X 0).σ (List.range ops.size)) w ∧ Evo G0 w0 G w) →
      wpAny P .any ops Q fuel listed a w := by
    intro fuel
    induction fuel with
    | zero =>
      rintro listed a w hs hcount hc ⟨G, htm, hdf, hinv, hev⟩
      have hall : ∀ j, j < ops.size → listed.getD j false = true := by
        intro j hj
        have h0 := List.eq_nil_of_length_eq_zero hcount
        rw [List.filter_eq_nil_iff] at h0
        have := h0 j (by simpa using hj)
        simpa using this
      refine ⟨?_, hQ G a w ⟨?_, ?_, ?_⟩ hev⟩
      · apply List.eq_nil_iff_forall_not_mem.2
        intro i hi
        obtain ⟨h1, o, ho, _⟩ := mem_ready.1 hi
        have hil := (Array.getElem?_eq_some_iff.1 ho).1
        have h2 := hall i hil
        simp [Array.getD, hs, hil] at h1 h2
        rw [h2] at h1
        cases h1
      · rw [(hR.tm ops.size (Nat.le_refl _)).1]
        have e : tmF ops v (fun _ => true) (X 0).tm (List.range ops.size) = tmF ops v (fun i => listed.getD i false) (X 0).tm (List.range ops.size) := by
          apply List.ext_getElem?
          intro t
          exact tmF_get _ _ _ rfl rfl fun j hj _ => (hall j (by simpa using hj)).symm
        rw [e]
        exact htm
      · rw [(hR.tm ops.size (Nat.le_refl _)).2]
        exact hdf
      · rw [hR.σ_eq ops.size (Nat.le_refl _)]
        rw [σF_congr (L := fun j => decide (j < ops.size)) (M := fun i => listed.getD i false) _ _ fun j hj _ => by
          have : j < ops.size := by simpa using hj
          simp only [hall j this, this, decide_true]]
        exact hinv
    | succ fuel ih =>
      rintro listed a w hs hcount hc ⟨G, htm, hdf, hinv, hev⟩
      refine ⟨fun h0 => ?_, fun i hi => ?_⟩
      · -- one of those that are left is ready
        exfalso
        have hex : ∃ i, i < ops.size ∧ listed.getD i false = false := by
          have hne : ((List.range ops.size).filter fun i => !listed.getD i false) ≠ [] := by
            intro h; rw [h] at hcount; simp at hcount
          obtain ⟨i, hi⟩ := List.exists_mem_of_ne_nil _ hne
          rw [List.mem_filter] at hi
          exact ⟨i, by simpa using hi.1, by simpa using hi.2⟩
        have hmin : ∀ i, i < ops.size → listed.getD i false = false → False := by
          intro i
          induction i using Nat.strongRecOn with
          | _ i ihm =>
            intro hil hLi
            have ho : ops[i]? = some ops[i] := Array.getElem?_eq_getElem hil
            have : i ∈ Region.ready .any ops listed := by
              refine mem_ready.2 ⟨by simp [Array.getD, hs, hil] at hLi ⊢; exact hLi, ops[i], ho, fun e he hb => ?_⟩
              have hlt := hO.down i _ ho e he hb
              cases hLe : listed.getD e.on false
              · exact (ihm e.on hlt (by omega) hLe).elim
              · rfl
            rw [h0] at this
            cases this
        obtain ⟨i, h1, h2⟩ := hex
        exact hmin i h1 h2
      · obtain ⟨h1, o, ho, hr⟩ := mem_ready.1 hi
        have hil := (Array.getElem?_eq_some_iff.1 ho).1
        have hLi : listed.getD i false = false := by
          simp [Array.getD, hs, hil] at h1 ⊢
          exact h1
        have hlook : ∀ t ∈ names ops o, (tmF ops v (fun i => listed.getD i false) (X 0).tm (List.range ops.size))[t]? = (X i).tm[t]? :=
          fun t ht => lookup_ready hO hR hc ho hLi hr ht
        have hwant := wantedA_congr (ops := ops) hlook
        have hevs := operands_congr (ops := ops) hlook
        -- the next set
        have hgetL : ∀ j, (listed.setIfInBounds i true).getD j false = also (fun i => listed.getD i false) i j := by
          intro j
          unfold also
          by_cases hji : j = i
          · subst hji
            simp [Array.getD, hs, hil]
          · rw [if_neg hji]
            simp only [Array.getD_eq_getD_getElem?]
            rw [Array.getElem?_setIfInBounds_ne (Ne.symm hji)]
        have hL' : (fun j => (listed.setIfInBounds i true).getD j false) = also (fun i => listed.getD i false) i := funext hgetL
        have hcount' : ((List.range ops.size).filter fun j => !(listed.setIfInBounds i true).getD j false).length = fuel := by
          have split1 : ∀ (l : List Nat), l.Nodup → i ∈ l → (l.filter fun j => !listed.getD j false).length = (l.filter fun j => !(listed.setIfInBounds i true).getD j false).length + 1 := by
            intro l
            induction l with
            | nil => intro _ h; cases h
            | cons j l ihl =>
              intro hnd hmem
              rw [List.nodup_cons] at hnd
              by_cases hji : j = i
              · subst hji
                have same : (l.filter fun k => !listed.getD k false) = (l.filter fun k => !(listed.setIfInBounds j true).getD k false) := by
                  apply List.filter_congr
                  intro k hk
                  rw [hgetL k]
                  unfold also
                  rw [if_neg]
                  rintro rfl
                  exact hnd.1 hk
                rw [List.filter_cons_of_pos (by simp [hLi]), List.filter_cons_of_neg (by rw [hgetL j]; simp [also]), same]
                simp
              · have := ihl hnd.2 (by rcases List.mem_cons.1 hmem with h | h; exact absurd h.symm hji; exact h)
                have e : (listed.setIfInBounds i true).getD j false = listed.getD j false := by
                  rw [hgetL j]; unfold also; rw [if_neg hji]
                rw [List.filter_cons, List.filter_cons, e]
                split
                · rw [List.length_cons, List.length_cons, this]
                · exact this
          have := split1 (List.range ops.size) List.nodup_range (by simpa using hil)
          omega
        have hc' : Closed ops (fun j => (listed.setIfInBounds i true).getD j false) := by
          intro j o' ho' hj e he hb
          have hj : (listed.setIfInBounds i true).getD j false = true := hj
          show (listed.setIfInBounds i true).getD e.on false = true
          rw [hgetL] at hj ⊢
          unfold also at hj ⊢
          split
          · rfl
          · by_cases hji : j = i
            · subst hji
              rw [ho] at ho'
              cases ho'
              exact hr e he hb
            · rw [if_neg hji] at hj
              exact hc j o' ho' hj e he hb
        have hs' : (listed.setIfInBounds i true).size = ops.size := by rw [Array.size_setIfInBounds]; exact hs
        have next : ∀ G' a' w', RelF G' w' (putD (tmF ops v (fun i => listed.getD i false) (X 0).tm (List.range ops.size)) o.dst (v i)) a'.tmps → ADRels G' w' (X 0).df a'.defers →
            InvH G' (σF E X (also (fun i => listed.getD i false) i) (X 0).σ (List.range ops.size)) w' → Evo G w G' w' → wpAny P .any ops Q fuel (listed.setIfInBounds i true) a' w' := by
          intro G' a' w' g1 g2 g3 g4
          refine ih _ a' w' hs' hcount' hc' ⟨G', ?_, g2, ?_, hev.trans g4⟩
          · rw [hL', tm_also hO hR hc ho hLi hr]; exact g1
          · rw [hL']; exact g3
        -- the memory
        have σE : E i = true → σF E X (fun i => listed.getD i false) (X 0).σ (List.range ops.size) = (X i).σ ∧ σF E X (also (fun i => listed.getD i false) i) (X 0).σ (List.range ops.size) = (X (i + 1)).σ := by
          intro hE
          have ord : ∀ j, j < ops.size → E j = true → j ≠ i → listed.getD j false = decide (j < i) := by
            intro j hj hEj hne
            have := hO.chain i j hil hj hne hE hEj
            by_cases hlt : j < i
            · rw [if_pos hlt] at this
              simp [hlt]
              have := ready_pre hc ho hr this
              simpa using this
            · rw [if_neg hlt] at this
              have : listed.getD j false = false := by
                cases hLj : listed.getD j false
                · rfl
                · have h2 := hc.pre j i hLj this
                  simp only [hLi] at h2
                  cases h2
              rw [this]; symm; simp; omega
          constructor
          · rw [hR.σ_eq i (by omega)]
            refine σF_congr _ _ fun j hj hEj => ?_
            by_cases hji : j = i
            · subst hji; simp [hLi]
            · exact ord j (by simpa using hj) hEj hji
          · rw [hR.σ_eq (i + 1) (by omega)]
            refine σF_congr _ _ fun j hj hEj => ?_
            unfold also
            by_cases hji : j = i
            · subst hji; simp
            · rw [if_neg hji]
              show listed.getD j false = _
              rw [ord j (by simpa using hj) hEj hji]
              by_cases hlt : j < i
              · simp [hlt]; omega
              · simp [hlt]; omega
        have σN : E i = false → σF E X (also (fun i => listed.getD i false) i) (X 0).σ (List.range ops.size) = σF E X (fun i => listed.getD i false) (X 0).σ (List.range ops.size) := by
          intro hE
          refine σF_congr _ _ fun j hj hEj => ?_
          unfold also
          rw [if_neg]
          rintro rfl
          rw [hE] at hEj
          cases hEj
        unfold wpOp
        simp only [ho]
        rcases hR.step i o ho with ⟨hw, σ', hop, hX⟩ | ⟨hw, hv, hX⟩
        · rw [if_pos (wantedA_eq htm _ _ (hwant.trans hw))]
          refine .inl ?_
          have hInv : Inv G ⟨tmF ops v (fun i => listed.getD i false) (X 0).tm (List.range ops.size), (X 0).df, σF E X (fun i => listed.getD i false) (X 0).σ (List.range ops.size)⟩ a w := ⟨htm, hdf, hinv⟩
          cases hE : E i
          · -- quiet
            obtain ⟨k, hk, hkall⟩ := exists_k (E := E) (L := fun i => decide (i < ops.size) && listed.getD i false) (fun x y hxy hEx hEy hLy => by
              simp only [Bool.and_eq_true, decide_eq_true_eq] at hLy ⊢
              refine ⟨by omega, ?_⟩
              have := hO.chain y x hLy.1 (by omega) (by omega) hEy hEx
              rw [if_pos hxy] at this
              exact hc.pre y x hLy.2 this) ops.size
            have hσk : σF E X (fun i => listed.getD i false) (X 0).σ (List.range ops.size) = (X k).σ := by
              rw [hR.σ_eq k hk]
              refine σF_congr _ _ fun j hj hEj => ?_
              have hjs : j < ops.size := by simpa using hj
              have := hkall j hjs hEj
              simpa [hjs] using this
            have hq := hR.quiet i o ho hE hw k hk (fun j hjs hEj => by
              have hkj := hkall j hjs hEj
              simp only [hjs, decide_true, Bool.true_and] at hkj
              refine ⟨fun hp => ?_, fun hp => ?_⟩
              · have h2 := ready_pre hc ho hr hp
                have h2 : listed.getD j false = true := h2
                rw [h2] at hkj
                simpa using hkj.symm
              · have h2 : listed.getD j false = false := by
                  cases hLj : listed.getD j false
                  · rfl
                  · have h2 := hc.pre j i hLj hp
                    simp only [hLi] at h2
                    cases h2
                rw [h2] at hkj
                have := hkj.symm
                simp at this
                omega)
            rw [← hσk] at hq
            rw [← plainOp_congr hevs] at hq
            have hopA : OpA P ⟨tmF ops v (fun i => listed.getD i false) (X 0).tm (List.range ops.size), (X 0).df, σF E X (fun i => listed.getD i false) (X 0).σ (List.range ops.size)⟩ o (v i)
                ⟨tmF ops v (fun i => listed.getD i false) (X 0).tm (List.range ops.size), (X 0).df, σF E X (fun i => listed.getD i false) (X 0).σ (List.range ops.size)⟩ := .plain hq
            refine hopA.wp hInv fun G' a' w' hi' ev' => ?_
            exact next G' a' w' hi'.tm hi'.df (by rw [σN hE]; exact hi'.h) ev'
          · obtain ⟨s1, s2⟩ := σE hE
            have hopA := hop.other (y := ⟨tmF ops v (fun i => listed.getD i false) (X 0).tm (List.range ops.size), (X 0).df, σF E X (fun i => listed.getD i false) (X 0).σ (List.range ops.size)⟩) s1 (fun z hz => (hevs z hz).symm)
            refine hopA.wp hInv fun G' a' w' hi' ev' => ?_
            refine next G' a' w' hi'.tm hi'.df ?_ ev'
            rw [s2, hX]
            exact hi'.h
        · rw [if_neg (by rw [wantedA_eq htm _ _ (hwant.trans hw)]; decide)]
          have g1 := htm.putD o.dst (undef_rel G w)
          refine next G _ w (by rw [hv]; exact g1) ?_ ?_ (Evo.refl _ _)
          · have : (a.put o.dst undef).defers = a.defers := by cases o.dst <;> rfl
            rw [this]
            exact hdf
          · cases hE : E i
            · rw [σN hE]; exact hinv
            · obtain ⟨s1, s2⟩ := σE hE
              rw [s2, hX]
              rw [s1] at hinv
              exact hinv
  have hL0 : (fun i => (Array.replicate ops.size false).getD i false) = fun _ => false := by
    funext i
    simp [Array.getD]
  have e0 : Evo G0 w0 G0 { w0 with drawn := w0.drawn + 1 } := Evo.of_below (by
    have := (Below.refl w0.heap.size w0).drew
    exact this)
  have hi1 : Inv G0 (X 0) a0 { w0 with drawn := w0.drawn + 1 } := ⟨hi0.tm.evo e0, hi0.df.evo e0, hi0.h.of_below (by
    have := (Below.refl w0.heap.size w0).drew
    exact this)⟩
  refine main ops.size _ a0 _ (by simp) ?_ ?_ ⟨G0, ?_, hi1.df, ?_, e0⟩
  · have : ∀ i ∈ List.range ops.size, (!(Array.replicate ops.size false).getD i false) = true := by
      intro i _
      simp [Array.getD]
    rw [List.filter_eq_self.2 this, List.length_range]
  · rw [hL0]
    intro i o _ h
    cases h
  · rw [hL0]
    have : ∀ (l : List Nat) (tm : Fr), tmF ops v (fun _ => false) tm l = tm := by
      intro l
      induction l with
      | nil => intro tm; rfl
      | cons j l ih => intro tm; exact ih tm
    rw [this]
    exact hi1.tm
  · rw [hL0]
    have : ∀ (l : List Nat) (σ : Mem), σF E X (fun _ => false) σ l = σ := by
      intro l
      induction l with
      | nil => intro tm; rfl
      | cons j l ih => intro tm; exact ih tm
    rw [this]
    exact hi1.h

end
end Go.Proofs.Ytihbdelgoapeoaa.K
