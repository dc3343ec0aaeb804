/- Abstract values and what the machine makes of them: part B. -/
import Derived.Test.YtihbdelgoapeoaaKKA
import Derived.Laws.Tables
import Derived.IntWalk
import Derived.Laws.BytesArg
/- The operations of K5 are sound: cuts, literals, make. -/
namespace Go.Proofs.Ytihbdelgoapeoaa.K
open Go Go.RowKit
set_option linter.unusedSimpArgs false

section
variable {P : Program} {G : Gh} {σ : Mem} {w : World} {s : Fr} {a : Act} {o : Oper}

theorem sizeOK_all {l : List AV} {z size : Nat} (h : sizeOK z l = true) (hs : ∀ x ∈ l, x.cells.length = size) : ∀ x ∈ l, x.cells.length = z := by
  cases l with
  | nil => intro x hx; simp at hx
  | cons y l =>
    simp [sizeOK] at h
    have := hs y (by simp)
    intro x hx
    rw [hs x hx, ← this, h]

theorem cutM_rel {id off cap cap' lo hi z : Nat} {mx : Option Nat} {r : AV} {b : Nat} (hn : id < G.n) (hb : ∀ b', G.β id = some b' → b' = b) (hcap : cap ≤ cap') (hmx : mx = none → cap' = cap ∨ True) (h : cutM id off cap z lo hi mx = some r) :
    Rel G w r (.slice (some (if mx.getD cap' = lo then ⟨b, off, none⟩ else (⟨b, off, none⟩ : Addr).add (lo * z))) (hi - lo) (mx.getD cap' - lo)) := by
  unfold cutM at h
  split at h
  · rename_i hc
    obtain ⟨h1, h2, h3⟩ := hc
    have hle : mx.getD cap ≤ mx.getD cap' := by cases mx <;> simp [hcap]
    split at h
    · rename_i hlt
      cases h
      rw [if_neg (by omega), add_plain']
      exact .msl hn hb (by omega)
    · rename_i hlt
      cases h
      have h0 : hi - lo = 0 := by omega
      rw [h0]
      exact .sl 0 (fun _ => undef) rfl (by simp [maxLen]) (fun x hx => by simp at hx) (fun i hi => by simp at hi) (fun i x hx => by simp [flat] at hx) (fun h => by cases h) (by omega) (fun k hk => by cases hk)
  · cases h

theorem slice_ok (hi : InvH G σ w) (hs : RelF G w s a.tmps) {t : TypeId} {x : Operand} {lo hg mx : Option Operand} {r : AV} {σ' : Mem} (ho : o.op = .slice t x lo hg mx) (h : memOp P s σ o.op = some (r, σ')) : OpOK P G w a o r σ' := by
  rw [ho] at h
  simp only [memOp, Option.bind_eq_some_iff] at h
  obtain ⟨d, hd, h⟩ := h
  cases d <;> simp only [reduceCtorEq, Option.bind_eq_some_iff] at h
  case slice e =>
    obtain ⟨z, hz, v, hv, h⟩ := h
    have hr := ev_rel hs hv
    have hex : ∀ {u : Addr} {len cap l h m : Nat}, a.eval x = .slice (some u) len cap → (Instr.sliceBounds true len cap (lo.map a.eval) (hg.map a.eval) (mx.map a.eval)).run P w = .ok (l, h, m) w →
        (execOp a.eval o).run P w = .ok (.value (.slice (some (if m = l then u else u.add (l * z))) (h - l) (m - l))) w := by
      intro u len cap l h m he hb
      simp only [execOp, ho, Instr.sliceAt, Instr.slice, he, Sem.run_bind, run_underlying hd]
      simp [hb, run_size hz, Sem.run_bind, run_underlying hd]
      split <;> rfl
    generalize hea : a.eval x = ea at hr
    cases v <;> simp only [reduceCtorEq, Option.bind_eq_some_iff] at h
    case sl l tk =>
      obtain ⟨p, hp, q, hq, m, hm, h⟩ := h
      split at h
      · cases h
      rename_i hno
      simp only [Option.map_eq_some_iff, Prod.mk.injEq] at h
      obtain ⟨y, hy, rfl, rfl⟩ := h
      have hno1 : ¬ (m.isSome ∧ hg = none) := fun hh => hno (.inl hh)
      have hsz : sizeOK z l = true := by
        cases hq' : sizeOK z l with
        | true => rfl
        | false => exact absurd (.inr hq') hno
      have hc := hy
      unfold cutSl at hc
      split at hc
      · rename_i hc'
        obtain ⟨h1, h2, h3⟩ := hc'
        cases hr with
        | @sl _ _ b len cap size c hlen hmax hsize hrow hrel hfull hcap hlive =>
          have hall := sizeOK_all hsz hsize
          have hq2 : natB s len hg = some q := by rw [hlen]; exact hq
          have hb := run_sliceBounds (P := P) (w := w) (isSlice := true) (len := len) (cap := cap) hs hp hq2 hm hno1 h1 (by cases m with | none => simp at h2 ⊢; omega | some m => simpa using h2) (by cases m with | none => simp | some m => simp at h3 ⊢; omega)
          exact .still hi (hex hea hb) (cut_rel (.sl size c hlen hmax hsize hrow hrel hfull hcap hlive) hall hy)
      · cases hc
    case msl id off len cap =>
      obtain ⟨p, hp, q, hq, m, hm, h⟩ := h
      split at h
      · cases h
      rename_i hno
      simp only [Option.map_eq_some_iff, Prod.mk.injEq] at h
      obtain ⟨y, hy, rfl, rfl⟩ := h
      have hc := hy
      unfold cutM at hc
      split at hc
      · rename_i hc'
        obtain ⟨h1, h2, h3⟩ := hc'
        cases hr with
        | @msl _ _ _ _ cap' b hn hb hcap =>
          have hbd := run_sliceBounds (P := P) (w := w) (isSlice := true) (len := len) (cap := cap') hs hp hq hm hno h1 (by cases m with | none => simp at h2 ⊢; omega | some m => simpa using h2) (by cases m with | none => simp | some m => simp at h3 ⊢; omega)
          exact .still hi (hex hea hbd) (cutM_rel hn hb hcap (fun _ => .inr trivial) hy)
      · cases hc
  case array n e =>
    obtain ⟨z, hz, v, hv, h⟩ := h
    have hr := ev_rel hs hv
    have hex : ∀ {u : Addr} {l h m : Nat}, a.eval x = .pointer (some u) → (Instr.sliceBounds false n n (lo.map a.eval) (hg.map a.eval) (mx.map a.eval)).run P w = .ok (l, h, m) w →
        (execOp a.eval o).run P w = .ok (.value (.slice (some (if m = l then u else u.add (l * z))) (h - l) (m - l))) w := by
      intro u l h m he hb
      simp only [execOp, ho, Instr.sliceAt, Instr.sureAddr, he, Sem.run_bind, run_underlying hd]
      simp [hb, run_size hz, Sem.run_bind, run_underlying hd]
    generalize hea : a.eval x = ea at hr
    cases v <;> simp only [reduceCtorEq, Option.bind_eq_some_iff] at h
    case ptr id off =>
      obtain ⟨p, hp, q, hq, m, hm, h⟩ := h
      split at h
      · cases h
      rename_i hno
      simp only [Option.map_eq_some_iff, Prod.mk.injEq] at h
      obtain ⟨y, hy, rfl, rfl⟩ := h
      have hc := hy
      unfold cutM at hc
      split at hc
      · rename_i hc'
        obtain ⟨h1, h2, h3⟩ := hc'
        cases hr with
        | @ptr _ _ b hn hb =>
          have hbd := run_sliceBounds (P := P) (w := w) (isSlice := false) (len := n) (cap := n) hs hp hq hm hno h1 h2 h3
          exact .still hi (hex hea hbd) (cutM_rel hn hb (Nat.le_refl _) (fun _ => .inr trivial) hy)
      · cases hc

/-! ### Literals -/
theorem fill_eq {place : Nat → Option (Nat × Nat)} : ∀ {ps : List (Nat × AV)} {us : List (Nat × Value)} {cs : List AV} {c : Array Value} {r : List AV}, fillA place cs ps = some r →
    us.length = ps.length → (∀ (i : Nat) (p : Nat × AV), ps[i]? = some p → ∃ u, us[i]? = some (p.1, u) ∧ Rel G w p.2 u) → c.size = cs.length → (∀ i x, cs[i]? = some x → Rel G w x (c.getD i undef)) →
    ∃ c', Instr.fill place c us = some c' ∧ c'.size = r.length ∧ ∀ i x, r[i]? = some x → Rel G w x (c'.getD i undef) := by
  intro ps
  induction ps with
  | nil =>
    intro us cs c r h hl hu hs hr
    simp [fillA] at h
    subst h
    obtain rfl : us = [] := List.eq_nil_of_length_eq_zero hl
    exact ⟨c, rfl, hs, hr⟩
  | cons p ps ih =>
    intro us cs c r h hl hu hs hr
    cases us with
    | nil => simp at hl
    | cons u us =>
      obtain ⟨v, hv, hvr⟩ := hu 0 p (by simp)
      simp at hv
      subst hv
      obtain ⟨i, x⟩ := p
      simp only [fillA] at h
      split at h
      · cases h
      rename_i off size hpl
      split at h
      · rename_i hc
        obtain ⟨h1, h2⟩ := hc
        obtain ⟨hvs, hvc⟩ := hvr.cells
        simp only [Instr.fill, hpl]
        have hvsz : v.cells.size = size := by rw [hvs]; exact h1
        have hcs : off + size ≤ c.size := by rw [hs]; exact h2
        rw [if_neg (by simp [hvsz]; omega)]
        have fold : ∀ (xs : List Value) (k : Nat) (cc : Array Value), off + k + xs.length ≤ cc.size → ((xs.zipIdx k).foldl (fun cs (q : Value × Nat) => cs.setIfInBounds (off + q.2) q.1) cc).size = cc.size ∧
            ∀ j, ((xs.zipIdx k).foldl (fun cs (q : Value × Nat) => cs.setIfInBounds (off + q.2) q.1) cc).getD j undef = if off + k ≤ j ∧ j < off + k + xs.length then xs.getD (j - (off + k)) undef else cc.getD j undef := by
          intro xs
          induction xs with
          | nil => intro k cc _; exact ⟨rfl, fun j => by rw [if_neg (fun h => absurd h.1 (by have := h.2; simp at this; omega))]; rfl⟩
          | cons y xs ih2 =>
            intro k cc hle
            simp only [List.length_cons] at hle
            simp only [List.zipIdx_cons, List.foldl_cons]
            obtain ⟨g1, g2⟩ := ih2 (k + 1) (cc.setIfInBounds (off + k) y) (by rw [Array.size_setIfInBounds]; omega)
            refine ⟨by rw [g1, Array.size_setIfInBounds], fun j => ?_⟩
            rw [g2 j]
            simp only [List.length_cons]
            by_cases hj : j = off + k
            · subst hj
              rw [if_neg (by omega), if_pos (by omega)]
              simp [Array.getD, show off + k < cc.size by omega]
            · by_cases hj2 : off + (k + 1) ≤ j ∧ j < off + (k + 1) + xs.length
              · rw [if_pos hj2, if_pos (by omega)]
                have : j - (off + k) = (j - (off + (k + 1))) + 1 := by omega
                rw [this]
                rfl
              · rw [if_neg hj2, if_neg (by omega)]
                simp only [Array.getD_eq_getD_getElem?]
                rw [Array.getElem?_setIfInBounds_ne (Ne.symm hj)]
        obtain ⟨f1, f2⟩ := fold v.cells.toList 0 c (by simp only [Array.length_toList, hvsz]; omega)
        have e0 : v.cells.zipIdx.foldl (fun cs (x : Value × Nat) => cs.setIfInBounds (off + x.2) x.1) c = (v.cells.toList.zipIdx 0).foldl (fun cs (q : Value × Nat) => cs.setIfInBounds (off + q.2) q.1) c := by
          rw [← Array.foldl_toList, Array.toList_zipIdx]
        have hput : (putA cs off x.cells).length = cs.length := by simp [putA]; omega
        obtain ⟨c', g1, g2, g3⟩ := ih (us := us) (cs := putA cs off x.cells) (c := (v.cells.toList.zipIdx 0).foldl (fun cs (q : Value × Nat) => cs.setIfInBounds (off + q.2) q.1) c) (r := r) h (by simpa using hl)
          (fun j q hq => by have := hu (j + 1) q (by simpa using hq); simpa using this) (by rw [f1, hput, hs]) (fun j y hy => by
            rw [f2 j]
            simp only [Nat.add_zero, Array.length_toList, hvsz]
            simp only [putA] at hy
            by_cases hin : off ≤ j ∧ j < off + size
            · rw [if_pos hin]
              have : x.cells[j - off]? = some y := by
                rw [List.getElem?_append_left (by simp; omega), List.getElem?_append_right (by simp; omega)] at hy
                simpa [show min off cs.length = off by omega] using hy
              have := hvc (j - off) y this
              simpa [Array.getD_eq_getD_getElem?, List.getD] using this
            · rw [if_neg hin]
              refine hr j y ?_
              by_cases hlo : j < off
              · rw [List.getElem?_append_left (by simp; omega), List.getElem?_append_left (by simp; omega), List.getElem?_take] at hy
                simpa [hlo] using hy
              · rw [List.getElem?_append_right (by simp; omega), List.getElem?_drop] at hy
                simp only [List.length_append, List.length_take, show min off cs.length = off by omega] at hy
                rw [show off + x.cells.length + (j - (off + x.cells.length)) = j by omega] at hy
                exact hy)
        exact ⟨c', by rw [e0]; exact g1, g2, g3⟩
      · cases h

end
end Go.Proofs.Ytihbdelgoapeoaa.K
/- The operations of K5 are sound: literals, make. -/
namespace Go.Proofs.Ytihbdelgoapeoaa.K
open Go Go.RowKit
set_option linter.unusedSimpArgs false

section
variable {P : Program} {G : Gh} {σ : Mem} {w : World} {s : Fr} {a : Act} {o : Oper}

theorem fill_congr {p q : Nat → Option (Nat × Nat)} (h : ∀ i, p i = q i) (c : Array Value) (l : List (Nat × Value)) : Instr.fill p c l = Instr.fill q c l := by rw [funext h]

theorem placesA_built {t : TypeId} {pl : Nat → Option (Nat × Nat)} {it : TypeInfo} {z : Value} (h : placesA P t = some pl) (hit : P.info? t = some it) (hz : it.zero = some z) (l : List (Nat × Value)) : P.built t l = Instr.fill pl z.cells l := by
  unfold placesA at h
  unfold Program.built
  cases hu : P.underlying t with
  | none => simp [hu] at h
  | some d =>
    cases d <;> simp only [hu, reduceCtorEq] at h
    case array n e =>
      simp only [Option.map_eq_some_iff] at h
      obtain ⟨m, hm, rfl⟩ := h
      simp only [sizeA, Option.map_eq_some_iff] at hm
      obtain ⟨ie, hie, rfl⟩ := hm
      simp [hit, hz, hie]
    case struct fs =>
      simp only [Option.map_eq_some_iff] at h
      obtain ⟨pl', hpl, rfl⟩ := h
      have e : fs.toList.mapM (fun f => (P.info? f.type).map fun i => (f.offset, i.size)) = some pl' := by
        rw [← hpl]
        congr 1
        funext f
        simp [sizeA, Option.map_map, Function.comp_def]
      simp only [hit, hz, e]
      exact fill_congr (fun i => by simp) _ _

theorem parts_rel (hs : RelF G w s a.tmps) {parts : Array (Nat × Operand)} {ps : List (Nat × AV)} (h : parts.toList.mapM (fun (q : Nat × Operand) => (ev s q.2).map fun v => (q.1, v)) = some ps) :
    (parts.map fun (i, x) => (i, a.eval x)).toList.length = ps.length ∧ ∀ (i : Nat) (p : Nat × AV), ps[i]? = some p → ∃ u, (parts.map fun (i, x) => (i, a.eval x)).toList[i]? = some (p.1, u) ∧ Rel G w p.2 u := by
  obtain ⟨h1, h2⟩ := mapM_get h
  refine ⟨by simp [h1], fun i p hp => ?_⟩
  obtain ⟨q, hq, hv⟩ := h2 i p hp
  simp only [Option.map_eq_some_iff] at hv
  obtain ⟨v, hv, rfl⟩ := hv
  refine ⟨a.eval q.2, ?_, ev_rel hs hv⟩
  rw [Array.toList_map, List.getElem?_map, hq]
  rfl

theorem build_ok (hi : InvH G σ w) (hs : RelF G w s a.tmps) {t : TypeId} {parts : Array (Nat × Operand)} {r : AV} {σ' : Mem} (ho : o.op = .build t parts) (h : memOp P s σ o.op = some (r, σ')) : OpOK P G w a o r σ' := by
  rw [ho] at h
  simp only [memOp, Option.bind_eq_some_iff, Option.map_eq_some_iff, Prod.mk.injEq] at h
  obtain ⟨zv, hz, pl, hpl, ps, hps, cs, hcs, rfl, rfl⟩ := h
  simp only [zeroA, Option.bind_eq_some_iff] at hz
  obtain ⟨z, ⟨it, hit, hz⟩, hzv⟩ := hz
  obtain ⟨hz1, hz2⟩ := (ofConst_rel hzv G w).cells
  obtain ⟨p1, p2⟩ := parts_rel hs hps
  obtain ⟨c', f1, f2, f3⟩ := fill_eq (w := w) hcs p1 p2 hz1 hz2
  refine .still hi (v := .agg c') ?_ (.agg f2 f3)
  have := run_build (P := P) w t (parts.map fun (i, x) => (i, a.eval x)) c' (by rw [placesA_built hpl hit hz]; exact f1)
  simp only [execOp, ho]
  simp [this]

theorem fillA_seq {z : Nat} : ∀ {vs : List AV} {k : Nat} {cs : List AV}, (∀ v ∈ vs, v.cells.length = z) → cs.length = (k + vs.length) * z →
    fillA (fun i => some (i * z, z)) cs ((List.range' k vs.length).zip vs) = some (cs.take (k * z) ++ flat vs) := by
  intro vs
  induction vs with
  | nil => intro k cs _ hl; simp [fillA, flat] at hl ⊢; rw [List.take_of_length_le (by omega)]
  | cons v vs ih =>
    intro k cs hz hl
    simp only [List.length_cons] at hl
    have hv := hz v (by simp)
    simp only [List.length_cons, List.range'_succ, List.zip_cons_cons, fillA]
    have e1 : (k + (vs.length + 1)) * z = k * z + z + vs.length * z := by rw [Nat.add_mul, Nat.succ_mul]; omega
    rw [if_pos ⟨hv, by omega⟩]
    have hput : (putA cs (k * z) v.cells).length = (k + 1 + vs.length) * z := by
      have : (k + 1 + vs.length) * z = k * z + z + vs.length * z := by rw [Nat.add_mul, Nat.succ_mul]
      simp [putA]; omega
    rw [ih (fun x hx => hz x (by simp [hx])) hput]
    congr 1
    have e2 : (k + 1) * z = k * z + v.cells.length := by rw [Nat.succ_mul, hv]
    have e3 : (putA cs (k * z) v.cells).take ((k + 1) * z) = cs.take (k * z) ++ v.cells := by
      rw [e2]
      unfold putA
      have e4 : (cs.take (k * z) ++ v.cells).length = k * z + v.cells.length := by simp; omega
      rw [← e4, List.take_left]
    rw [e3]
    simp [flat]

theorem InvH.new_sealed (hi : InvH G σ w) (b o : Nat) (hb : w.heap.size ≤ b) : G.sealed b o :=
  ⟨fun id h e => by have := hi.lt_of_cells h e; omega, fun t i h hti hib => by have := hi.lt_of_tok h hti; omega⟩

theorem cell_row {b i : Nat} {c : Array Value} {e : TypeId} {fr : Nat × Nat} (h : w.heap[b]? = some (.cells c e fr)) (hi : i < c.size) : w.cell? ⟨b, i, none⟩ = some (c.getD i undef) := by
  unfold World.cell?
  rw [h]
  simp [Array.getD, hi]

/-- A new row that stays. -/
theorem new_row (hi : InvH G σ w) {c : Array Value} {e : TypeId} {vs : List AV} {z : Nat} (hz : ∀ v ∈ vs, v.cells.length = z) (hc : c.size = (flat vs).length) (hr : ∀ i x, (flat vs)[i]? = some x → Rel G w x (c.getD i undef)) (hmax : vs.length ≤ maxLen) :
    InvH G σ (w.alloc (.cells c e)) ∧ Evo G w G (w.alloc (.cells c e)) ∧ Rel G (w.alloc (.cells c e)) (.sl vs .full) (.slice (some ⟨w.heap.size, 0, none⟩) vs.length vs.length) := by
  have hb : Below w.heap.size w (w.alloc (.cells c e)) := (Below.refl _ _).alloc (Nat.le_refl _) _
  refine ⟨hi.of_below hb, Evo.of_below hb, .sl z (fun i => c.getD i undef) rfl hmax hz ?_ (fun i x hx => (hr i x hx).evo (Evo.of_below hb)) (fun _ => rfl) (Nat.le_refl _) (fun k hk => by cases hk)⟩
  intro i hil
  rw [← flat_length hz] at hil
  refine ⟨?_, hi.new_sealed _ _ (Nat.le_refl _)⟩
  rw [add_plain', Nat.zero_add]
  exact cell_row (heap_alloc_new w (.cells c e)) (by omega)

theorem buildSlice_ok (hi : InvH G σ w) (hs : RelF G w s a.tmps) {t : TypeId} {len : Nat} {parts : Array (Nat × Operand)} {r : AV} {σ' : Mem} (ho : o.op = .buildSlice t len parts) (h : memOp P s σ o.op = some (r, σ')) : OpOK P G w a o r σ' := by
  rw [ho] at h
  simp only [memOp, Option.bind_eq_some_iff] at h
  obtain ⟨d, hd, h⟩ := h
  cases d <;> simp only [reduceCtorEq, Option.bind_eq_some_iff] at h
  case slice e =>
    obtain ⟨z, hz, zv, hzv, vs, hvs, h⟩ := h
    split at h
    · rename_i hc
      obtain ⟨c1, c2, c3, c4, c5⟩ := hc
      cases h
      have hall : ∀ v ∈ vs, v.cells.length = z := fun v hv => by simpa using (List.all_eq_true.1 c5) v hv
      obtain ⟨m1, m2⟩ := mapM_get hvs
      have hlen : vs.length = len := by
        have := congrArg List.length c1
        simp at this m1
        omega
      simp only [zeroA, Option.bind_eq_some_iff] at hzv
      obtain ⟨zz, ⟨it, hit, hzz⟩, hzz2⟩ := hzv
      obtain ⟨hz1, hz2⟩ := (ofConst_rel hzz2 G w).cells
      have hsize : it.size = z := by simp [sizeA, hit] at hz; exact hz
      have hzsz : zz.cells.size = z := by rw [hz1]; exact c3
      have f0 := fillA_seq (z := z) (vs := vs) (k := 0) (cs := (List.range (len * z)).map fun i => zv.cells.getD (i % z) default) hall (by simp [hlen])
      obtain ⟨c', f1, f2, f3⟩ := fill_eq (w := w) (G := G) (us := (parts.map fun (i, x) => (i, a.eval x)).toList) (c := (Array.range (len * z)).map (zz.cells[· % zz.cells.size]!)) f0 (by simp [hlen] at m1 ⊢; omega)
        (fun i p hp => by
          have hil := (List.getElem?_eq_some_iff.1 hp).1
          simp at hil
          have hp' : p = (i, vs[i]) := by
            have := (List.getElem?_eq_some_iff.1 hp).2
            simp at this
            exact this.symm
          subst hp'
          obtain ⟨x, hx, he⟩ := m2 i vs[i] (by simp [hil])
          refine ⟨a.eval x, ?_, ev_rel hs he⟩
          rw [List.getElem?_map] at hx
          simp only [Option.map_eq_some_iff] at hx
          obtain ⟨q, hq, hq2⟩ := hx
          have hq1 : q.1 = i := by
            have e1 : (parts.toList.map (·.1))[i]? = some q.1 := by rw [List.getElem?_map, hq]; rfl
            rw [c1] at e1
            have e2 := (List.getElem?_eq_some_iff.1 e1).2
            rw [List.getElem_range] at e2
            exact e2.symm
          rw [Array.toList_map, List.getElem?_map, hq]
          simp [hq1, hq2])
        (by simp) (fun i x hx => by
          rw [List.getElem?_map] at hx
          simp only [Option.map_eq_some_iff] at hx
          obtain ⟨j, hj, rfl⟩ := hx
          have hj2 : i < len * z ∧ j = i := by
            have e1 := (List.getElem?_eq_some_iff.1 hj).1
            have e2 := (List.getElem?_eq_some_iff.1 hj).2
            rw [List.getElem_range] at e2
            exact ⟨by simpa using e1, e2.symm⟩
          obtain ⟨hil, rfl⟩ := hj2
          have hjz : j % z < z := Nat.mod_lt _ (by omega)
          have := hz2 (j % z) (zv.cells.getD (j % z) default) (by simp [List.getD, c3, hjz])
          simpa [Array.getD, hil, hzsz, hjz] using this)
      simp only [Nat.zero_mul, List.take_zero, List.nil_append] at f2 f3
      by_cases hl0 : len = 0
      · subst hl0
        have hv0 : vs = [] := List.eq_nil_of_length_eq_zero hlen
        subst hv0
        have hp0 : parts = #[] := by
          have : parts.toList = [] := by simpa using c1
          simpa using this
        obtain ⟨g1, g2, g3⟩ := new_row (e := e) (c := #[]) (vs := []) (z := z) hi (fun v hv => by simp at hv) rfl (fun i x hx => by simp [flat] at hx) (by simp [maxLen])
        refine ⟨G, _, _, _, ?_, .inl rfl, g1, g2, g3⟩
        simp only [execOp, ho, hp0]
        have e1 : ∀ f : Nat → Value, (Array.range 0).map f = #[] := fun f => Array.ext (by simp) (by intro i h1; simp at h1)
        simp [Instr.buildSlice, run_underlying hd, run_size hz, newRow, Instr.fill, e1]
      · have hpos : ¬ len * z = 0 := by
          intro h0
          rcases Nat.mul_eq_zero.1 h0 with h | h <;> omega
        obtain ⟨g1, g2, g3⟩ := new_row (e := e) (c := c') (vs := vs) (z := z) hi hall f2 f3 (by
          have : len ≤ len * z := Nat.le_mul_of_pos_right _ (by omega)
          simp only [maxLen]; omega)
        rw [hlen] at g3
        refine ⟨G, _, _, _, ?_, .inl rfl, g1, g2, g3⟩
        have hsmall : ¬ len * z > 2 ^ 24 := by omega
        have hrun : (Instr.buildSlice t len (parts.map fun (i, x) => (i, a.eval x))).run P w = .ok (.slice (some ⟨w.heap.size, 0, none⟩) len len) (w.alloc (.cells c' e)) := by
          unfold Instr.buildSlice
          simp only [Sem.run_bind, run_underlying hd, run_size hz, Result.andThen_ok]
          rw [if_neg hsmall, if_neg hpos]
          have hzrun : (zeroValue e).run P w = .ok zz w := by simp [zeroValue, typeInfo, hit, hzz]
          simp only [Array.toList_map] at f1
          simp [hzrun, f1, newRow]
        simp only [execOp, ho]
        simp [hrun]
    · cases h

theorem flat_rep {zv : AV} {z : Nat} (hz : zv.cells.length = z) : ∀ (N i : Nat) (x : AV), (flat (List.replicate N zv))[i]? = some x → i < N * z ∧ zv.cells[i % z]? = some x
  | 0, i, x, h => by simp [flat] at h
  | N + 1, i, x, h => by
    have e : flat (List.replicate (N + 1) zv) = zv.cells ++ flat (List.replicate N zv) := by simp [flat, List.replicate_succ]
    rw [e] at h
    by_cases hi : i < z
    · rw [List.getElem?_append_left (by omega)] at h
      rw [Nat.mod_eq_of_lt hi]
      exact ⟨Nat.lt_of_lt_of_le hi (Nat.le_mul_of_pos_left _ (by omega)), h⟩
    · rw [List.getElem?_append_right (by omega), hz] at h
      obtain ⟨h1, h2⟩ := flat_rep hz N (i - z) x h
      rw [Nat.mod_eq_sub_mod (by omega)]
      exact ⟨by rw [Nat.add_mul, Nat.one_mul]; omega, h2⟩
theorem makeSlice_ok (hi : InvH G σ w) (hs : RelF G w s a.tmps) {t : TypeId} {l c : Operand} {r : AV} {σ' : Mem} (ho : o.op = .makeSlice t l c) (h : memOp P s σ o.op = some (r, σ')) : OpOK P G w a o r σ' := by
  rw [ho] at h
  simp only [memOp, Option.bind_eq_some_iff] at h
  obtain ⟨d, hd, h⟩ := h
  cases d <;> simp only [reduceCtorEq, Option.bind_eq_some_iff] at h
  case slice e =>
    obtain ⟨it, hit, zv, hzv, lv, hlv, h⟩ := h
    have hlr := ev_rel hs hlv
    generalize hel : a.eval l = el at hlr
    cases lv <;> (try simp only [reduceCtorEq] at h)
    rename_i k n
    cases k <;> simp only [reduceCtorEq, Option.bind_eq_some_iff] at h
    obtain ⟨cv, hcv, h⟩ := h
    have hcr := ev_rel hs hcv
    generalize hec : a.eval c = ec at hcr
    cases cv <;> (try simp only [reduceCtorEq] at h)
    rename_i k m
    cases k <;> simp only [reduceCtorEq] at h
    split at h
    · rename_i hcond
      obtain ⟨rfl, h0, hb, hm, hone, hsz⟩ := hcond
      cases h
      cases hlr
      cases hcr
      simp only [zeroA, Option.bind_eq_some_iff] at hzv
      obtain ⟨zz, ⟨it', hit', hzz⟩, hzz2⟩ := hzv
      rw [hit] at hit'
      cases hit'
      have hrz := ofConst_rel hzz2 G w
      have hcells : zz.cells = #[zz] := by
        have := hrz.one hone
        cases zz <;> first | rfl | simp [Value.oneCell'] at this
      obtain ⟨N, rfl⟩ := Int.eq_ofNat_of_zero_le h0
      have hN : (Array.range N).map (#[zz][· % 1]!) = Array.replicate N zz := by
        apply Array.ext
        · simp
        · intro i h1 h2
          simp [Nat.mod_one]
      have hnew := New.ofCells (w := w) (G := G) (e := e) (c := Array.replicate N zz) (cs := List.replicate N zv) (by simp) (fun i x hx => by
        have hil := (List.getElem?_eq_some_iff.1 hx).1
        simp at hil
        have : x = zv := by
          have := (List.getElem?_eq_some_iff.1 hx).2
          simpa using this.symm
        subst this
        simpa [Array.getD, hil] using hrz)
      refine new_ok hi hnew (v := .slice (some ⟨w.heap.size, 0, none⟩) N N) ?_ ?_
      · have hw : IntKind.i64.wrap (N : Int) = N := IntWalk.i64_in _ (by omega)
        have hb1 : (it.bytes : Int) * (N : Int) ≤ 281474976710656 := by rw [Int.mul_comm]; exact hb
        have e1 : ¬ ((it.bytes : Int) * (N : Int) > 2 ^ 48) := by
          have : (2 : Int) ^ 48 = 281474976710656 := by decide
          omega
        simp only [execOp, ho, hel, hec]
        simp only [Instr.makeSlice, asInt, asIntOf]
        have hzrun : (zeroValue e).run P w = .ok zz w := by simp [zeroValue, typeInfo, hit, hzz]
        have htl : ¬ (((N : Int) < 0 ∨ 281474976710656 < (it.bytes : Int) * (N : Int)) ∨ (N : Int) < 0) := by omega
        have hask : (askRoom (N * it.bytes)).run P w = .ok () w := by
          unfold askRoom
          split <;> rfl
        by_cases hN0 : N = 0
        · subst hN0
          have e2 : ∀ f : Nat → Value, (Array.range 0).map f = #[] := fun f => Array.ext (by simp) (by intro i h1; simp at h1)
          have e3 : (Array.replicate 0 zz) = #[] := by simp
          simp at hask hw htl
          simp [run_underlying hd, typeInfo, hit, hw, hzrun, hcells, sizeOf, hsz, newRow, hask, e2, e3]
        · simp at hN
          simp [run_underlying hd, typeInfo, hit, hw, hzrun, hcells, sizeOf, hsz, newRow, hN, hask, htl, hN0]
      · simp only [Int.toNat_natCast]
        refine .msl (by show σ.length < G.n + 1; rw [hi.n]; omega) (by show ∀ b', (if σ.length = G.n then some w.heap.size else G.β σ.length) = some b' → b' = w.heap.size; rw [if_pos hi.n.symm]; intro b' h; cases h; rfl) (Nat.le_refl _)
    · split at h
      · rename_i hcond
        obtain ⟨rfl, h0, hb, hm, hzl, hgt⟩ := hcond
        cases h
        cases hlr
        cases hcr
        simp only [zeroA, Option.bind_eq_some_iff] at hzv
        obtain ⟨zz, ⟨it', hit', hzz⟩, hzz2⟩ := hzv
        rw [hit] at hit'
        cases hit'
        obtain ⟨hz1, hz2⟩ := (ofConst_rel hzz2 G w).cells
        obtain ⟨N, rfl⟩ := Int.eq_ofNat_of_zero_le h0
        have hzsz : zz.cells.size = it.size := by rw [hz1]; exact hzl
        have hw : IntKind.i64.wrap (N : Int) = N := IntWalk.i64_in _ (by omega)
        have hb1 : (it.bytes : Int) * (N : Int) ≤ 281474976710656 := by rw [Int.mul_comm]; exact hb
        have hzrun : (zeroValue e).run P w = .ok zz w := by simp [zeroValue, typeInfo, hit, hzz]
        have htl : ¬ (((N : Int) < 0 ∨ 281474976710656 < (it.bytes : Int) * (N : Int)) ∨ (N : Int) < 0) := by omega
        have hask : (askRoom (N * it.bytes)).run P w = .ok () w := by
          unfold askRoom
          split <;> rfl
        simp only [Int.toNat_natCast]
        by_cases hN0 : N = 0
        · subst hN0
          obtain ⟨g1, g2, g3⟩ := new_row (e := e) (c := #[]) (vs := []) (z := it.size) hi (fun v hv => by simp at hv) rfl (fun i x hx => by simp [flat] at hx) (by simp [maxLen])
          refine ⟨G, _, _, _, ?_, .inl rfl, g1, g2, g3⟩
          simp only [execOp, ho, hel, hec]
          simp only [Instr.makeSlice, asInt, asIntOf]
          have e2 : ∀ f : Nat → Value, (Array.range 0).map f = #[] := fun f => Array.ext (by simp) (by intro i h1; simp at h1)
          simp at hask hw htl
          simp [run_underlying hd, typeInfo, hit, hw, hzrun, sizeOf, newRow, hask, e2]
        · obtain ⟨g1, g2, g3⟩ := new_row (e := e) (c := (Array.range (N * it.size)).map (zz.cells[· % zz.cells.size]!)) (vs := List.replicate N zv) (z := it.size) hi (fun v hv => by rw [(List.mem_replicate.1 hv).2]; exact hzl)
            (by
              have : (flat (List.replicate N zv)).length = N * it.size := by rw [flat_length (size := it.size) (fun v hv => by rw [(List.mem_replicate.1 hv).2]; exact hzl)]; simp
              rw [this]; simp)
            (fun i x hx => by
              obtain ⟨h1, h2⟩ := flat_rep hzl N i x hx
              have h3 := hz2 _ _ h2
              have hjz : i % it.size < it.size := Nat.mod_lt _ (by omega)
              simpa [Array.getD, h1, hzsz, hjz] using h3)
            (by simp only [List.length_replicate, maxLen]; omega)
          rw [List.length_replicate] at g3
          refine ⟨G, _, _, _, ?_, .inl rfl, g1, g2, g3⟩
          simp only [execOp, ho, hel, hec]
          simp only [Instr.makeSlice, asInt, asIntOf]
          have hNs : ¬ N * it.size = 0 := by
            intro h0
            rcases Nat.mul_eq_zero.1 h0 with h | h <;> omega
          simp [run_underlying hd, typeInfo, hit, hw, hzrun, sizeOf, newRow, hask, htl, hN0, hNs]
          all_goals omega
      · cases h

end
end Go.Proofs.Ytihbdelgoapeoaa.K
/- append: what is abstract of it, and that the machine's is so, whatever room the machine gives. -/
namespace Go.Proofs.Ytihbdelgoapeoaa.K
open Go Go.RowKit
set_option linter.unusedSimpArgs false

/-- A text's bytes, as elements. -/
def strElems (s : ByteArray) : List AV := s.data.toList.map fun b => .int .u8 b.toNat

/-- What is appended. -/
def srcA : AV → Option (List AV)
  | .nils => some []
  | .sl l _ => some l
  | .str s => some (strElems s)
  | _ => none

def appendA (P : Program) (σ : Mem) (t u : TypeId) (x y : AV) : Option (AV × Mem) :=
  (P.underlying t).bind fun
  | .slice e => (P.underlying u).bind fun d => (match d with | .slice _ | .string => some () | _ => none).bind fun _ => (P.info? e).bind fun i => (zeroA P e).bind fun z => (srcA y).bind fun ys =>
    if sizeOK i.size ys = true ∧ 0 < i.size ∧ z.cells.length = i.size ∧ (ys.all fun v => v.cells.all AV.one) = true then
      match x with
      | .nils => if ys.isEmpty then some (.nils, σ) else if ys.length * i.bytes ≤ 140737488355328 ∧ ys.length ≤ 9223372036854775807 then some (.sl ys (.live σ.length), σ ++ [AO.tok true]) else none
      | .sl l tk =>
        if ys.isEmpty then some (.sl l tk, σ)
        else if sizeOK i.size l = true ∧ (l.length + ys.length) * i.bytes ≤ 140737488355328 ∧ l.length + ys.length ≤ 9223372036854775807 then
          match tk with
          | .full => some (.sl (l ++ ys) (.live σ.length), σ ++ [AO.tok true])
          | .live k => if l.isEmpty then none else match σ[k]? with
            | some (AO.tok true) => some (.sl (l ++ ys) (.live σ.length), σ.set k (AO.tok false) ++ [AO.tok true])
            | _ => none
          | .dead => none
        else none
      | _ => none
    else none
  | _ => none

section
variable {P : Program} {G : Gh} {σ : Mem} {w : World} {s : Fr} {a : Act} {o : Oper}

/-- The source of an append, as the machine reads it. -/
structure Src (P : Program) (w : World) (y : Value) (m size : Nat) (news : List Value) : Prop where
  len : (Builtin.lenOf y).run P w = .ok m w
  cells : (Builtin.firstCells size m y).run P w = .ok news.toArray w
  cells' : (Builtin.firstCells size m y).run P w.drew = .ok news.toArray w.drew
  count : news.length = m * size

theorem flat_nil_iff {l : List AV} {z : Nat} (hz : ∀ x ∈ l, x.cells.length = z) (h0 : 0 < z) : flat l = [] ↔ l = [] := by
  constructor
  · intro h
    have := flat_length hz
    rw [h] at this
    cases l with
    | nil => rfl
    | cons x l =>
      simp only [List.length_nil, List.length_cons, Nat.succ_mul] at this
      omega
  · rintro rfl; rfl

theorem strElems_size (t : ByteArray) : ∀ x ∈ strElems t, x.cells.length = 1 := by
  intro x hx
  simp only [strElems, List.mem_map] at hx
  obtain ⟨b, _, rfl⟩ := hx
  rfl

theorem flat_one {l : List AV} (h : ∀ x ∈ l, x.cells = [x]) : flat l = l := by
  induction l with
  | nil => rfl
  | cons x l ih =>
    simp only [flat, List.flatMap_cons] at ih ⊢
    rw [h x (by simp), ih (fun y hy => h y (by simp [hy]))]
    rfl

/-- What an abstract source is of the machine. -/
theorem src_rel {y : AV} {v : Value} {ys : List AV} {z : Nat} (hr : Rel G w y v) (h : srcA y = some ys) (hsz : sizeOK z ys = true) :
    (∀ x ∈ ys, x.cells.length = z) ∧ ∃ news, Src P w v ys.length z news ∧ (∀ i x, (flat ys)[i]? = some x → Rel G w x (news.getD i undef)) := by
  cases y <;> simp only [srcA, reduceCtorEq, Option.some.injEq] at h
  case nils =>
    subst h
    cases hr
    exact ⟨fun x hx => by simp at hx, [], ⟨rfl, by simp [Builtin.firstCells], by simp [Builtin.firstCells], by simp⟩, fun i x hx => by simp [flat] at hx⟩
  case sl l t =>
    subst h
    cases hr with
    | @sl _ _ b len cap size c hlen hmax hsize hrow hrel hfull hcap hlive =>
      have hall := sizeOK_all hsz hsize
      refine ⟨hall, (List.range (l.length * z)).map c, ⟨?_, ?_, ?_, by simp⟩, fun i x hx => ?_⟩
      · simp [Builtin.lenOf, hlen]
      · have := run_loadCells (P := P) (w := w) b (l.length * z) c (fun j hj => (hrow j (by
          rcases Nat.eq_zero_or_pos l.length with h0 | h0
          · rw [h0] at hj; simp at hj
          · have hm : l[0] ∈ l := by simp
            rw [← hsize _ hm, hall _ hm, hlen]; exact hj)).1)
        simpa [Builtin.firstCells] using this
      · have := run_loadCells (P := P) (w := w.drew) b (l.length * z) c (fun j hj => (hrow j (by
          rcases Nat.eq_zero_or_pos l.length with h0 | h0
          · rw [h0] at hj; simp at hj
          · have hm : l[0] ∈ l := by simp
            rw [← hsize _ hm, hall _ hm, hlen]; exact hj)).1)
        simpa [Builtin.firstCells] using this
      · have hil := (List.getElem?_eq_some_iff.1 hx).1
        rw [flat_length hall] at hil
        have := hrel i x hx
        simpa [List.getD, hil] using this
  case str t =>
    subst h
    cases hr
    have hall : ∀ x ∈ strElems t, x.cells.length = z := sizeOK_all hsz (strElems_size t)
    have hcells : ∀ x ∈ strElems t, x.cells = [x] := by
      intro x hx
      simp only [strElems, List.mem_map] at hx
      obtain ⟨b, _, rfl⟩ := hx
      rfl
    have hlen : (strElems t).length = t.size := by simp [strElems]
    have hmap : t.data.map (fun b : UInt8 => Value.int .u8 (b.toNat : Int)) = (t.data.toList.map (fun b : UInt8 => Value.int .u8 (b.toNat : Int))).toArray := by
      apply Array.ext'
      simp
    refine ⟨hall, t.data.toList.map (fun b => Value.int .u8 b.toNat), ⟨?_, ?_, ?_, ?_⟩, fun i x hx => ?_⟩
    · simp [Builtin.lenOf, hlen]
    · rw [hlen]
      simp [Builtin.firstCells, hmap]
    · rw [hlen]
      simp [Builtin.firstCells, hmap]
    · rcases Nat.eq_zero_or_pos t.size with h0 | h0
      · have : t.data.size = 0 := h0
        simp [hlen, h0, this]
      · have hm : (strElems t)[0]'(by omega) ∈ strElems t := by simp
        have h1 := hall _ hm
        rw [hcells _ hm] at h1
        simp at h1
        rw [← h1, hlen]
        simp
    · rw [flat_one hcells] at hx
      simp only [strElems, List.getElem?_map, Option.map_eq_some_iff] at hx
      obtain ⟨b, hb, rfl⟩ := hx
      have : ((t.data.toList.map (fun b => Value.int .u8 b.toNat)).getD i undef) = .int .u8 b.toNat := by simp [List.getD, hb]
      rw [this]
      exact .int _ _

theorem run_append_nilG {t u ty e : TypeId} {i : TypeInfo} {z : Value} {d : TypeDesc} (ht : P.underlying t = some (.slice e)) (hu : P.underlying u = some d) (hd : (∃ e2, d = .slice e2) ∨ d = .string) (hi : P.info? e = some i) (hz : i.zero = some z)
    {y : Value} {m : Nat} {news : List Value} (S : Src P w y m i.size news) (h0 : 0 < m) (h63 : m ≤ 9223372036854775807) (h48 : m * i.bytes ≤ 140737488355328) :
    (Builtin.append_ #[t, u] ty #[.slice none 0 0, y]).run P w =
      .ok (.slice (some ⟨w.heap.size, 0, none⟩) m (grownCap w m 0 e)) (w.drew.alloc (.cells (news.toArray ++ Builtin.zeroCells z.cells (grownCap w m 0 e - m)) e)) := by
  have hn : m ≠ 0 := by omega
  have h63' : ¬ (9223372036854775807 < (m : Int)) := by omega
  have h48' : ¬ (281474976710656 < Builtin.nextslicecap m 0 * i.bytes) := by rw [nextslicecap_zero h0]; omega
  rcases hd with ⟨e2, rfl⟩ | rfl <;>
    simp [Builtin.append_, run_underlying ht, run_underlying hu, sizeOf, typeInfo, zeroValue, hi, hz, S.len, S.cells', hn, h63', h48', Question.forced, run_firstCells_none, newRow, grownCap]

theorem run_append_growG {t u ty e : TypeId} {i : TypeInfo} {z : Value} {d : TypeDesc} (ht : P.underlying t = some (.slice e)) (hu : P.underlying u = some d) (hd : (∃ e2, d = .slice e2) ∨ d = .string) (hi : P.info? e = some i) (hz : i.zero = some z)
    {b : Addr} {sLen sCap : Nat} {olds : List Value} (hlo : olds.length = sLen * i.size) (holds : ∀ j v, olds[j]? = some v → w.cell? (b.add j) = some v)
    {y : Value} {m : Nat} {news : List Value} (S : Src P w y m i.size news) (hg : sCap < sLen + m) (h63 : sLen + m ≤ 9223372036854775807) (hb : (sLen + m) * i.bytes ≤ 140737488355328) :
    (Builtin.append_ #[t, u] ty #[.slice (some b) sLen sCap, y]).run P w =
      .ok (.slice (some ⟨w.heap.size, 0, none⟩) (sLen + m) (grownCap w (sLen + m) sCap e))
        (w.drew.alloc (.cells (olds.toArray ++ news.toArray ++ Builtin.zeroCells z.cells (grownCap w (sLen + m) sCap e - (sLen + m))) e)) := by
  have hfit := growslice_fits hg hb
  have hn : ¬ (sLen + m ≤ sCap) := by omega
  have h63' : ¬ (9223372036854775807 < ((sLen : Int) + (m : Int))) := by omega
  have h48' : ¬ (281474976710656 < Builtin.nextslicecap (sLen + m) sCap * i.bytes) := by omega
  have hfo := run_firstCells_some (P := P) w.drew i.size sLen b sLen sCap olds hlo (by simpa using holds)
  rcases hd with ⟨e2, rfl⟩ | rfl
  · simp [Builtin.append_, run_underlying ht, run_underlying hu, sizeOf, typeInfo, zeroValue, hi, hz, S.len, S.cells', hfo, hn, h63', h48', Question.forced, newRow, grownCap]
    congr 2
    apply Array.ext'
    simp [List.append_assoc]
  · simp [Builtin.append_, run_underlying ht, run_underlying hu, sizeOf, typeInfo, zeroValue, hi, hz, S.len, S.cells', hfo, hn, h63', h48', Question.forced, newRow, grownCap]
    congr 2
    apply Array.ext'
    simp [List.append_assoc]

theorem run_append_roomG {t u ty e : TypeId} {i : TypeInfo} {d : TypeDesc} (ht : P.underlying t = some (.slice e)) (hu : P.underlying u = some d) (hd : (∃ e2, d = .slice e2) ∨ d = .string) (hi : P.info? e = some i)
    {b sLen sCap : Nat} {y : Value} {m : Nat} {news : List Value} (S : Src P w y m i.size news) (hg : sLen + m ≤ sCap) {w' : World} (hst : (storeCells ⟨b, sLen * i.size, none⟩ news 0).run P w = .ok () w') :
    (Builtin.append_ #[t, u] ty #[.slice (some ⟨b, 0, none⟩) sLen sCap, y]).run P w = .ok (.slice (some ⟨b, 0, none⟩) (sLen + m) sCap) w' := by
  have ha : (⟨b, 0, none⟩ : Addr).add (sLen * i.size) = ⟨b, sLen * i.size, none⟩ := by rw [add_plain', Nat.zero_add]
  rcases hd with ⟨e2, rfl⟩ | rfl <;>
    simp [Builtin.append_, run_underlying ht, run_underlying hu, sizeOf, typeInfo, hi, S.len, S.cells, hg, ha, hst]

end
end Go.Proofs.Ytihbdelgoapeoaa.K
/- append is sound. -/
namespace Go.Proofs.Ytihbdelgoapeoaa.K
open Go Go.RowKit
set_option linter.unusedSimpArgs false

section
variable {P : Program} {G : Gh} {σ : Mem} {w : World}

/-- A token is given up. -/
def Gh.kill (G : Gh) (k : Nat) : Gh := ⟨G.β, fun t => if t = k then Option.none else G.τ t, G.n⟩

theorem kill_sealed {k b o : Nat} (h : G.sealed b o) : (G.kill k).sealed b o :=
  ⟨h.1, fun t i ht hti hib => by
    simp only [Gh.kill] at hti
    split at hti
    · cases hti
    · exact h.2 t i ht hti hib⟩

theorem kill_free {k b : Nat} (h : G.free b) : (G.kill k).free b :=
  ⟨h.1, fun t i ht hti => by
    simp only [Gh.kill] at hti
    split at hti
    · cases hti
    · exact h.2 t i ht hti⟩

theorem Evo.kill (k : Nat) : Evo G w (G.kill k) w where
  os := rfl
  tape := rfl
  output := rfl
  size := Nat.le_refl _
  n := Nat.le_refl _
  β := fun _ _ _ h => h
  τ := fun t i _ hti => by
    simp only [Gh.kill] at hti
    split at hti
    · cases hti
    · exact hti
  cell := fun _ _ _ h => ⟨kill_sealed h, rfl⟩
  block := fun _ _ h => ⟨kill_free h, rfl⟩

theorem InvH.kill (hi : InvH G σ w) {k : Nat} (hk : σ[k]? = some (.tok true)) : InvH (G.kill k) (σ.set k (.tok false)) w := by
  have ev := Evo.kill (G := G) (w := w) k
  refine ⟨by rw [List.length_set]; exact hi.n, ?_, ?_, ?_, ?_, hi.inj, ?_, ?_⟩
  · intro id cs h
    rw [List.getElem?_set] at h
    split at h
    · split at h <;> cases h
    · obtain ⟨b, c, e, fr, h1, h2, h3, hu, h4⟩ := hi.cells id cs h
      exact ⟨b, c, e, fr, h1, h2, h3, hu, fun i x hx => (h4 i x hx).evo ev⟩
  · intro id b hlt hb
    obtain ⟨cs, hc⟩ := hi.ids id b hlt hb
    refine ⟨cs, ?_⟩
    rw [List.getElem?_set, if_neg]
    · exact hc
    · rintro rfl
      rw [hk] at hc
      cases hc
  · intro t ht
    rw [List.getElem?_set] at ht
    split at ht
    · split at ht
      · injection ht with ht
        cases ht
      · cases ht
    · rename_i hne
      obtain ⟨i, h⟩ := hi.toks t ht
      exact ⟨i, by simp only [Gh.kill]; rw [if_neg (fun e => hne e.symm)]; exact h⟩
  · intro t i hlt hti
    simp only [Gh.kill] at hti
    split at hti
    · cases hti
    · rename_i hne
      obtain ⟨h1, h2⟩ := hi.tok t i hlt hti
      refine ⟨?_, h2⟩
      rw [List.getElem?_set, if_neg (fun e => hne e.symm)]
      exact h1
  · intro x y i j hx hy h1 h2 hb
    simp only [Gh.kill] at h1 h2
    split at h1
    · cases h1
    · split at h2
      · cases h2
      · exact hi.tinj x y i j hx hy h1 h2 hb
  · intro id b t i h1 h2 h3 h4
    simp only [Gh.kill] at h4
    split at h4
    · cases h4
    · exact hi.apart id b t i h1 h2 h3 h4

theorem below_drew_alloc (w : World) (o : Obj) : Below w.heap.size w (w.drew.alloc o) :=
  (Below.refl _ _).drew.alloc (Nat.le_refl _) o

/-- A new row with room behind it. -/
theorem fresh_row (hi : InvH G σ w) {C : Array Value} {e : TypeId} {zs : List AV} {z cap : Nat} (hz : ∀ x ∈ zs, x.cells.length = z) (h0 : 0 < z) (hC : C.size = cap * z) (hn : zs.length ≤ cap) (hm : cap ≤ maxLen)
    (hr : ∀ i x, (flat zs)[i]? = some x → Rel G w x (C.getD i undef)) :
    ∃ G', InvH G' (σ ++ [.tok true]) (w.drew.alloc (.cells C e)) ∧ Evo G w G' (w.drew.alloc (.cells C e)) ∧
      Rel G' (w.drew.alloc (.cells C e)) (.sl zs (.live σ.length)) (.slice (some ⟨w.heap.size, 0, none⟩) zs.length cap) := by
  have hnew : New G w (w.drew.alloc (.cells C e)) none (some ⟨w.heap.size, e, z, cap, zs.length⟩) (.tok true) := by
    refine ⟨below_drew_alloc w _, fun b hb => (by cases hb), fun cs hc => (by cases hc), fun i hii => ?_, fun _ => ⟨_, rfl⟩⟩
    cases hii
    exact ⟨rfl, Nat.le_refl _, C, (0, 0), heap_alloc_new w.drew _, fun o ho h => by omega, hC, hn, hm, h0⟩
  have ev := hnew.evo
  have hcell : zs.length * z ≤ C.size := by rw [hC]; exact Nat.mul_le_mul_right _ hn
  refine ⟨_, hnew.inv hi, ev, .sl z (fun i => C.getD i undef) rfl (by omega) hz ?_ (fun i x hx => (hr i x hx).evo ev) (fun h => by cases h) hn ?_⟩
  · intro i hil
    rw [add_plain', Nat.zero_add]
    refine ⟨cell_row (heap_alloc_new w.drew _) (by omega), fun id hlt => ?_, fun t j hlt htj hb => ?_⟩
    · simp only [Gh.add] at hlt ⊢
      split
      · intro h; cases h
      · intro h
        have := hi.lt_of_cells (by omega) h
        exact Nat.lt_irrefl _ this
    · simp only [Gh.add] at hlt htj
      split at htj
      · cases htj
        exact hil
      · have := hi.lt_of_tok (by omega) htj
        simp only at hb
        omega
  · intro k hk
    cases hk
    refine ⟨by show σ.length < G.n + 1; rw [hi.n]; omega, fun i hti => ?_⟩
    simp only [Gh.add] at hti
    rw [if_pos hi.n.symm] at hti
    cases hti
    exact ⟨rfl, rfl, rfl, .inr rfl⟩

/-- A row gets more elements, in place. -/
theorem in_place (hi : InvH G σ w) {k : Nat} {I : TokInfo} (hk : σ[k]? = some (.tok true)) (hI : G.τ k = some I) {c c' : Array Value} {fr : Nat × Nat} (hrow : w.heap[I.b]? = some (.cells c I.e fr)) (hu : Unfrozen c fr) {w' : World}
    (hrow' : w'.heap[I.b]? = some (.cells c' I.e fr)) (hs : c'.size = c.size) (hold : ∀ j, j < I.n * I.size → c'.getD j undef = c.getD j undef)
    (hos : w'.os = w.os) (htape : w'.tape = w.tape) (hout : w'.output = w.output) (hsize : w'.heap.size = w.heap.size) (hblock : ∀ b, b ≠ I.b → w'.heap[b]? = w.heap[b]?) {m : Nat} (hm : I.n + m ≤ I.cap) :
    ∃ G', InvH G' (σ.set k (.tok false) ++ [.tok true]) w' ∧ Evo G w G' w' ∧ G'.n = G.n + 1 ∧ G'.τ G.n = some { I with n := I.n + m } ∧ (∀ id, id < G'.n → G'.β id ≠ some I.b) ∧ ∀ t i, t < G'.n → G'.τ t = some i → i.b = I.b → t = G.n := by
  have hkn : k < G.n := by rw [hi.n]; exact (List.getElem?_eq_some_iff.1 hk).1
  obtain ⟨_, c0, fr0, hc0, hu0, hcs, hncap, hcmax, hpos⟩ := hi.tok k I hkn hI
  rw [hrow] at hc0
  cases hc0
  let G' : Gh := ⟨fun id => if id = G.n then none else G.β id, fun t => if t = G.n then some { I with n := I.n + m } else if t = k then none else G.τ t, G.n + 1⟩
  have hβ : ∀ id, id < G'.n → G'.β id ≠ some I.b := by
    intro id hlt
    show (if id = G.n then none else G.β id) ≠ some I.b
    split
    · intro h; cases h
    · intro h
      have hlt' : id < G.n + 1 := hlt
      exact hi.apart id I.b k I (by omega) hkn h hI rfl
  have hτ : ∀ t i, t < G'.n → G'.τ t = some i → i.b = I.b → t = G.n := by
    intro t i hlt hti hb
    have hti' : (if t = G.n then some { I with n := I.n + m } else if t = k then none else G.τ t) = some i := hti
    have hlt' : t < G.n + 1 := hlt
    by_cases h1 : t = G.n
    · exact h1
    · rw [if_neg h1] at hti'
      split at hti'
      · cases hti'
      · rename_i h2
        exact absurd (hi.tinj t k i I (by omega) hkn hti' hI hb) h2
  have hle : I.n * I.size ≤ (I.n + m) * I.size := Nat.mul_le_mul_right _ (by omega)
  have sld : ∀ b o, G.sealed b o → G'.sealed b o := by
    intro b o hso
    refine ⟨fun id hlt => ?_, fun t i hlt hti hb => ?_⟩
    · have hlt' : id < G.n + 1 := hlt
      show (if id = G.n then none else G.β id) ≠ some b
      split
      · intro h; cases h
      · exact hso.1 id (by omega)
    · have hlt' : t < G.n + 1 := hlt
      have hti' : (if t = G.n then some { I with n := I.n + m } else if t = k then none else G.τ t) = some i := hti
      split at hti'
      · cases hti'
        have := hso.2 k I hkn hI hb
        simp only
        omega
      · split at hti'
        · cases hti'
        · exact hso.2 t i (by omega) hti' hb
  have ev : Evo G w G' w' := by
    refine ⟨hos, htape, hout, by omega, Nat.le_succ _, fun id b0 hlt hb0 => ?_, fun t i hlt hti => ?_, fun b o hb hso => ⟨sld b o hso, ?_⟩, fun b hb hf => ?_⟩
    · have hb0' : (if id = G.n then none else G.β id) = some b0 := hb0
      rwa [if_neg (by omega)] at hb0'
    · have hti' : (if t = G.n then some { I with n := I.n + m } else if t = k then none else G.τ t) = some i := hti
      rw [if_neg (by omega)] at hti'
      split at hti'
      · cases hti'
      · exact hti'
    · by_cases hbI : b = I.b
      · subst hbI
        have ho := hso.2 k I hkn hI rfl
        have hlo : o < c.size := by
          have : I.n * I.size ≤ I.cap * I.size := Nat.mul_le_mul_right _ hncap
          omega
        rw [cell_row hrow' (by omega), cell_row hrow hlo, hold o ho]
      · exact World.cell?_of_block (hblock b hbI)
    · have hbI : b ≠ I.b := fun h => hf.2 k I hkn hI h.symm
      refine ⟨⟨fun id hlt => ?_, fun t i hlt hti => ?_⟩, hblock b hbI⟩
      · have hlt' : id < G.n + 1 := hlt
        show (if id = G.n then none else G.β id) ≠ some b
        split
        · intro h; cases h
        · exact hf.1 id (by omega)
      · have hlt' : t < G.n + 1 := hlt
        have hti' : (if t = G.n then some { I with n := I.n + m } else if t = k then none else G.τ t) = some i := hti
        split at hti'
        · cases hti'
          exact fun h => hbI h.symm
        · split at hti'
          · cases hti'
          · exact hf.2 t i (by omega) hti'
  have hlen : (σ.set k (.tok false)).length = G.n := by rw [List.length_set]; exact hi.n.symm
  have look : ∀ (j : Nat) (ob : AO), (σ.set k (.tok false) ++ [.tok true])[j]? = some ob → (j < G.n ∧ j ≠ k ∧ σ[j]? = some ob) ∨ (j = k ∧ ob = .tok false) ∨ (j = G.n ∧ ob = .tok true) := by
    intro j ob hj
    rw [List.getElem?_append] at hj
    split at hj
    · rename_i hjl
      rw [List.getElem?_set] at hj
      split at hj
      · rename_i hkj
        split at hj
        · cases hj
          exact .inr (.inl ⟨hkj.symm, rfl⟩)
        · cases hj
      · rename_i hkj
        exact .inl ⟨by omega, fun h => hkj h.symm, hj⟩
    · rename_i hjl
      have h0 : j - (σ.set k (.tok false)).length = 0 := by
        rcases Nat.eq_zero_or_pos (j - (σ.set k (.tok false)).length) with h0 | h0
        · exact h0
        · rw [List.getElem?_eq_none (by simp at h0 ⊢; omega)] at hj; cases hj
      rw [h0] at hj
      simp at hj
      exact .inr (.inr ⟨by omega, hj.symm⟩)
  have put : ∀ (j : Nat) (ob : AO), j < G.n → j ≠ k → σ[j]? = some ob → (σ.set k (.tok false) ++ [.tok true])[j]? = some ob := by
    intro j ob hj hne h
    rw [List.getElem?_append_left (by omega), List.getElem?_set, if_neg (fun e => hne e.symm)]
    exact h
  refine ⟨G', ⟨by simp [G', hlen], ?_, ?_, ?_, ?_, ?_, ?_, ?_⟩, ev, rfl, by simp [G'], hβ, hτ⟩
  · intro id cs h
    rcases look id _ h with ⟨hlt, hne, ho⟩ | ⟨_, ho⟩ | ⟨_, ho⟩
    · obtain ⟨b, cc, e, f, h1, h2, h3, huu, h4⟩ := hi.cells id cs ho
      have hb : b ≠ I.b := fun h => hi.apart id b k I hlt hkn h1 hI h.symm
      exact ⟨b, cc, e, f, (by show (if id = G.n then none else G.β id) = some b; rw [if_neg (by omega)]; exact h1), (hblock b hb).trans h2, h3, huu, fun i x hx => (h4 i x hx).evo ev⟩
    · cases ho
    · cases ho
  · intro id b hlt hb
    have hlt' : id < G.n + 1 := hlt
    have hb' : (if id = G.n then none else G.β id) = some b := hb
    split at hb'
    · cases hb'
    · obtain ⟨cs, hc⟩ := hi.ids id b (by omega) hb'
      refine ⟨cs, put id _ (by omega) (fun h => ?_) hc⟩
      subst h
      rw [hk] at hc
      cases hc
  · intro t ht
    rcases look t _ ht with ⟨hlt, hne, ho⟩ | ⟨_, ho⟩ | ⟨rfl, _⟩
    · obtain ⟨i, h⟩ := hi.toks t ho
      refine ⟨i, ?_⟩
      show (if t = G.n then some { I with n := I.n + m } else if t = k then none else G.τ t) = some i
      rw [if_neg (by omega), if_neg hne]
      exact h
    · injection ho with ho
      cases ho
    · exact ⟨{ I with n := I.n + m }, by simp [G']⟩
  · intro t i hlt hti
    have hlt' : t < G.n + 1 := hlt
    have hti' : (if t = G.n then some { I with n := I.n + m } else if t = k then none else G.τ t) = some i := hti
    split at hti'
    · rename_i htn
      cases hti'
      subst htn
      refine ⟨by rw [List.getElem?_append_right (by omega), hlen]; simp, c', fr, hrow', fun o ho => hu o (by omega), by simp only; omega, hm, hcmax, hpos⟩
    · split at hti'
      · cases hti'
      · rename_i h1 h2
        obtain ⟨g1, cc, f, g2, g3⟩ := hi.tok t i (by omega) hti'
        have hb : i.b ≠ I.b := fun h => h2 (hi.tinj t k i I (by omega) hkn hti' hI h)
        exact ⟨put t _ (by omega) h2 g1, cc, f, (hblock i.b hb).trans g2, g3⟩
  · intro i j b h1 h2 h3 h4
    have h1' : i < G.n + 1 := h1
    have h2' : j < G.n + 1 := h2
    have h3' : (if i = G.n then none else G.β i) = some b := h3
    have h4' : (if j = G.n then none else G.β j) = some b := h4
    split at h3'
    · cases h3'
    · split at h4'
      · cases h4'
      · exact hi.inj i j b (by omega) (by omega) h3' h4'
  · intro x y i j h1 h2 h3 h4 hb
    by_cases hbI : i.b = I.b
    · rw [hτ x i h1 h3 hbI, hτ y j h2 h4 (hb ▸ hbI)]
    · have h1' : x < G.n + 1 := h1
      have h2' : y < G.n + 1 := h2
      have h3' : (if x = G.n then some { I with n := I.n + m } else if x = k then none else G.τ x) = some i := h3
      have h4' : (if y = G.n then some { I with n := I.n + m } else if y = k then none else G.τ y) = some j := h4
      split at h3'
      · cases h3'
        exact absurd rfl hbI
      · split at h3'
        · cases h3'
        · split at h4'
          · cases h4'
            exact absurd hb hbI
          · split at h4'
            · cases h4'
            · exact hi.tinj x y i j (by omega) (by omega) h3' h4' hb
  · intro id b t i h1 h2 h3 h4
    by_cases hbI : i.b = I.b
    · rw [hbI]
      intro h
      exact hβ id h1 (h ▸ h3)
    · have h1' : id < G.n + 1 := h1
      have h2' : t < G.n + 1 := h2
      have h3' : (if id = G.n then none else G.β id) = some b := h3
      have h4' : (if t = G.n then some { I with n := I.n + m } else if t = k then none else G.τ t) = some i := h4
      split at h3'
      · cases h3'
      · split at h4'
        · cases h4'
          exact absurd rfl hbI
        · split at h4'
          · cases h4'
          · exact hi.apart id b t i (by omega) (by omega) h3' h4'

end
end Go.Proofs.Ytihbdelgoapeoaa.K
/- append, len, conversions between texts and bytes; all operations but calls in one. -/
namespace Go.Proofs.Ytihbdelgoapeoaa.K
open Go Go.RowKit
set_option linter.unusedSimpArgs false

section
variable {P : Program} {G : Gh} {σ : Mem} {w : World} {s : Fr} {a : Act} {o : Oper}

/-- The elements' cells, one list: those of a slice and those that come behind. -/
theorem flat_append (l m : List AV) : flat (l ++ m) = flat l ++ flat m := by simp [flat]

theorem getD_append_rel {xs ys : List AV} {us vs zs : List Value} (h1 : us.length = xs.length) (hx : ∀ i x, xs[i]? = some x → Rel G w x (us.getD i undef)) (hy : ∀ i x, ys[i]? = some x → Rel G w x (vs.getD i undef)) (h2 : ys.length ≤ vs.length) :
    ∀ i x, (xs ++ ys)[i]? = some x → Rel G w x ((us ++ (vs ++ zs)).getD i undef) := by
  intro i x h
  rw [List.getElem?_append] at h
  split at h
  · rename_i hl
    have := hx i x h
    simpa [List.getD, List.getElem?_append_left (show i < us.length by omega)] using this
  · rename_i hl
    have := hy _ x h
    have hil := (List.getElem?_eq_some_iff.1 h).1
    rw [← h1] at this hil
    have e : (us ++ (vs ++ zs))[i]? = vs[i - us.length]? := by
      rw [List.getElem?_append_right (by omega), List.getElem?_append_left (by omega)]
    simpa [List.getD, e] using this

theorem append_empty {t u ty e : TypeId} {i : TypeInfo} {d : TypeDesc} (ht : P.underlying t = some (.slice e)) (hu : P.underlying u = some d) (hd : (∃ e2, d = .slice e2) ∨ d = .string) (hi : P.info? e = some i)
    {ad : Option Addr} {sLen sCap : Nat} {y : Value} {news : List Value} (S : Src P w y 0 i.size news) (hg : sLen ≤ sCap) : (Builtin.append_ #[t, u] ty #[.slice ad sLen sCap, y]).run P w = .ok (.slice ad sLen sCap) w := by
  have hn : news = [] := List.eq_nil_of_length_eq_zero (by simpa using S.count)
  subst hn
  have h1 := S.cells
  cases ad <;> rcases hd with ⟨e2, rfl⟩ | rfl <;>
    simp [Builtin.append_, run_underlying ht, run_underlying hu, sizeOf, typeInfo, hi, S.len, h1, hg, storeCells]

theorem zeros_size {z : Value} {k n : Nat} (h : z.cells.size = k) : (Builtin.zeroCells z.cells n).size = n * k := by simp [Builtin.zeroCells, h]

theorem append_sound (hi : InvH G σ w) {t u ty : TypeId} {x y r : AV} {vx vy : Value} {σ' : Mem} (hx : Rel G w x vx) (hy : Rel G w y vy) (h : appendA P σ t u x y = some (r, σ')) :
    ∃ G' v w', (Builtin.append_ #[t, u] ty #[vx, vy]).run P w = .ok v w' ∧ InvH G' σ' w' ∧ Evo G w G' w' ∧ Rel G' w' r v := by
  simp only [appendA, Option.bind_eq_some_iff] at h
  obtain ⟨d, ht, h⟩ := h
  cases d <;> simp only [reduceCtorEq, Option.bind_eq_some_iff] at h
  case slice e =>
    obtain ⟨d, hu, un, hd, i, hie, zv, hzv, ys, hys, h⟩ := h
    have hd' : (∃ e2, d = .slice e2) ∨ d = .string := by
      cases d <;> simp at hd
      · exact .inr rfl
      · exact .inl ⟨_, rfl⟩
    split at h
    · rename_i hc
      obtain ⟨c1, c2, c3, c4⟩ := hc
      obtain ⟨hall, news, S, hnr⟩ := src_rel (P := P) hy hys c1
      simp only [zeroA, Option.bind_eq_some_iff] at hzv
      obtain ⟨z, ⟨i', hi', hz⟩, hzc⟩ := hzv
      rw [hie] at hi'
      cases hi'
      have hzs : z.cells.size = i.size := by rw [(ofConst_rel hzc G w).cells.1]; exact c3
      have hnl : news.length = (flat ys).length := by rw [S.count, flat_length hall]
      cases x <;> simp only [reduceCtorEq] at h
      case nils =>
        cases hx
        split at h
        · rename_i he
          cases h
          have : ys = [] := by simpa using he
          subst this
          exact ⟨G, _, w, append_empty ht hu hd' hie S (Nat.le_refl _), hi, Evo.refl _ _, .nils⟩
        · rename_i he
          have h0 : 0 < ys.length := by
            cases ys with
            | nil => simp at he
            | cons y ys => simp
          split at h
          · rename_i hb
            cases h
            have hrun := run_append_nilG (ty := ty) ht hu hd' hie hz S h0 hb.2 hb.1
            have hge := grownCap_ge w ys.length 0 e
            have hle := grownCap_le_maxLen w ys.length 0 e (by simp only [maxLen]; omega)
            obtain ⟨G', g1, g2, g3⟩ := fresh_row (e := e) (C := news.toArray ++ Builtin.zeroCells z.cells (grownCap w ys.length 0 e - ys.length)) (zs := ys) (z := i.size) (cap := grownCap w ys.length 0 e) hi hall c2 (by
              rw [Array.size_append, zeros_size hzs, List.size_toArray, S.count, ← Nat.add_mul]
              congr 1; omega) hge hle (fun j x hx => by
              have hjl := (List.getElem?_eq_some_iff.1 hx).1
              have := hnr j x hx
              have e1 : (news.toArray ++ Builtin.zeroCells z.cells (grownCap w ys.length 0 e - ys.length)).getD j undef = news.getD j undef := by
                simp only [Array.getD_eq_getD_getElem?, List.getD]
                rw [Array.getElem?_append_left (by simp; omega)]
                simp
              rw [e1]
              exact this)
            exact ⟨G', _, _, hrun, g1, g2, g3⟩
          · cases h
      case sl l tk =>
        cases hx with
        | @sl _ _ b len cap size c hlen hmax hsize hrow hrel hfull hcap hlive =>
        split at h
        · rename_i he
          cases h
          have : ys = [] := by simpa using he
          subst this
          exact ⟨G, _, w, append_empty ht hu hd' hie S hcap, hi, Evo.refl _ _, .sl size c hlen hmax hsize hrow hrel hfull hcap hlive⟩
        · rename_i he
          have h0 : 0 < ys.length := by
            cases ys with
            | nil => simp at he
            | cons y ys => simp
          split at h
          · rename_i hb
            obtain ⟨hb1, hb2, hb3⟩ := hb
            have hall1 := sizeOK_all hb1 hsize
            have hallz : ∀ x ∈ l ++ ys, x.cells.length = i.size := fun x hx => (List.mem_append.1 hx).elim (hall1 x) (hall x)
            have hrow1 : ∀ j, j < l.length * i.size → w.cell? (b.add j) = some (c j) := by
              intro j hj
              refine (hrow j ?_).1
              rcases Nat.eq_zero_or_pos l.length with g0 | g0
              · rw [g0] at hj; simp at hj
              · have hm : l[0] ∈ l := by simp
                rw [← hsize _ hm, hall1 _ hm, hlen]; exact hj
            have holds : ∀ (j : Nat) (v : Value), ((List.range (l.length * i.size)).map c)[j]? = some v → w.cell? (b.add j) = some v := by
              intro j v hj
              simp only [List.getElem?_map, Option.map_eq_some_iff] at hj
              obtain ⟨k, hk, rfl⟩ := hj
              have hkl := (List.getElem?_eq_some_iff.1 hk).1
              have hk2 := (List.getElem?_eq_some_iff.1 hk).2
              rw [List.getElem_range] at hk2
              subst hk2
              exact hrow1 _ (by simpa using hkl)
            -- what grows, from whatever ghost
            have grow : ∀ {G1 : Gh} {σ1 : Mem}, InvH G1 σ1 w → Evo G w G1 w → cap < l.length + ys.length →
                ∃ G' v w', (Builtin.append_ #[t, u] ty #[.slice (some b) len cap, vy]).run P w = .ok v w' ∧ InvH G' (σ1 ++ [.tok true]) w' ∧ Evo G w G' w' ∧ Rel G' w' (.sl (l ++ ys) (.live σ1.length)) v := by
              intro G1 σ1 hi1 ev1 hcl
              rw [hlen]
              have hrun := run_append_growG (ty := ty) ht hu hd' hie hz (olds := (List.range (l.length * i.size)).map c) (b := b) (sLen := l.length) (sCap := cap) (by simp) holds S hcl hb3 hb2
              have hge := grownCap_ge w (l.length + ys.length) cap e
              have hle := grownCap_le_maxLen w (l.length + ys.length) cap e (by simp only [maxLen]; omega)
              obtain ⟨G', g1, g2, g3⟩ := fresh_row (e := e) (C := ((List.range (l.length * i.size)).map c).toArray ++ news.toArray ++ Builtin.zeroCells z.cells (grownCap w (l.length + ys.length) cap e - (l.length + ys.length)))
                (zs := l ++ ys) (z := i.size) (cap := grownCap w (l.length + ys.length) cap e) hi1 hallz c2 (by
                rw [Array.size_append, Array.size_append, zeros_size hzs, List.size_toArray, List.size_toArray, S.count]
                simp only [List.length_map, List.length_range]
                rw [← Nat.add_mul, ← Nat.add_mul]
                congr 1; omega) (by rw [List.length_append]; exact hge) hle (fun j x hx => by
                rw [flat_append] at hx
                have hjl := (List.getElem?_eq_some_iff.1 hx).1
                have key := getD_append_rel (G := G1) (w := w) (us := (List.range (l.length * i.size)).map c) (vs := news) (zs := (Builtin.zeroCells z.cells (grownCap w (l.length + ys.length) cap e - (l.length + ys.length))).toList)
                  (by simp [flat_length hall1]) (fun k x hx => by
                    have hkl := (List.getElem?_eq_some_iff.1 hx).1
                    rw [flat_length hall1] at hkl
                    have := (hrel k x hx).evo ev1
                    simpa [List.getD, hkl] using this) (fun k x hx => (hnr k x hx).evo ev1) (by omega) j x hx
                have e1 : (((List.range (l.length * i.size)).map c).toArray ++ news.toArray ++ Builtin.zeroCells z.cells (grownCap w (l.length + ys.length) cap e - (l.length + ys.length))).getD j undef =
                    ((List.range (l.length * i.size)).map c ++ (news ++ (Builtin.zeroCells z.cells (grownCap w (l.length + ys.length) cap e - (l.length + ys.length))).toList)).getD j undef := by
                  simp only [Array.getD_eq_getD_getElem?, List.getD, ← Array.getElem?_toList, Array.toList_append, List.append_assoc]
                rw [e1]
                exact key)
              rw [List.length_append] at g3
              exact ⟨G', _, _, hrun, g1, ev1.trans g2, g3⟩
            cases tk <;> simp only [reduceCtorEq] at h
            case full =>
              cases h
              have := hfull rfl
              exact grow hi (Evo.refl _ _) (by omega)
            case live k =>
              split at h
              · cases h
              rename_i hne
              have hl0 : 0 < l.length := by
                cases l with
                | nil => simp at hne
                | cons y l => simp
              split at h
              · rename_i hk
                cases h
                by_cases hroom : l.length + ys.length ≤ cap
                · obtain ⟨hkn, hI⟩ := hlive k rfl
                  obtain ⟨I, hI1⟩ := hi.toks k hk
                  obtain ⟨q1, q2, q3, q4⟩ := hI I hI1
                  have hzI : size = I.size := by rcases q4 with q4 | q4 <;> omega
                  have hszi : size = i.size := by
                    have hm : l[0] ∈ l := by simp
                    rw [← hsize _ hm, hall1 _ hm]
                  obtain ⟨_, cc, fr, hcc, hun, hccs, hnc, hcm, hpos⟩ := hi.tok k I hkn hI1
                  have hones : ∀ v ∈ news, v.oneCell' = true := by
                    intro v hv
                    obtain ⟨j, hj, rfl⟩ := mem_getD (d := undef) hv
                    have hjf : j < (flat ys).length := by omega
                    have hrelj := hnr j (flat ys)[j] (by simp [hjf])
                    refine hrelj.one ?_
                    have hmem : (flat ys)[j] ∈ flat ys := by simp
                    simp only [flat, List.mem_flatMap] at hmem
                    obtain ⟨y', hy1, hy2⟩ := hmem
                    exact List.all_eq_true.1 ((List.all_eq_true.1 c4) y' hy1) _ hy2
                  have hfit : l.length * i.size + 0 + news.length ≤ cc.size := by
                    rw [hccs, S.count, ← hzI, hszi, Nat.add_zero, ← Nat.add_mul]
                    exact Nat.mul_le_mul_right _ (by omega)
                  obtain ⟨w', c', hst, hr1, hr2, hr3, e1, e2, e3, e4, e5⟩ := run_storeCells_row (P := P) (b := I.b) (o := l.length * i.size) news 0 cc w hcc hun hfit hones
                  have hrun := run_append_roomG (ty := ty) (sLen := l.length) (sCap := cap) ht hu hd' hie S hroom hst
                  obtain ⟨G', g1, g2, g3, g4, g5, g6⟩ := in_place hi hk hI1 hcc hun hr1 hr2 (fun j hj => by
                    rw [hr3 j, if_neg]
                    have : I.n * I.size = l.length * i.size := by rw [← q2, hlen, ← hzI, hszi]
                    omega) e1 e2 e3 e4 e5 (m := ys.length) (by omega)
                  refine ⟨G', .slice (some ⟨I.b, 0, none⟩) (l.length + ys.length) cap, w', ?_, g1, g2, ?_⟩
                  · rw [q1, hlen]; exact hrun
                  · refine .sl i.size (fun j => c'.getD j undef) (by simp) (by simp only [maxLen]; omega) hallz ?_ ?_ (fun h => by cases h) hroom ?_
                    · intro j hj
                      rw [add_plain', Nat.zero_add]
                      have hjc : j < cc.size := by
                        have : (l.length + ys.length) * i.size = l.length * i.size + 0 + news.length := by rw [S.count, Nat.add_mul]; rfl
                        omega
                      refine ⟨cell_row hr1 (by omega), g5, fun t' i' ht' hi' hb' => ?_⟩
                      have htn := g6 t' i' ht' hi' hb'
                      subst htn
                      rw [g4] at hi'
                      cases hi'
                      simp only
                      rw [← hzI, hszi, ← q2, hlen]
                      exact hj
                    · intro j x hx
                      rw [flat_append] at hx
                      show Rel G' w' x (c'.getD j undef)
                      rw [hr3 j]
                      rw [List.getElem?_append] at hx
                      split at hx
                      · rename_i hjl
                        rw [flat_length hall1] at hjl
                        rw [if_neg (by omega)]
                        have h6 := hrel j x hx
                        have h7 := hrow1 j hjl
                        rw [q1, add_plain', Nat.zero_add, cell_row hcc (by omega)] at h7
                        injection h7 with h7
                        rw [h7]
                        exact h6.evo g2
                      · rename_i hjl
                        rw [flat_length hall1] at hjl hx
                        have hjx := (List.getElem?_eq_some_iff.1 hx).1
                        rw [if_pos (by omega)]
                        simpa using (hnr _ x hx).evo g2
                    · intro k' hk'
                      cases hk'
                      rw [hi.n] at g3
                      refine ⟨by omega, fun i' hi' => ?_⟩
                      rw [← hi.n, g4] at hi'
                      cases hi'
                      exact ⟨rfl, by simp only; omega, q3, .inr (by simp only; omega)⟩
                · have := grow (hi.kill hk) (Evo.kill k) (by omega)
                  rw [List.length_set] at this
                  exact this
              · cases h
          · cases h
    · cases h

end
end Go.Proofs.Ytihbdelgoapeoaa.K
/- append to a list that changes, within its room; append of so many noughts to nil. -/
namespace Go.Proofs.Ytihbdelgoapeoaa.K
open Go Go.RowKit
set_option linter.unusedSimpArgs false
set_option linter.unusedVariables false

def isIntT : TypeDesc → Bool
  | .int _ => true
  | _ => false

def appendM (P : Program) (σ : Mem) (t u : TypeId) (x y : AV) : Option (AV × Mem) :=
  (P.underlying t).bind fun
  | .slice e => (P.underlying u).bind fun d => (P.info? e).bind fun i => (zeroA P e).bind fun z =>
    match x with
    | .nils => match y with
      | .int .i64 n => if isIntT d = true ∧ 0 < n ∧ n ≤ 2147483648 ∧ i.bytes ≤ 65536 ∧ z.cells.length = i.size then
          some (.msl σ.length 0 n.toNat n.toNat, σ ++ [.cells ((List.range (n.toNat * i.size)).map fun j => z.cells.getD (j % i.size) .undef)]) else none
      | _ => none
    | .msl id off len cap => (match d with | .slice _ | .string => some () | _ => none).bind fun _ => (srcA y).bind fun ys => (σ[id]?).bind fun
      | .cells cs => if off = 0 ∧ sizeOK i.size ys = true ∧ len + ys.length ≤ cap ∧ (len + ys.length) * i.size ≤ cs.length ∧ (ys.all fun v => v.cells.all AV.one) = true then
          some (.msl id 0 (len + ys.length) cap, σ.set id (.cells (putA cs (len * i.size) (flat ys)))) else none
      | _ => none
    | _ => none
  | _ => none

section
variable {P : Program} {G : Gh} {σ : Mem} {w : World}

theorem run_append_make {t u ty e : TypeId} {i : TypeInfo} {z : Value} {k : IntKind} (ht : P.underlying t = some (.slice e)) (hu : P.underlying u = some (.int k)) (hi : P.info? e = some i) (hz : i.zero = some z) {m : Nat} (h0 : 0 < m) (h1 : m ≤ 2147483648) (hb : i.bytes ≤ 65536) (hzs : z.cells.size = i.size) :
    (Builtin.append_ #[t, u] ty #[.slice none 0 0, .int .i64 m]).run P w =
      .ok (.slice (some ⟨w.heap.size, 0, none⟩) m (grownCap w m 0 e)) (w.drew.alloc (.cells (Builtin.zeroCells z.cells m ++ Builtin.zeroCells z.cells (grownCap w m 0 e - m)) e)) := by
  have hmul : m * i.bytes ≤ 140737488355328 := by have := Nat.mul_le_mul h1 hb; omega
  have hmul' : ((m : Int) * (i.bytes : Int)) ≤ 140737488355328 := by have h := Int.ofNat_le.2 hmul; rw [Int.natCast_mul] at h; exact h
  have hn : m ≠ 0 := by omega
  have hw : IntKind.i64.wrap (m : Int) = m := IntWalk.i64_in _ (by omega)
  have hneg : ¬ ((m : Int) < 0) := by omega
  have h48a : ¬ (281474976710656 < (m : Int) * (i.bytes : Int)) := by omega
  have h63' : ¬ (9223372036854775807 < (m : Int)) := by omega
  have h48' : ¬ (281474976710656 < Builtin.nextslicecap m 0 * i.bytes) := by rw [nextslicecap_zero h0]; omega
  by_cases hs : i.size = 0
  · have hz0 : Builtin.zeroCells z.cells m = #[] := by
      apply Array.eq_empty_of_size_eq_zero
      simp [Builtin.zeroCells, hzs, hs]
    simp [Builtin.append_, run_underlying ht, run_underlying hu, sizeOf, typeInfo, zeroValue, hi, hz, hn, hw, hneg, h48a, h63', h48', Question.forced, run_firstCells_none, newRow, grownCap, asInt, asIntOf, hs, hz0]
  · simp [Builtin.append_, run_underlying ht, run_underlying hu, sizeOf, typeInfo, zeroValue, hi, hz, hn, hw, hneg, h48a, h63', h48', Question.forced, run_firstCells_none, newRow, grownCap, asInt, asIntOf, hs]
    intro h; exfalso; exact absurd h (Nat.mul_ne_zero hn hs)

theorem getD_mod {z : List AV} {zc : Array Value} {G : Gh} {w : World} (hs : zc.size = z.length) (hr : ∀ i x, z[i]? = some x → Rel G w x (zc.getD i undef)) (h0 : 0 < z.length) (j : Nat) : Rel G w (z.getD (j % z.length) .undef) (zc[j % zc.size]!) := by
  have hlt : j % z.length < z.length := Nat.mod_lt _ h0
  have h1 : z[j % z.length]? = some (z[j % z.length]) := List.getElem?_eq_getElem hlt
  have := hr _ _ h1
  rw [hs]
  have e1 : zc[j % z.length]! = zc.getD (j % z.length) undef := by
    have hl : j % z.length < zc.size := by omega
    simp [Array.getD, hl]
  rw [e1]
  simpa [List.getD, h1] using this

theorem appendM_sound (hi : InvH G σ w) {t u ty : TypeId} {x y r : AV} {vx vy : Value} {σ' : Mem} (hx : Rel G w x vx) (hy : Rel G w y vy) (h : appendM P σ t u x y = some (r, σ')) :
    ∃ G' v w', (Builtin.append_ #[t, u] ty #[vx, vy]).run P w = .ok v w' ∧ InvH G' σ' w' ∧ Evo G w G' w' ∧ Rel G' w' r v := by
  simp only [appendM, Option.bind_eq_some_iff] at h
  obtain ⟨d, ht, h⟩ := h
  cases d <;> simp only [reduceCtorEq, Option.bind_eq_some_iff] at h
  case slice e =>
    obtain ⟨d, hu, i, hie, zv, hzv, h⟩ := h
    have hzv' := hzv
    unfold zeroA at hzv'
    obtain ⟨z, hzz, hzc⟩ := Option.bind_eq_some_iff.1 hzv'
    obtain ⟨i', hi', hz⟩ := Option.bind_eq_some_iff.1 hzz
    rw [hie] at hi'
    cases hi'
    have hzr := ofConst_rel hzc G w
    cases x <;> simp only [reduceCtorEq] at h
    case nils =>
      cases y <;> (try dsimp only at h) <;> (try (cases h; done))
      rename_i k n
      cases k <;> (try dsimp only at h) <;> (try (cases h; done))
      split at h
      · rename_i hc
        obtain ⟨c1, c2, c3, c4, c5⟩ := hc
        cases hx
        cases hy
        cases h
        cases d <;> simp only [isIntT, reduceCtorEq] at c1
        rename_i kk
        obtain ⟨m, rfl⟩ := Int.eq_ofNat_of_zero_le (Int.le_of_lt c2)
        have hzs : z.cells.size = i.size := by rw [hzr.cells.1]; exact c5
        have hrun := run_append_make (P := P) (w := w) (ty := ty) ht hu hie hz (m := m) (by omega) (by omega) c4 hzs
        have hge := grownCap_ge w m 0 e
        have hnew := New.ofCells (G := G) (w := w.drew) (e := e) (c := Builtin.zeroCells z.cells m ++ Builtin.zeroCells z.cells (grownCap w m 0 e - m)) (cs := (List.range (m * i.size)).map fun j => zv.cells.getD (j % i.size) .undef)
          (by rw [List.length_map, List.length_range, Array.size_append, zeros_size hzs]; simp) (fun j x hx => by
            simp only [List.getElem?_map, Option.map_eq_some_iff] at hx
            obtain ⟨j', hj', rfl⟩ := hx
            have hjl := (List.getElem?_eq_some_iff.1 hj').1
            have hj2 := (List.getElem?_eq_some_iff.1 hj').2
            rw [List.getElem_range] at hj2
            subst hj2
            simp at hjl
            have h0 : 0 < zv.cells.length := by rw [c5]; exact Nat.pos_of_ne_zero (fun e0 => by rw [e0] at hjl; simp at hjl)
            have hzr' := hzr.evo (Evo.of_below (G := G) (Below.refl w.heap.size w).drew)
            have := getD_mod (z := zv.cells) (zc := z.cells) (G := G) (w := w.drew) hzr'.cells.1 hzr'.cells.2 h0 j
            rw [← c5]
            have e1 : (Builtin.zeroCells z.cells m ++ Builtin.zeroCells z.cells (grownCap w m 0 e - m)).getD j undef = z.cells[j % z.cells.size]! := by
              have hl1 : j < (Builtin.zeroCells z.cells m).size := by simp [Builtin.zeroCells, hzs]; exact hjl
              simp only [Array.getD_eq_getD_getElem?]
              rw [Array.getElem?_append_left hl1]
              simp [Builtin.zeroCells, hzs, hjl]
            rw [e1]
            exact this)
        have hib := hi.of_below (Below.refl w.heap.size w).drew
        refine ⟨_, _, _, hrun, hnew.inv hib, (Evo.of_below (Below.refl w.heap.size w).drew).trans hnew.evo, ?_⟩
        simp only [Int.toNat_natCast]
        refine .msl (by show σ.length < G.n + 1; rw [hi.n]; omega) (by show ∀ b', (if σ.length = G.n then some w.drew.heap.size else G.β σ.length) = some b' → b' = w.heap.size; rw [if_pos hi.n.symm]; intro b' h; cases h; rfl) hge
      · cases h
    case msl id off len cap =>
      simp only [Option.bind_eq_some_iff] at h
      obtain ⟨un, hd, ys, hys, ob, hob, h⟩ := h
      cases ob <;> simp only [reduceCtorEq] at h
      rename_i cs
      split at h
      · rename_i hc
        obtain ⟨rfl, c1, c2, c3, c4⟩ := hc
        cases h
        have hd' : (∃ e2, d = .slice e2) ∨ d = .string := by
          cases d <;> simp at hd
          · exact .inr rfl
          · exact .inl ⟨_, rfl⟩
        obtain ⟨hall, news, S, hnr⟩ := src_rel (P := P) hy hys c1
        have hnl : news.length = (flat ys).length := by rw [S.count, flat_length hall]
        cases hx with
        | @msl _ _ _ _ cap' b hn hb hcap =>
          obtain ⟨b', c, e', fr, h1, h2, h3, hu', h4⟩ := hi.cells id cs hob
          obtain rfl : b = b' := (hb b' h1).symm
          have hfl : (flat ys).length = ys.length * i.size := flat_length hall
          have hone : ∀ v ∈ news, v.oneCell' = true := by
            intro v hv
            obtain ⟨j, hj, rfl⟩ := mem_getD (d := undef) hv
            have hjl : j < (flat ys).length := by omega
            have hr := hnr j (flat ys)[j] (List.getElem?_eq_getElem hjl)
            refine hr.one ?_
            have hm : (flat ys)[j] ∈ flat ys := List.getElem_mem _
            simp only [flat, List.mem_flatMap] at hm
            obtain ⟨v', hv', hm⟩ := hm
            exact List.all_eq_true.1 (List.all_eq_true.1 c4 v' hv') _ hm
          have hfit : len * i.size + 0 + news.length ≤ c.size := by
            rw [hnl, hfl, Nat.add_zero, ← Nat.add_mul]; omega
          obtain ⟨w', c', hst, hrow, hsz, hcc, e1, e2, e3, e4, e5⟩ := run_storeCells_row (P := P) (o := len * i.size) news 0 c w h2 hu' hfit hone
          have hrun := run_append_roomG (P := P) (ty := ty) ht hu hd' hie S (b := b) (sLen := len) (sCap := cap') (by omega) hst
          have hlen : (putA cs (len * i.size) (flat ys)).length = cs.length := by
            simp only [putA, List.length_append, List.length_take, List.length_drop, hfl]
            have := Nat.add_mul len ys.length i.size
            omega
          obtain ⟨g1, g2⟩ := hi.write hob h1 hrow (cs := putA cs (len * i.size) (flat ys)) (by omega) (fun o ho' => hu' o (by rw [← hsz]; exact ho')) (fun j y hy => by
            rw [hcc j]
            simp only [Nat.add_zero, hnl]
            simp only [putA] at hy
            have hlt : len * i.size ≤ cs.length := by have := Nat.add_mul len ys.length i.size; omega
            by_cases hin : len * i.size ≤ j ∧ j < len * i.size + (flat ys).length
            · rw [if_pos hin]
              have : (flat ys)[j - len * i.size]? = some y := by
                rw [List.getElem?_append_left (by simp; omega), List.getElem?_append_right (by simp; omega)] at hy
                simpa [show min (len * i.size) cs.length = len * i.size by omega] using hy
              exact hnr _ y this
            · rw [if_neg hin]
              refine h4 j y ?_
              by_cases hj1 : j < len * i.size
              · rw [List.append_assoc, List.getElem?_append_left (by simp; omega)] at hy
                simpa [List.getElem?_take, hj1] using hy
              · have hge : len * i.size + (flat ys).length ≤ j := by omega
                rw [List.getElem?_append_right (by simp; omega)] at hy
                simp only [List.length_append, List.length_take, List.getElem?_drop] at hy
                rw [← hy]
                congr 1
                omega) e1 e2 e3 e4 e5
          exact ⟨G, _, w', hrun, g1, g2, .msl (Nat.lt_of_lt_of_le hn (Nat.le_refl _)) hb hcap⟩
      · cases h
end
end Go.Proofs.Ytihbdelgoapeoaa.K
/- Conversions between texts and bytes, len and its like; every operation but a call of a function. -/
namespace Go.Proofs.Ytihbdelgoapeoaa.K
open Go Go.RowKit
set_option linter.unusedSimpArgs false
set_option linter.unusedVariables false

def bytesA : List AV → Option (List Int)
  | [] => some []
  | .int .u8 n :: l => (bytesA l).map (n :: ·)
  | _ => none

def isU8 (P : Program) (e : TypeId) : Bool :=
  match P.underlying e with
  | some (.int .u8) => true
  | _ => false

def convA (P : Program) (s : Fr) (σ : Mem) (src dst : TypeId) (x : Operand) : Option (AV × Mem) :=
  (ev s x).bind fun
  | .sl l _ =>
    match P.underlying src, P.underlying dst with
    | some (.slice e), some .string => if isU8 P e = true then (bytesA l).map fun ns => (.str (strOfNums ns), σ) else none
    | _, _ => none
  | .str t =>
    match P.underlying src, P.underlying dst with
    | some .string, some (.slice e) => if isU8 P e = true ∧ t.size ≤ 9223372036854775807 then some (.sl (strElems t) (.live σ.length), σ ++ [AO.tok true]) else none
    | _, _ => none
  | _ => none

/-- A builtin of plain values. -/
def plainB (P : Program) (s : Fr) (b : Builtin) (c : Call) (ty : TypeId) (xs : List Operand) : Option AV :=
  (xs.mapM (evV s)).bind fun vs => (pureRun P (builtin b c.argTypes ty (c.args.map fun | .const _ => true | _ => false) vs.toArray)).bind fun
    | .value r => ofConst r
    | _ => none

def lenT (P : Program) (t : TypeId) (n : Nat) : Option AV :=
  match P.underlying t with
  | some (.slice _) => some (.int .i64 n)
  | _ => none

/-- append, to a list that stays or to one that changes. -/
def appendX (P : Program) (σ : Mem) (t u : TypeId) (x y : AV) : Option (AV × Mem) :=
  match appendA P σ t u x y with
  | some r => some r
  | none => appendM P σ t u x y
theorem appendX_of {P : Program} {σ : Mem} {t u : TypeId} {x y : AV} {r : AV × Mem} (h : appendA P σ t u x y = some r) : appendX P σ t u x y = some r := by simp [appendX, h]

/-- A builtin that leaves the memory alone. -/
def callV (P : Program) (s : Fr) (b : Builtin) (c : Call) (ty : TypeId) : Option AV :=
  match b, c.args.toList, c.argTypes.toList with
  | .len, [x], t :: _ => (ev s x).bind fun
    | .sl l _ => lenT P t l.length
    | .msl _ _ n _ => lenT P t n
    | _ => plainB P s .len c ty [x]
  | b, xs, _ => plainB P s b c ty xs

def callB (P : Program) (s : Fr) (σ : Mem) (c : Call) (ty : TypeId) : Option (AV × Mem) :=
  match c.callee with
  | .builtin .append =>
    match c.args.toList, c.argTypes.toList with
    | [x, y], [t, u] => (ev s x).bind fun vx => (ev s y).bind fun vy => appendX P σ t u vx vy
    | _, _ => none
  | .builtin b => (callV P s b c ty).map fun v => (v, σ)
  | _ => none

/-- Every operation but a call of a function. -/
def plainOp (P : Program) (s : Fr) (σ : Mem) (op : Op) (ty : TypeId) : Option (AV × Mem) :=
  match op with
  | .binOp .. | .unOp .. => (pureOp P s op).map fun v => (v, σ)
  | .convert a b x => match ev s x with
    | some (.sl _ _) => convA P s σ a b x
    | some (.str t) => match P.underlying b with
      | some (.slice _) => convA P s σ a b x
      | _ => (pureOp P s op).map fun v => (v, σ)
    | _ => (pureOp P s op).map fun v => (v, σ)
  | .slice _ x .. => match ev s x with
    | some (.sl _ _) | some (.msl ..) | some (.ptr ..) => memOp P s σ op
    | _ => (pureOp P s op).map fun v => (v, σ)
  | .index _ x _ => match ev s x with
    | some (.agg _) => memOp P s σ op
    | _ => (pureOp P s op).map fun v => (v, σ)
  | .call c => callB P s σ c ty
  | op => memOp P s σ op

section
variable {P : Program} {G : Gh} {σ : Mem} {w : World} {s : Fr} {a : Act} {o : Oper}

theorem isU8_spec {e : TypeId} (h : isU8 P e = true) : P.underlying e = some (.int .u8) := by
  unfold isU8 at h
  split at h
  · assumption
  · cases h

theorem bytesA_spec : ∀ {l : List AV} {ns : List Int}, bytesA l = some ns → l = ns.map (AV.int .u8)
  | [], ns, h => by simp [bytesA] at h; subst h; rfl
  | x :: l, ns, h => by
    cases x <;> (try simp only [bytesA, reduceCtorEq] at h)
    rename_i k n
    cases k <;> simp only [bytesA, reduceCtorEq, Option.map_eq_some_iff] at h
    obtain ⟨ms, hm, rfl⟩ := h
    rw [bytesA_spec hm]
    rfl

theorem run_bytes_string {src dst e : TypeId} (hs : P.underlying src = some (.slice e)) (he : P.underlying e = some (.int .u8)) (hd : P.underlying dst = some .string) {b : Addr} {len cap : Nat} {xs : List Int} (hlen : xs.length = len)
    (hcell : ∀ i, i < len → w.cell? (b.add i) = some (.int .u8 (xs.getD i 0))) : (convert src dst (.slice (some b) len cap)).run P w = .ok (.string (strOfNums xs)) w := by
  by_cases h0 : len = 0
  · subst h0
    have hx : xs = [] := List.eq_nil_of_length_eq_zero hlen
    subst hx
    simp [convert, run_underlying hs, run_underlying he, run_underlying hd, Conv.bytesToString, loadCells, loadCellsFrom]
    rfl
  · have hsp : b.spot = none := by
      have := hcell 0 (by omega)
      rw [show b.add 0 = b by simp [Addr.add]] at this
      exact cell?_spot this
    obtain ⟨bb, oo, ss⟩ := b
    simp only at hsp
    subst hsp
    exact run_convert_bytes_arg w src e hs he bb oo len cap xs hlen (fun i hi => by have := hcell i hi; rwa [add_plain'] at this) dst hd

theorem fresh_rowG (hi : InvH G σ w) {w' : World} {B : Nat} {C : Array Value} {e : TypeId} {fr : Nat × Nat} {zs : List AV} {z cap : Nat} (hbel : Below w.heap.size w w') (hB : w.heap.size ≤ B) (hrow : w'.heap[B]? = some (.cells C e fr)) (hun : Unfrozen C fr)
    (hz : ∀ x ∈ zs, x.cells.length = z) (h0 : 0 < z) (hC : C.size = cap * z) (hn : zs.length ≤ cap) (hm : cap ≤ maxLen)
    (hr : ∀ i x, (flat zs)[i]? = some x → Rel G w x (C.getD i undef)) :
    ∃ G', InvH G' (σ ++ [.tok true]) w' ∧ Evo G w G' w' ∧ Rel G' w' (.sl zs (.live σ.length)) (.slice (some ⟨B, 0, none⟩) zs.length cap) := by
  have hnew : New G w w' none (some ⟨B, e, z, cap, zs.length⟩) (.tok true) := by
    refine ⟨hbel, fun b hb => (by cases hb), fun cs hc => (by cases hc), fun i hii => ?_, fun _ => ⟨_, rfl⟩⟩
    cases hii
    exact ⟨rfl, hB, C, fr, hrow, hun, hC, hn, hm, h0⟩
  have ev := hnew.evo
  have hcell : zs.length * z ≤ C.size := by rw [hC]; exact Nat.mul_le_mul_right _ hn
  refine ⟨_, hnew.inv hi, ev, .sl z (fun i => C.getD i undef) rfl (by omega) hz ?_ (fun i x hx => (hr i x hx).evo ev) (fun h => by cases h) hn ?_⟩
  · intro i hil
    rw [add_plain', Nat.zero_add]
    refine ⟨cell_row hrow (by omega), fun id hlt => ?_, fun t j hlt htj hb => ?_⟩
    · simp only [Gh.add] at hlt ⊢
      split
      · intro h; cases h
      · intro h
        have := hi.lt_of_cells (by omega) h
        omega
    · simp only [Gh.add] at hlt htj
      split at htj
      · cases htj
        exact hil
      · have := hi.lt_of_tok (by omega) htj
        simp only at hb
        omega
  · intro k hk
    cases hk
    refine ⟨by show σ.length < G.n + 1; rw [hi.n]; omega, fun i hti => ?_⟩
    simp only [Gh.add] at hti
    rw [if_pos hi.n.symm] at hti
    cases hti
    exact ⟨rfl, rfl, rfl, .inr rfl⟩

/-- The machine's bytes of a text. -/
def strVals (t : ByteArray) : Array Value := t.data.map fun b => Value.int .u8 (b.toNat : Int)

theorem run_string_bytes {src dst e : TypeId} (hs : P.underlying src = some .string) (hd : P.underlying dst = some (.slice e)) (he : P.underlying e = some (.int .u8)) {t : ByteArray} (hsz : t.size ≤ 9223372036854775807) :
    ∃ w', (convert src dst (.string t)).run P w = .ok (.slice (some ⟨w.heap.size, 0, none⟩) t.size (grownCap w t.size 0 e)) w' ∧ Below w.heap.size w w' ∧
      w'.heap[w.heap.size]? = some (.cells (strVals t ++ Array.replicate (grownCap w t.size 0 e - t.size) (.int .u8 0)) e (grownCap w t.size 0 e, grownCap w t.size 0 e + 1)) := by
  have hge := grownCap_ge w t.size 0 e
  have hsize : (strVals t ++ Array.replicate (grownCap w t.size 0 e - t.size) (Value.int .u8 0)).size = grownCap w t.size 0 e := by
    have : (strVals t).size = t.size := by simp [strVals]
    simp [this]
    omega
  have hshape : (w.drew.alloc (.cells (strVals t ++ Array.replicate (grownCap w t.size 0 e - t.size) (.int .u8 0)) e)).shape? w.heap.size = some (e, grownCap w t.size 0 e) := by
    have h2 := heap_alloc_new w.drew (.cells (strVals t ++ Array.replicate (grownCap w t.size 0 e - t.size) (.int .u8 0)) e)
    have h3 : (w.drew.alloc (.cells (strVals t ++ Array.replicate (grownCap w t.size 0 e - t.size) (.int .u8 0)) e)).heap[w.heap.size]? = some (.cells (strVals t ++ Array.replicate (grownCap w t.size 0 e - t.size) (.int .u8 0)) e) := h2
    unfold World.shape?
    rw [h3]
    simp only [hsize]
  refine ⟨(w.drew.alloc (.cells (strVals t ++ Array.replicate (grownCap w t.size 0 e - t.size) (.int .u8 0)) e)).freeze ⟨w.heap.size, grownCap w t.size 0 e, none⟩ 1, ?_, ?_, ?_⟩
  · have hrun : (Conv.stringToBytes e t).run P w = .ok (.slice (some ⟨w.heap.size, 0, none⟩) t.size (grownCap w t.size 0 e)) ((w.drew.alloc (.cells (strVals t ++ Array.replicate (grownCap w t.size 0 e - t.size) (.int .u8 0)) e)).freeze ⟨w.heap.size, grownCap w t.size 0 e, none⟩ 1) := by
      have e1 : (choose (.appendCap t.size 0 e)).run P w = .ok (grownCap w t.size 0 e) w.drew := by
        simp only [choose, Sem.run, Question.forced, grownCap]
        rfl
      unfold Conv.stringToBytes
      simp only [Sem.run_bind, e1, Result.andThen_ok, newRow]
      simp only [newObj, Sem.run, Result.andThen_ok, Sem.run_pure, Sem.run_bind]
      have e2 : ({ w.drew with heap := w.drew.heap.push (.cells ((Array.map (fun b : UInt8 => Value.int .u8 (b.toNat : Int)) t.data) ++ Array.replicate (grownCap w t.size 0 e - t.size) (.int .u8 0)) e) } : World) = w.drew.alloc (.cells (strVals t ++ Array.replicate (grownCap w t.size 0 e - t.size) (.int .u8 0)) e) := rfl
      have e3 : w.drew.heap.size = w.heap.size := rfl
      simp only [e2, e3, markStringish, shape, Sem.run_bind, Sem.run, hshape, Result.andThen_ok, freeze]
    unfold convert
    simp [run_underlying hs, run_underlying hd, run_underlying he, hrun]
  · have hb : Below w.heap.size w (w.drew.alloc (.cells (strVals t ++ Array.replicate (grownCap w t.size 0 e - t.size) (.int .u8 0)) e)) := below_drew_alloc w _
    refine ⟨hb.os, hb.tape, hb.output, ?_, ?_⟩
    · have := hb.size
      simp only [World.freeze]
      simp
    · intro k hk
      rw [← hb.block k hk]
      simp only [World.freeze]
      rw [if_neg (by decide)]
      simp only [Array.getElem?_modify]
      rw [if_neg (by show ¬ (w.heap.size = k); omega)]
  · have h2 := heap_alloc_new w.drew (.cells (strVals t ++ Array.replicate (grownCap w t.size 0 e - t.size) (.int .u8 0)) e)
    have h3 : (w.drew.alloc (.cells (strVals t ++ Array.replicate (grownCap w t.size 0 e - t.size) (.int .u8 0)) e)).heap[w.heap.size]? = some (.cells (strVals t ++ Array.replicate (grownCap w t.size 0 e - t.size) (.int .u8 0)) e) := h2
    simp only [World.freeze]
    rw [if_neg (by decide)]
    simp only [Array.getElem?_modify, if_true, h3]
    simp

end
end Go.Proofs.Ytihbdelgoapeoaa.K
