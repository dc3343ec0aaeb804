/- Abstract values and what the machine makes of them: part F. -/
import Derived.Test.YtihbdelgoapeoaaKKE
import Derived.Test.YtihbdelgoapeoaaF0
/- Typed values over abstract ones; what is held of the memory. -/
namespace Go.Proofs.Ytihbdelgoapeoaa.K
open Go Go.RowKit F
set_option linter.unusedSimpArgs false
set_option linter.unusedVariables false

/-! ### Younger memories -/
/-- What was there is as it was. -/
def Ext (σ τ : Mem) : Prop := σ.length ≤ τ.length ∧ ∀ i, i < σ.length → τ[i]? = σ[i]?
theorem Ext.refl (σ : Mem) : Ext σ σ := ⟨Nat.le_refl _, fun _ _ => rfl⟩
theorem Ext.trans {σ τ υ : Mem} (h : Ext σ τ) (k : Ext τ υ) : Ext σ υ := ⟨Nat.le_trans h.1 k.1, fun i hi => (k.2 i (Nat.lt_of_lt_of_le hi h.1)).trans (h.2 i hi)⟩
theorem Ext.get {σ τ : Mem} (h : Ext σ τ) {i : Nat} {o : AO} (hi : σ[i]? = some o) : τ[i]? = some o := by
  rw [h.2 i (List.getElem?_eq_some_iff.1 hi).1]; exact hi
theorem Ext.app (σ l : Mem) : Ext σ (σ ++ l) := ⟨by simp, fun i hi => by rw [List.getElem?_append_left hi]⟩

/-! ### Typed values -/
/-- One by one. -/
def All2 {α β : Type} (r : α → β → Prop) : List α → List β → Prop
  | [], [] => True
  | a :: as, b :: bs => r a b ∧ All2 r as bs
  | _, _ => False
section
variable {α β : Type} {r : α → β → Prop}
theorem All2.length : ∀ {as : List α} {bs : List β}, All2 r as bs → as.length = bs.length
  | [], [], _ => rfl
  | _ :: _, _ :: _, h => by simp [All2.length h.2]
theorem All2.get : ∀ {as : List α} {bs : List β}, All2 r as bs → ∀ {i : Nat} {b : β}, bs[i]? = some b → ∃ a, as[i]? = some a ∧ r a b
  | [], [], _, i, b, h => by simp at h
  | a :: as, b :: bs, h, 0, c, hc => by simp at hc; subst hc; exact ⟨a, rfl, h.1⟩
  | a :: as, b :: bs, h, i + 1, c, hc => by simpa using All2.get h.2 (i := i) (b := c) (by simpa using hc)
theorem All2.append : ∀ {as : List α} {bs : List β} {cs : List α} {ds : List β}, All2 r as bs → All2 r cs ds → All2 r (as ++ cs) (bs ++ ds)
  | [], [], _, _, _, k => k
  | _ :: _, _ :: _, _, _, h, k => ⟨h.1, All2.append h.2 k⟩
theorem All2.take : ∀ {as : List α} {bs : List β}, All2 r as bs → ∀ n, All2 r (as.take n) (bs.take n)
  | [], [], _, n => by simp [All2]
  | _ :: _, _ :: _, _, 0 => trivial
  | _ :: _, _ :: _, h, n + 1 => ⟨h.1, All2.take h.2 n⟩
theorem All2.drop : ∀ {as : List α} {bs : List β}, All2 r as bs → ∀ n, All2 r (as.drop n) (bs.drop n)
  | [], [], _, n => by simp [All2]
  | _ :: _, _ :: _, h, 0 => h
  | _ :: _, _ :: _, h, n + 1 => All2.drop h.2 n
theorem All2.imp {r' : α → β → Prop} (hr : ∀ a b, r a b → r' a b) : ∀ {as : List α} {bs : List β}, All2 r as bs → All2 r' as bs
  | [], [], _ => trivial
  | _ :: _, _ :: _, h => ⟨hr _ _ h.1, All2.imp hr h.2⟩
theorem All2.of_map (f : β → α) (hf : ∀ b, r (f b) b) : ∀ bs : List β, All2 r (bs.map f) bs
  | [] => trivial
  | b :: bs => ⟨hf b, All2.of_map f hf bs⟩
theorem All2.eq_map (f : β → α) (hf : ∀ a b, r a b → a = f b) : ∀ {as : List α} {bs : List β}, All2 r as bs → as = bs.map f
  | [], [], _ => rfl
  | _ :: _, _ :: _, h => by rw [List.map_cons, ← hf _ _ h.1, ← All2.eq_map f hf h.2]
theorem All2.mem : ∀ {as : List α} {bs : List β}, All2 r as bs → ∀ a ∈ as, ∃ b, r a b
  | [], [], _, a, h => by simp at h
  | _ :: _, _ :: _, h, a, ha => by
    rcases List.mem_cons.1 ha with rfl | ha
    · exact ⟨_, h.1⟩
    · exact All2.mem h.2 a ha
end

/-- How values of a type are laid. -/
structure Enc (α : Type) where
  rel : AV → α → Prop
  size : Nat
  sz : ∀ v a, rel v a → v.cells.length = size
  one : ∀ v a, rel v a → v.cells.all AV.one = true

/-- The text of these bytes. -/
def bs (l : Str) : ByteArray := ⟨l.toArray⟩
theorem bs_size (l : Str) : (bs l).size = l.length := by simp [bs, ByteArray.size]
theorem bs_get (l : Str) (i : Nat) : (bs l)[i]? = l[i]? := by
  by_cases h : i < l.length
  · rw [getElem?_pos (bs l) i (by rw [bs_size]; exact h), List.getElem?_eq_getElem h]; rfl
  · rw [getElem?_neg (bs l) i (by rw [bs_size]; exact h), List.getElem?_eq_none (by omega)]
theorem bs_toList (l : Str) : (bs l).toList = l := by rw [ByteArray.toList_eq]; simp [bs]
theorem bs_of (s : ByteArray) : bs s.data.toList = s := by simp [bs]
theorem bs_inj {a b : Str} (h : bs a = bs b) : a = b := by
  have := congrArg (fun s => s.data.toList) h
  simpa [bs] using this

def eI (k : IntKind) : Enc Int := ⟨fun v n => v = .int k n, 1, by rintro _ _ rfl; rfl, by rintro _ _ rfl; rfl⟩
def eB : Enc Bool := ⟨fun v b => v = .bool b, 1, by rintro _ _ rfl; rfl, by rintro _ _ rfl; rfl⟩
def eS : Enc Str := ⟨fun v l => v = .str (bs l), 1, by rintro _ _ rfl; rfl, by rintro _ _ rfl; rfl⟩
def eY : Enc UInt8 := ⟨fun v b => v = .int .u8 b.toNat, 1, by rintro _ _ rfl; rfl, by rintro _ _ rfl; rfl⟩
def eF : Enc Nat := ⟨fun v n => v = .float .f64 n, 1, by rintro _ _ rfl; rfl, by rintro _ _ rfl; rfl⟩

/-- A list: nil, or its elements. -/
def RS {α : Type} (E : Enc α) (u : AV) (l : List α) : Prop := (u = .nils ∧ l = []) ∨ ∃ vs tk, u = .sl vs tk ∧ All2 E.rel vs l
def eL {α : Type} (E : Enc α) : Enc (List α) := ⟨RS E, 1, by rintro _ _ (⟨rfl, rfl⟩ | ⟨vs, tk, rfl, h⟩) <;> rfl, by rintro _ _ (⟨rfl, rfl⟩ | ⟨vs, tk, rfl, h⟩) <;> rfl⟩
section
variable {α : Type} {E : Enc α} {u : AV} {l : List α}
theorem RS.nil (E : Enc α) : RS E .nils [] := .inl ⟨rfl, rfl⟩
theorem RS.of {vs : List AV} {tk : Tok} (h : All2 E.rel vs l) : RS E (.sl vs tk) l := .inr ⟨vs, tk, rfl, h⟩
theorem RS.cells (h : RS E u l) : u.cells = [u] := by rcases h with ⟨rfl, rfl⟩ | ⟨vs, tk, rfl, h⟩ <;> rfl
theorem All2.sizeOK {vs : List AV} (h : All2 E.rel vs l) : sizeOK E.size vs = true := by
  cases vs with
  | nil => rfl
  | cons v vs => cases l with
    | nil => exact h.elim
    | cons a l => simp [K.sizeOK, E.sz _ _ h.1]
theorem All2.ones {vs : List AV} (h : All2 E.rel vs l) : (vs.all fun v => v.cells.all AV.one) = true := by
  rw [List.all_eq_true]
  intro v hv
  obtain ⟨a, ha⟩ := h.mem v hv
  exact E.one _ _ ha
end

/-! ### What is held -/
/-- Cells that may be written; a list that may be appended to. -/
inductive Res where
  | obj (id : Nat) (cs : List AV)
  | buf (u : AV)

def Res.ids : Res → List Nat
  | .obj id _ => [id]
  | .buf (.sl _ (.live t)) => [t]
  | .buf _ => []

def Res.ok (σ : Mem) : Res → Prop
  | .obj id cs => σ[id]? = some (.cells cs)
  | .buf u => u = .nils ∨ (∃ l, u = .sl l .full) ∨ ∃ l t, u = .sl l (.live t) ∧ l ≠ [] ∧ σ[t]? = some (.tok true)

def idsL (L : List Res) : List Nat := L.flatMap Res.ids

/-- Since σ0 nothing but W has changed; and this is held. -/
structure Own (σ0 : Mem) (W : List Nat) (σ : Mem) (L : List Res) : Prop where
  len : σ0.length ≤ σ.length
  old : ∀ i, i < σ0.length → i ∉ W → σ[i]? = σ0[i]?
  ok : ∀ r ∈ L, r.ok σ
  nodup : (idsL L).Nodup
  loc : ∀ i ∈ idsL L, i < σ0.length → i ∈ W

section
variable {σ0 σ σ' : Mem} {W : List Nat} {L F L' : List Res}

theorem Own.start (σ : Mem) : Own σ [] σ [] := ⟨Nat.le_refl _, fun _ _ _ => rfl, fun r h => by simp at h, by simp [idsL], fun i h => by simp [idsL] at h⟩
theorem Own.startW (h : ∀ r ∈ L, r.ok σ) (hn : (idsL L).Nodup) : Own σ (idsL L) σ L := ⟨Nat.le_refl _, fun _ _ _ => rfl, h, hn, fun i hi _ => hi⟩
theorem Own.ext (h : Own σ0 [] σ L) : Ext σ0 σ := ⟨h.len, fun i hi => h.old i hi (by simp)⟩
theorem Own.of_ext (h : Ext σ0 σ) : Own σ0 [] σ [] := ⟨h.1, fun i hi _ => h.2 i hi, fun r h => by simp at h, by simp [idsL], fun i h => by simp [idsL] at h⟩

theorem Res.ids_lt {r : Res} (h : r.ok σ) : ∀ i ∈ r.ids, i < σ.length := by
  cases r with
  | obj id cs =>
    intro i hi
    simp [Res.ids] at hi
    subst hi
    exact (List.getElem?_eq_some_iff.1 h).1
  | buf u =>
    rcases h with rfl | ⟨l, rfl⟩ | ⟨l, t, rfl, hl, ht⟩ <;> intro i hi <;> simp [Res.ids] at hi
    subst hi
    exact (List.getElem?_eq_some_iff.1 ht).1

theorem Own.lt (h : Own σ0 W σ L) : ∀ i ∈ idsL L, i < σ.length := by
  intro i hi
  obtain ⟨r, hr, hir⟩ := List.mem_flatMap.1 hi
  exact Res.ids_lt (h.ok r hr) i hir

theorem Res.ok_of {r : Res} (h : r.ok σ) (hs : ∀ i ∈ r.ids, σ'[i]? = σ[i]?) : r.ok σ' := by
  cases r with
  | obj id cs => exact (hs id (by simp [Res.ids])).trans h
  | buf u =>
    rcases h with rfl | ⟨l, rfl⟩ | ⟨l, t, rfl, hl, ht⟩
    · exact .inl rfl
    · exact .inr (.inl ⟨l, rfl⟩)
    · exact .inr (.inr ⟨l, t, rfl, hl, (hs t (by simp [Res.ids])).trans ht⟩)

theorem idsL_perm (h : L.Perm L') : (idsL L).Perm (idsL L') := h.flatMap_right _

theorem Own.perm (h : Own σ0 W σ L) (hp : L'.Perm L) : Own σ0 W σ L' :=
  ⟨h.len, h.old, fun r hr => h.ok r (hp.mem_iff.1 hr), (idsL_perm hp).nodup_iff.2 h.nodup, fun i hi => h.loc i ((idsL_perm hp).mem_iff.1 hi)⟩

theorem perm_front {α : Type} : ∀ {l : List α} {k : Nat} {a : α}, l[k]? = some a → (a :: l.eraseIdx k).Perm l
  | [], k, a, h => by simp at h
  | b :: l, 0, a, h => by simp at h; subst h; exact List.Perm.refl _
  | b :: l, k + 1, a, h => by
    simp at h
    have := perm_front h
    simp only [List.eraseIdx_cons_succ]
    exact (List.Perm.swap _ _ _).trans (this.cons b)

/-- The k-th thing first. -/
theorem Own.front (h : Own σ0 W σ L) (k : Nat) {r : Res} (hr : L[k]? = some r) (hF : L.eraseIdx k = F) : Own σ0 W σ (r :: F) := by
  subst hF
  exact h.perm (perm_front hr)

theorem idsL_append (L F : List Res) : idsL (L ++ F) = idsL L ++ idsL F := by simp [idsL]
theorem idsL_cons (r : Res) (F : List Res) : idsL (r :: F) = r.ids ++ idsL F := by simp [idsL]

/-- A step that changes what is held in front, and nothing else that was there. -/
theorem Own.step {A A' : List Res} (h : Own σ0 W σ (A ++ F)) (hl : σ.length ≤ σ'.length) (ho : ∀ i, i < σ.length → i ∉ idsL A → σ'[i]? = σ[i]?)
    (hk : ∀ r ∈ A', r.ok σ') (hn : (idsL A').Nodup) (hloc : ∀ i ∈ idsL A', i < σ.length → i ∈ idsL A) : Own σ0 W σ' (A' ++ F) := by
  have hd : ∀ i ∈ idsL F, i ∉ idsL A := by
    intro i hi hA
    have := h.nodup
    rw [idsL_append, List.nodup_append] at this
    exact this.2.2 i hA i hi rfl
  have hF : ∀ i ∈ idsL F, i < σ.length := fun i hi => h.lt i (by rw [idsL_append]; exact List.mem_append_right _ hi)
  refine ⟨Nat.le_trans h.len hl, fun i hi hW => ?_, fun r hr => ?_, ?_, fun i hi hi0 => ?_⟩
  · rw [ho i (Nat.lt_of_lt_of_le hi h.len) (fun hA => hW (h.loc i (by rw [idsL_append]; exact List.mem_append_left _ hA) hi))]
    exact h.old i hi hW
  · rcases List.mem_append.1 hr with hr | hr
    · exact hk r hr
    · have hok := h.ok r (List.mem_append_right _ hr)
      refine Res.ok_of hok fun i hi => ho i (Res.ids_lt hok i hi) (hd i ?_)
      exact List.mem_flatMap.2 ⟨r, hr, hi⟩
  · rw [idsL_append, List.nodup_append]
    refine ⟨hn, ?_, ?_⟩
    · have := h.nodup
      rw [idsL_append, List.nodup_append] at this
      exact this.2.1
    · rintro i hi j hj rfl
      exact hd i hj (hloc i hi (hF i hj))
  · rw [idsL_append] at hi
    rcases List.mem_append.1 hi with hi | hi
    · have hlt := Nat.lt_of_lt_of_le hi0 h.len
      exact h.loc i (by rw [idsL_append]; exact List.mem_append_left _ (hloc i hi hlt)) hi0
    · exact h.loc i (by rw [idsL_append]; exact List.mem_append_right _ hi) hi0

theorem Own.drop1 {r : Res} (h : Own σ0 W σ (r :: F)) : Own σ0 W σ F :=
  ⟨h.len, h.old, fun q hq => h.ok q (List.mem_cons_of_mem _ hq), (by have := h.nodup; rw [idsL_cons, List.nodup_append] at this; exact this.2.1), fun i hi => h.loc i (by rw [idsL_cons]; exact List.mem_append_right _ hi)⟩
theorem Own.nil (h : Own σ0 W σ L) : Own σ0 W σ [] := ⟨h.len, h.old, fun r h => by simp at h, by simp [idsL], fun i h => by simp [idsL] at h⟩
theorem Own.buf0 (h : Own σ0 W σ F) : Own σ0 W σ (.buf .nils :: F) :=
  ⟨h.len, h.old, fun r hr => by rcases List.mem_cons.1 hr with rfl | hr; exact .inl rfl; exact h.ok r hr, by rw [idsL_cons]; simpa [Res.ids] using h.nodup, fun i hi => h.loc i (by rw [idsL_cons] at hi; simpa [Res.ids] using hi)⟩
theorem Own.bufFull (vs : List AV) (h : Own σ0 W σ F) : Own σ0 W σ (.buf (.sl vs .full) :: F) :=
  ⟨h.len, h.old, fun r hr => by rcases List.mem_cons.1 hr with rfl | hr; exact .inr (.inl ⟨vs, rfl⟩); exact h.ok r hr, by rw [idsL_cons]; simpa [Res.ids] using h.nodup, fun i hi => h.loc i (by rw [idsL_cons] at hi; simpa [Res.ids] using hi)⟩

theorem Own.alloc (h : Own σ0 W σ F) (cs : List AV) : Own σ0 W (σ ++ [.cells cs]) (.obj σ.length cs :: F) := by
  refine Own.step (A := []) (A' := [.obj σ.length cs]) h (by simp) (fun i hi _ => by rw [List.getElem?_append_left hi]) (fun r hr => ?_) (by simp [idsL, Res.ids]) (fun i hi hlt => ?_)
  · simp at hr; subst hr; simp [Res.ok]
  · simp [idsL, Res.ids] at hi; omega
theorem Own.set {id : Nat} {cs : List AV} (h : Own σ0 W σ (.obj id cs :: F)) (cs' : List AV) : Own σ0 W (σ.set id (.cells cs')) (.obj id cs' :: F) := by
  have hid : id < σ.length := h.lt id (by simp [idsL, Res.ids])
  refine Own.step (A := [.obj id cs]) (A' := [.obj id cs']) h (by simp) (fun i hi hA => ?_) (fun r hr => ?_) (by simp [idsL, Res.ids]) (fun i hi hlt => by simpa [idsL, Res.ids] using hi)
  · rw [List.getElem?_set, if_neg]; simp [idsL, Res.ids] at hA; exact fun e => hA e.symm
  · simp at hr; subst hr; simp [Res.ok, hid]
/-- A call that changes nothing that was there. -/
theorem Own.ext_call (h : Own σ0 W σ F) (hX : Ext σ σ') : Own σ0 W σ' F := by
  refine Own.step (A := []) (A' := []) h hX.1 (fun i hi _ => hX.2 i hi) (fun r hr => by simp at hr) (by simp [idsL]) (fun i hi => by simp [idsL] at hi)
/-- A call that is handed A, and hands back A'. -/
theorem Own.call {A A' : List Res} (h : Own σ0 W σ (A ++ F)) (hc : Own σ (idsL A) σ' A') : Own σ0 W σ' (A' ++ F) :=
  Own.step h hc.len hc.old hc.ok hc.nodup hc.loc
theorem Own.obj {id : Nat} {cs : List AV} (h : Own σ0 W σ L) (k : Nat) (hr : L[k]? = some (.obj id cs)) : σ[id]? = some (.cells cs) := h.ok _ (List.mem_of_getElem? hr)
theorem Own.get0 {i : Nat} {o : AO} (h : Own σ0 W σ L) (hi : σ0[i]? = some o) (hW : i ∉ W) : σ[i]? = some o := by
  rw [h.old i (List.getElem?_eq_some_iff.1 hi).1 hW]; exact hi
theorem Own.ne0 {i id : Nat} {o : AO} {cs : List AV} (h : Own σ0 W σ L) (hi : σ0[i]? = some o) (hW : i ∉ W) (k : Nat) (hr : L[k]? = some (.obj id cs)) : i ≠ id := by
  rintro rfl
  exact hW (h.loc i (List.mem_flatMap.2 ⟨_, List.mem_of_getElem? hr, by simp [Res.ids]⟩) (List.getElem?_eq_some_iff.1 hi).1)
theorem nodup_flat_ne {L : List Res} (hn : (idsL L).Nodup) : ∀ {j k : Nat} {r s : Res}, L[j]? = some r → L[k]? = some s → j ≠ k → ∀ a ∈ r.ids, ∀ b ∈ s.ids, a ≠ b := by
  induction L with
  | nil => intro j k r s h; simp at h
  | cons q L ih =>
    rw [idsL_cons, List.nodup_append] at hn
    intro j k r s hj hk hne a ha b hb
    cases j with
    | zero =>
      cases k with
      | zero => exact absurd rfl hne
      | succ k =>
        simp at hj hk
        subst hj
        exact hn.2.2 a ha b (List.mem_flatMap.2 ⟨s, List.mem_of_getElem? hk, hb⟩)
    | succ j =>
      cases k with
      | zero =>
        simp at hj hk
        subst hk
        exact fun e => hn.2.2 b hb a (List.mem_flatMap.2 ⟨r, List.mem_of_getElem? hj, ha⟩) e.symm
      | succ k => exact ih hn.2.1 (by simpa using hj) (by simpa using hk) (fun e => hne (by rw [e])) a ha b hb
theorem Own.ne {i j : Nat} {cs ds : List AV} (h : Own σ0 W σ L) (p q : Nat) (hp : L[p]? = some (.obj i cs)) (hq : L[q]? = some (.obj j ds)) (hpq : p ≠ q) : i ≠ j :=
  nodup_flat_ne h.nodup hp hq hpq i (by simp [Res.ids]) j (by simp [Res.ids])
end
end Go.Proofs.Ytihbdelgoapeoaa.K
/- Rules for operations, by typed values and by what is held. -/
namespace Go.Proofs.Ytihbdelgoapeoaa.K
open Go Go.RowKit F
set_option linter.unusedSimpArgs false
set_option linter.unusedVariables false

/-- What a region reads of the memory, if it draws its order. -/
abbrev MD := Option (List (Nat × List AV))
def Bs (Lr : List (Nat × List AV)) : Mem → Prop := fun τ => ∀ p ∈ Lr, τ[p.1]? = some (.cells p.2)
def MD.to : MD → Option (Mem → Prop)
  | none => none
  | some Lr => some (Bs Lr)
theorem Bs.nil (τ : Mem) : Bs [] τ := fun p h => by simp at h
theorem Bs.cons {Lr : List (Nat × List AV)} {τ : Mem} {id : Nat} {cs : List AV} (h : τ[id]? = some (.cells cs)) (k : Bs Lr τ) : Bs ((id, cs) :: Lr) τ := fun p hp => by
  rcases List.mem_cons.1 hp with rfl | hp
  · exact h
  · exact k p hp
theorem Bs.of {Lr : List (Nat × List AV)} {σ τ : Mem} (h : Bs Lr σ) (hs : ∀ p ∈ Lr, p.1 < σ.length → τ[p.1]? = σ[p.1]?) : Bs Lr τ := fun p hp => by
  have := h p hp
  rw [hs p hp (List.getElem?_eq_some_iff.1 this).1]
  exact this
def MNe (md : MD) (id : Nat) : Prop := ∀ Lr, md = some Lr → ∀ p ∈ Lr, p.1 ≠ id
theorem MNe.none (id : Nat) : MNe none id := fun _ h => by cases h
theorem MNe.nil (id : Nat) : MNe (some []) id := fun _ h p hp => by cases h; simp at hp
theorem MNe.cons {i id : Nat} {cs : List AV} {Lr : List (Nat × List AV)} (h : i ≠ id) (k : MNe (some Lr) id) : MNe (some ((i, cs) :: Lr)) id := fun _ e p hp => by
  cases e
  rcases List.mem_cons.1 hp with rfl | hp
  · exact h
  · exact k _ rfl p hp

section
variable {md : MD} {σ σ' : Mem}
theorem MB_none (σ : Mem) : MB (MD.to none) σ := trivial
theorem MB_some {Lr : List (Nat × List AV)} (h : Bs Lr σ) : MB (MD.to (some Lr)) σ := h
theorem MB.of (h : MB md.to σ) (hs : ∀ Lr, md = some Lr → ∀ p ∈ Lr, p.1 < σ.length → σ[p.1]? = some (.cells p.2) → σ'[p.1]? = σ[p.1]?) : MB md.to σ' := by
  cases md with
  | none => trivial
  | some Lr => exact Bs.of h fun p hp hl => hs Lr rfl p hp hl (h p hp)
theorem MB.app (h : MB md.to σ) (l : Mem) : MB md.to (σ ++ l) := h.of fun _ _ p _ hl _ => List.getElem?_append_left hl
theorem MB.ext (h : MB md.to σ) (hX : Ext σ σ') : MB md.to σ' := h.of fun _ _ p _ hl _ => hX.2 _ hl
theorem MB.set {id : Nat} {o : AO} (h : MB md.to σ) (hn : MNe md id) : MB md.to (σ.set id o) := h.of fun Lr e p hp _ _ => by rw [List.getElem?_set, if_neg (fun e' => hn Lr e p hp e'.symm)]
theorem MB.tok {k : Nat} {b : Bool} {o : AO} (h : MB md.to σ) (hk : σ[k]? = some (.tok b)) : MB md.to (σ.set k o) := h.of fun Lr e p hp _ hc => by
  rw [List.getElem?_set, if_neg]
  rintro rfl
  rw [hk] at hc
  cases hc
theorem MC_none {id : Nat} {cs : List AV} (h : σ[id]? = some (.cells cs)) : MC (MD.to none) σ id cs := h
theorem MC_some {Lr : List (Nat × List AV)} {id : Nat} {cs : List AV} (k : Nat) (h : Lr[k]? = some (id, cs)) : MC (MD.to (some Lr)) σ id cs := fun τ hB => hB _ (List.mem_of_getElem? h)
end

section
variable {P : Program} {md : MD} {ops : Array Oper} {rest : List Oper} {R : AS → Prop} {n : Nat} {S : List (Nat × AV)} {df : List AD} {σ0 σ σ' : Mem} {W : List Nat} {L F : List Res} {d : Tmp} {op : Op} {bop : BinOp} {ty t yt e ft : TypeId} {ps : String} {af : Array Edge} {u v w : AV} {x y : Operand} {i f off z id o len : Nat} {cs cs' : List AV} {tk : Tok} {α : Type} {E : Enc α} {l l2 : List α} {a : α}

theorem TE_seqY {id : Nat} {l : List Oper} {x : AS} {Q : AE → AS → Prop} (h : TX P (MD.to none) l.toArray l x (Q .normal)) : TE P (.region id l.toArray false) x Q := TE_region h
theorem TE_drawY (Lr : List (Nat × List AV)) {id : Nat} {l : List Oper} {x : AS} {Q : AE → AS → Prop} (hm : P.follows .mixedOrders = true) (hok : okRegion l.toArray (effAt P l.toArray) = true) (hB : Bs Lr x.σ) (h : TX P (MD.to (some Lr)) l.toArray l x (Q .normal)) : TE P (.region id l.toArray true) x Q := TE_drawX (Bs Lr) hm hok hB h

theorem TY_alloc (hO : Own σ0 W σ L) (hM : MB md.to σ) (hz : zeroA P e = some v) (hc : v.cells = cs) (k : ∀ id σ', Own σ0 W σ' (.obj id cs :: L) → MB md.to σ' → TX P md.to ops rest ⟨fr n ((d, .ptr id 0) :: S), df, σ'⟩ R) :
    TX P md.to ops ({ dst := some d, op := .alloc e, type := ty, pos := ps, after := af, guard := none } :: rest) ⟨fr n S, df, σ⟩ R := by
  subst hc
  exact TX_alloc hz (hM.app _) (k _ _ (hO.alloc _) (hM.app _))
theorem TY_box (hO : Own σ0 W σ L) (hM : MB md.to σ) (hx : evS n S x = some v) (hc : v.cells = cs) (k : ∀ id σ', Own σ0 W σ' (.obj id cs :: L) → MB md.to σ' → TX P md.to ops rest ⟨fr n ((d, .ptr id 0) :: S), df, σ'⟩ R) :
    TX P md.to ops ({ dst := some d, op := .box e x, type := ty, pos := ps, after := af, guard := none } :: rest) ⟨fr n S, df, σ⟩ R := by
  subst hc
  exact TX_box hx (hM.app _) (k _ _ (hO.alloc _) (hM.app _))
theorem TY_store {vc : List AV} (hO : Own σ0 W σ (.obj id cs :: F)) (hM : MB md.to σ) (hN : MNe md id) (ha : evS n S x = some (.ptr id off)) (hx : evS n S y = some v) (hv : v.cells = vc) (hs : sizeA P t = some vc.length) (hl : off + vc.length ≤ cs.length) (ho : vc.all AV.one = true) (hc : putA cs off vc = cs')
    (k : ∀ σ', Own σ0 W σ' (.obj id cs' :: F) → MB md.to σ' → TX P md.to ops rest ⟨fr n S, df, σ'⟩ R) : TX P md.to ops ({ dst := none, op := .store t x y, type := ty, pos := ps, after := af, guard := none } :: rest) ⟨fr n S, df, σ⟩ R := by
  subst hc
  subst hv
  exact TX_store ha (hO.obj 0 rfl) hx hs hl ho (hM.set hN) (k _ (hO.set _) (hM.set hN))
/-- A call that changes nothing that was there. -/
theorem TY_call {c : Call} {g : FuncId} {args : List AV} {RV : AV → Prop} (hM : MB md.to σ) (hc : calleeS n S c = some (g, args)) (he : enters P g = true) (h : CallE P g args σ fun v σ' => RV v ∧ Ext σ σ')
    (k : ∀ v σ', RV v → Ext σ σ' → MB md.to σ' → TX P md.to ops rest ⟨fr n ((d, v) :: S), df, σ'⟩ R) : TX P md.to ops ({ dst := some d, op := .call c, type := ty, pos := ps, after := af, guard := none } :: rest) ⟨fr n S, df, σ⟩ R := by
  obtain ⟨v, σ', h1, h2, h3⟩ := h
  exact TX_call hc he h1 (hM.ext h3) (k v σ' h2 h3 (hM.ext h3))
/-- A call that is handed what is held in front. -/
theorem TY_callW {c : Call} {g : FuncId} {args : List AV} {Rc : AV → Mem → Prop} {A : List Res} (hM : MB md.to σ) (hN : ∀ i ∈ idsL A, MNe md i) (hc : calleeS n S c = some (g, args)) (he : enters P g = true) (h : CallE P g args σ Rc) (hR : ∀ v σ', Rc v σ' → ∃ A', Own σ (idsL A) σ' A')
    (k : ∀ v σ', Rc v σ' → MB md.to σ' → TX P md.to ops rest ⟨fr n ((d, v) :: S), df, σ'⟩ R) : TX P md.to ops ({ dst := some d, op := .call c, type := ty, pos := ps, after := af, guard := none } :: rest) ⟨fr n S, df, σ⟩ R := by
  obtain ⟨v, σ', h1, h2⟩ := h
  obtain ⟨A', hA⟩ := hR v σ' h2
  have hB : MB md.to σ' := hM.of fun Lr e p hp hl _ => hA.old _ hl fun hi => hN _ hi Lr e p hp rfl
  exact TX_call hc he h1 hB (k v σ' h2 hB)

/-! ### Lists -/
theorem TY_len {c : Call} (hc : c.callee = .builtin .len) (ha : c.args = #[x]) (htt : c.argTypes = #[t]) (hx : evS n S x = some u) (hR : RS E u l) (ht : P.underlying t = some (.slice e)) (kk : TX P md.to ops rest ⟨fr n ((d, .int .i64 l.length) :: S), df, σ⟩ R) :
    TX P md.to ops ({ dst := some d, op := .call c, type := ty, pos := ps, after := af, guard := none } :: rest) ⟨fr n S, df, σ⟩ R := by
  rcases hR with ⟨rfl, rfl⟩ | ⟨vs, tk, rfl, h⟩
  · refine TX_plain ?_ (by simp [effK, hc]) rfl kk
    have hr : ∀ cs, pureRun P (builtin .len #[t] ty cs #[.slice none 0 0]) = some (.value (.int .i64 0)) := by
      intro cs
      unfold builtin
      show pureRun P (Builtin.len_ #[t] ty #[.slice none 0 0] >>= _) = _
      have h1 : pureRun P (Builtin.len_ #[t] ty #[.slice none 0 0]) = some (.int .i64 0) := by
        show pureRun P (underlying t >>= _) = _
        rw [pureRun_bind (pureRun_under ht)]
        rfl
      rw [pureRun_bind h1]
      rfl
    simp only [plainOp, callB, hc, callV, ha, htt, ev_fr, hx, Option.bind, plainB, List.mapM_cons, List.mapM_nil, evV_of hx (r := .slice none 0 0) rfl, pure, bind, hr, Option.map]
    rfl
  · rw [← h.length] at kk
    exact TX_llen hc ha htt hx ht kk
theorem TY_idx {k : IntKind} {j : Int} (ht : P.underlying t = some (.slice e)) (hz : sizeA P e = some E.size) (hx : evS n S x = some u) (hR : RS E u l) (hy : evS n S y = some (.int k j)) (hg : lidx l j = some a) (kk : ∀ v, E.rel v a → TX P md.to ops rest ⟨fr n ((d, .cptr v.cells) :: S), df, σ⟩ R) :
    TX P md.to ops ({ dst := some d, op := .indexAddr t x y, type := ty, pos := ps, after := af, guard := none } :: rest) ⟨fr n S, df, σ⟩ R := by
  unfold lidx at hg
  split at hg
  · rename_i h0
    rcases hR with ⟨rfl, rfl⟩ | ⟨vs, tk, rfl, h⟩
    · simp at hg
    · obtain ⟨v, hv, hr⟩ := h.get hg
      exact TX_idx_sl ht hz hx hy h0 hv (E.sz _ _ hr) (kk v hr)
  · cases hg
theorem p_slice_nil {lo hi : Option Operand} {b : Int} (ht : P.underlying t = some (.slice e)) (hz : (P.info? e).isSome = true) (hx : evS n S x = some .nils) (hlo : natBS n S 0 lo = some 0) (hhi : natBS n S 0 hi = some b) (hb : b = 0) : plainOp P (fr n S) σ (.slice t x lo hi none) ty = some (.nils, σ) := by
  subst hb
  have ev_nat : ∀ (o : Option Operand), natBS n S 0 o = some 0 → ∃ r, optV (fr n S) o = some r ∧ (r = none ∨ ∃ k, r = some (.int k 0)) := by
    intro o h
    cases o with
    | none => exact ⟨none, rfl, .inl rfl⟩
    | some y =>
      simp only [natBS, Option.bind_eq_some_iff] at h
      obtain ⟨v, hv, hi⟩ := h
      cases v <;> simp only [intA, reduceCtorEq, Option.some.injEq] at hi
      rename_i k m
      subst hi
      exact ⟨some (.int k 0), by simp [optV, evV_of hv (r := .int k 0) rfl], .inr ⟨k, rfl⟩⟩
  obtain ⟨lv, hl, hl2⟩ := ev_nat lo hlo
  obtain ⟨hv, hh, hh2⟩ := ev_nat hi hhi
  have hbd : ∀ {k : IntKind} {c : BoundsCode}, pureRun P (Instr.sliceBound (.int k 0) 0 c) = some 0 := fun {k c} => bound_of (P := P) (k := k) (i := 0) (m := 0) (c := c) (by omega) (by omega)
  have hbs : pureRun P (Instr.sliceBounds true 0 0 lv hv none) = some (0, 0, 0) := by
    unfold Instr.sliceBounds
    rw [pureRun_bind (a := 0) rfl]
    rcases hh2 with rfl | ⟨k2, rfl⟩
    · rw [pureRun_bind (a := 0) rfl]
      rcases hl2 with rfl | ⟨k1, rfl⟩
      · rfl
      · show pureRun P (Instr.sliceBound _ 0 _ >>= _) = _
        rw [pureRun_bind hbd]; rfl
    · show pureRun P (Instr.sliceBound _ 0 _ >>= _) = _
      rw [pureRun_bind hbd]
      rcases hl2 with rfl | ⟨k1, rfl⟩
      · rfl
      · show pureRun P (Instr.sliceBound _ 0 _ >>= _) = _
        rw [pureRun_bind hbd]; rfl
  obtain ⟨inf, hinf⟩ := Option.isSome_iff_exists.1 hz
  have hsz : pureRun P (sizeOf e) = some inf.size := by
    unfold sizeOf typeInfo
    show pureRun P ((_ >>= _) >>= _) = _
    simp only [program]
    simp [bind, pureRun, Sem.bind, hinf]
    rfl
  have hr : pureRun P (Instr.sliceAt t (.slice none 0 0) lv hv none) = some (.slice none 0 0) := by
    unfold Instr.sliceAt
    rw [pureRun_bind (pureRun_under ht)]
    unfold Instr.slice
    show pureRun P (underlying t >>= _) = _
    rw [pureRun_bind (pureRun_under ht)]
    show pureRun P (Instr.sliceBounds true 0 0 lv hv none >>= _) = _
    rw [pureRun_bind hbs]
    show pureRun P (sizeOf e >>= _) = _
    rw [pureRun_bind hsz]
    rfl
  have ho : optV (fr n S) none = some none := rfl
  simp only [plainOp, ev_fr, hx, pureOp, evV_of hx (r := .slice none 0 0) rfl, hl, hh, ho, hr, bind, Option.bind, Option.map]
  rfl
theorem TY_lsl {lo hi : Option Operand} {a b : Int} {r : List α} (ht : P.underlying t = some (.slice e)) (hz : sizeA P e = some E.size) (hx : evS n S x = some u) (hR : RS E u l) (hlo : natBS n S 0 lo = some a) (hhi : natBS n S l.length hi = some b) (hs : lsub l a b = some r)
    (kk : ∀ u', RS E u' r → TX P md.to ops rest ⟨fr n ((d, u') :: S), df, σ⟩ R) : TX P md.to ops ({ dst := some d, op := .slice t x lo hi none, type := ty, pos := ps, after := af, guard := none } :: rest) ⟨fr n S, df, σ⟩ R := by
  unfold lsub at hs
  split at hs
  · rename_i hc
    obtain ⟨h0, h1, h2⟩ := hc
    cases hs
    rcases hR with ⟨rfl, rfl⟩ | ⟨vs, tk, rfl, h⟩
    · have hb : b = 0 := by simp at h2; omega
      have ha : a = 0 := by omega
      subst ha
      refine TX_plain (p_slice_nil ht (by simp only [sizeA, Option.map_eq_some_iff] at hz; obtain ⟨i, hi, _⟩ := hz; simp [hi]) hx hlo hhi hb) rfl rfl (kk _ ?_)
      simp
      exact RS.nil E
    · have hl := h.length
      refine TX_lsl ht hz hx hlo (by rw [hl]; exact hhi) h0 h1 (by omega) h.sizeOK (kk _ (RS.of ((h.take _).drop _)))
  · cases hs
structure AppT (P : Program) (E : Enc α) (t t2 : TypeId) : Prop where
  ex : ∃ e d2 inf zv, P.underlying t = some (.slice e) ∧ P.underlying t2 = some d2 ∧ ((∃ e2, d2 = .slice e2) ∨ d2 = .string) ∧ P.info? e = some inf ∧ zeroA P e = some zv ∧ inf.size = E.size ∧ 0 < E.size ∧ zv.cells.length = E.size ∧ inf.bytes ≤ 65536

theorem app_one {t2 : TypeId} {vs : List AV} {r : List α} (hT : AppT P E t t2) (hO : Own σ0 W σ (.buf u :: F)) (hM : MB md.to σ) (hR : RS E u l) (hs : srcA v = some vs) (hV : All2 E.rel vs l2) (hr : lapp l l2 = some r) :
    ∃ u' σ', appendA P σ t t2 u v = some (u', σ') ∧ RS E u' r ∧ Own σ0 W σ' (.buf u' :: F) ∧ MB md.to σ' := by
  obtain ⟨e, d2, inf, zv, ht, ht2, hd2, hi, hzv, hsz, hpos, hzs, hby⟩ := hT.ex
  unfold lapp at hr
  split at hr
  · rename_i hlen
    cases hr
    have hc : sizeOK inf.size vs = true ∧ 0 < inf.size ∧ zv.cells.length = inf.size ∧ (vs.all fun v => v.cells.all AV.one) = true := ⟨by rw [hsz]; exact hV.sizeOK, by omega, by omega, hV.ones⟩
    have hlen2 := hV.length
    have key : appendA P σ t t2 u v = (match (generalizing := false) u with
      | .nils => if vs.isEmpty then some (.nils, σ) else if vs.length * inf.bytes ≤ 140737488355328 ∧ vs.length ≤ 9223372036854775807 then some (.sl vs (.live σ.length), σ ++ [AO.tok true]) else none
      | .sl l tk =>
        if vs.isEmpty then some (.sl l tk, σ)
        else if sizeOK inf.size l = true ∧ (l.length + vs.length) * inf.bytes ≤ 140737488355328 ∧ l.length + vs.length ≤ 9223372036854775807 then
          match (generalizing := false) tk with
          | .full => some (.sl (l ++ vs) (.live σ.length), σ ++ [AO.tok true])
          | .live k => if l.isEmpty then none else match (generalizing := false) σ[k]? with
            | some (AO.tok true) => some (.sl (l ++ vs) (.live σ.length), σ.set k (AO.tok false) ++ [AO.tok true])
            | _ => none
          | .dead => none
        else none
      | _ => none) := by
      unfold appendA
      simp only [ht, ht2, Option.bind_some]
      rcases hd2 with ⟨e2, rfl⟩ | rfl
      · simp only [Option.bind_some, hi, hzv, hs]
        rw [if_pos hc]
        cases u <;> first | rfl | (rename_i l tk; cases tk <;> rfl)
      · simp only [Option.bind_some, hi, hzv, hs]
        rw [if_pos hc]
        cases u <;> first | rfl | (rename_i l tk; cases tk <;> rfl)
    have hmul : ∀ m : Nat, m ≤ 2147483648 → m * inf.bytes ≤ 140737488355328 := fun m hm => by
      have := Nat.mul_le_mul hm hby
      omega
    rw [key]
    by_cases hem : vs = []
    · subst hem
      have : l2 = [] := by simpa using hlen2.symm
      subst this
      refine ⟨u, σ, ?_, by simpa using hR, hO, hM⟩
      rcases hR with ⟨rfl, rfl⟩ | ⟨us, tk, rfl, h⟩ <;> simp
    · have hne : vs.isEmpty = false := by cases vs <;> simp_all
      have hl0 : l ++ l2 ≠ [] := by
        intro h
        have : l2 = [] := (List.append_eq_nil_iff.1 h).2
        subst this
        exact hem (List.eq_nil_of_length_eq_zero (by simpa using hlen2))
      have fresh : ∀ us : List AV, us ≠ [] → Own σ0 W (σ ++ [AO.tok true]) (.buf (.sl us (.live σ.length)) :: F) := fun us hus => by
        refine Own.step (A := [.buf u]) (A' := [.buf (.sl us (.live σ.length))]) hO (by simp) (fun i hi _ => List.getElem?_append_left hi) (fun r hr => ?_) (by simp [idsL, Res.ids]) (fun i hi hlt => ?_)
        · simp at hr; subst hr; exact .inr (.inr ⟨us, σ.length, rfl, hus, by simp⟩)
        · simp [idsL, Res.ids] at hi; omega
      rcases hR with ⟨rfl, rfl⟩ | ⟨us, tk, rfl, h⟩
      · simp only [hne]
        rw [if_neg (by simp), if_pos ⟨hmul _ (by simp [maxL] at hlen; omega), by simp [maxL] at hlen; omega⟩]
        exact ⟨_, _, rfl, by simpa using RS.of hV, fresh vs hem, hM.app _⟩
      · simp only [hne]
        have hl1 := h.length
        rw [if_neg (by simp), if_pos ⟨by rw [hsz]; exact h.sizeOK, hmul _ (by simp [maxL] at hlen; omega), by simp [maxL] at hlen; omega⟩]
        have hne2 : us ++ vs ≠ [] := fun h => hem (List.append_eq_nil_iff.1 h).2
        cases tk with
        | dead =>
          have := hO.ok _ List.mem_cons_self
          rcases this with h | ⟨l, h⟩ | ⟨l, t, h, _⟩ <;> cases h
        | full => exact ⟨_, _, rfl, RS.of (h.append hV), fresh _ hne2, hM.app _⟩
        | live k =>
          have hok := hO.ok _ List.mem_cons_self
          have hk : us ≠ [] ∧ σ[k]? = some (.tok true) := by
            rcases hok with h | ⟨l, h⟩ | ⟨l, t, h, h1, h2⟩
            · cases h
            · cases h
            · cases h; exact ⟨h1, h2⟩
          have hue : us.isEmpty = false := by cases us <;> simp_all
          simp only [hue, hk.2]
          refine ⟨_, _, rfl, RS.of (h.append hV), ?_, ?_⟩
          · have hkl : k < σ.length := (List.getElem?_eq_some_iff.1 hk.2).1
            refine Own.step (A := [.buf (.sl us (.live k))]) (A' := [.buf (.sl (us ++ vs) (.live σ.length))]) hO (by simp) (fun i hi hA => ?_) (fun r hr => ?_) (by simp [idsL, Res.ids]) (fun i hi hlt => ?_)
            · rw [List.getElem?_append_left (by simpa using hi), List.getElem?_set, if_neg]
              simp [idsL, Res.ids] at hA
              exact fun e => hA e.symm
            · simp at hr; subst hr
              exact .inr (.inr ⟨_, σ.length, rfl, hne2, by rw [List.getElem?_append_right (by simp)]; simp⟩)
            · simp [idsL, Res.ids] at hi; omega
          · exact (hM.tok hk.2).app _
  · cases hr

theorem TY_append {c : Call} {t2 : TypeId} {r : List α} (hT : AppT P E t t2) (hO : Own σ0 W σ (.buf u :: F)) (hM : MB md.to σ) (hc : c.callee = .builtin .append) (ha : c.args = #[x, y]) (hts : c.argTypes = #[t, t2]) (hx : evS n S x = some u) (hR : RS E u l) (hy : evS n S y = some v) (hV : RS E v l2) (hr : lapp l l2 = some r)
    (k : ∀ u' σ', RS E u' r → Own σ0 W σ' (.buf u' :: F) → MB md.to σ' → TX P md.to ops rest ⟨fr n ((d, u') :: S), df, σ'⟩ R) : TX P md.to ops ({ dst := some d, op := .call c, type := ty, pos := ps, after := af, guard := none } :: rest) ⟨fr n S, df, σ⟩ R := by
  have hs : ∃ vs, srcA v = some vs ∧ All2 E.rel vs l2 := by
    rcases hV with ⟨rfl, rfl⟩ | ⟨vs, tk, rfl, h⟩
    · exact ⟨[], rfl, trivial⟩
    · exact ⟨vs, rfl, h⟩
  obtain ⟨vs, hs, hv⟩ := hs
  obtain ⟨u', σ', h1, h2, h3, h4⟩ := app_one hT hO hM hR hs hv hr
  exact TX_append hc ha hts hx hy h1 h4 (k u' σ' h2 h3 h4)
theorem str_all2 (l : Str) : All2 eY.rel (strElems (bs l)) l := by
  have : strElems (bs l) = l.map fun b => .int .u8 b.toNat := by simp [strElems, bs]
  rw [this]
  exact All2.of_map (fun b : UInt8 => AV.int .u8 b.toNat) (fun b => rfl) l
theorem TY_append_str {c : Call} {t2 : TypeId} {l s r : Str} (hT : AppT P eY t t2) (hO : Own σ0 W σ (.buf u :: F)) (hM : MB md.to σ) (hc : c.callee = .builtin .append) (ha : c.args = #[x, y]) (hts : c.argTypes = #[t, t2]) (hx : evS n S x = some u) (hR : RS eY u l) (hy : evS n S y = some (.str (bs s))) (hr : lapp l s = some r)
    (k : ∀ u' σ', RS eY u' r → Own σ0 W σ' (.buf u' :: F) → MB md.to σ' → TX P md.to ops rest ⟨fr n ((d, u') :: S), df, σ'⟩ R) : TX P md.to ops ({ dst := some d, op := .call c, type := ty, pos := ps, after := af, guard := none } :: rest) ⟨fr n S, df, σ⟩ R := by
  obtain ⟨u', σ', h1, h2, h3, h4⟩ := app_one (v := .str (bs s)) hT hO hM hR rfl (str_all2 s) hr
  exact TX_append hc ha hts hx hy h1 h4 (k u' σ' h2 h3 h4)

/-! ### Texts -/
theorem TY_slen {s : Str} {c : Call} (hc : c.callee = .builtin .len) (ha : c.args = #[x]) (htt : c.argTypes = #[t]) (hx : evS n S x = some (.str (bs s))) (ht : P.underlying t = some .string) (kk : TX P md.to ops rest ⟨fr n ((d, .int .i64 s.length) :: S), df, σ⟩ R) :
    TX P md.to ops ({ dst := some d, op := .call c, type := ty, pos := ps, after := af, guard := none } :: rest) ⟨fr n S, df, σ⟩ R := TX_slen hc ha htt hx ht (by rw [bs_size]; exact kk)
theorem TY_sidx {k : IntKind} {i b : Int} {s : Str} (hx : evS n S x = some (.str (bs s))) (hy : evS n S y = some (.int k i)) (ht : P.underlying t = some .string) (hg : sget s i = some b) (kk : TX P md.to ops rest ⟨fr n ((d, .int .u8 b) :: S), df, σ⟩ R) :
    TX P md.to ops ({ dst := some d, op := .index t x y, type := ty, pos := ps, after := af, guard := none } :: rest) ⟨fr n S, df, σ⟩ R := by
  unfold sget at hg
  split at hg
  · rename_i h0
    simp only [Option.map_eq_some_iff] at hg
    obtain ⟨c, hc, rfl⟩ := hg
    exact TX_sidx hx hy ht h0 (by rw [bs_get]; exact hc) kk
  · cases hg
theorem bs_extract (s : Str) (a b : Nat) : (bs s).extract a b = bs ((s.take b).drop a) := by
  have h : ((bs s).extract a b).data = (bs ((s.take b).drop a)).data := by
    apply Array.ext'
    rw [ByteArray.data_extract]
    simp [bs]
    exact (List.drop_take ..).symm
  cases he : (bs s).extract a b
  rw [he] at h
  simp only at h
  rw [h]
theorem TY_ssl {lo hi : Option Operand} {a b : Int} {s r : Str} (hx : evS n S x = some (.str (bs s))) (ht : P.underlying t = some .string) (hlo : natBS n S 0 lo = some a) (hhi : natBS n S s.length hi = some b) (hs : lsub s a b = some r)
    (kk : TX P md.to ops rest ⟨fr n ((d, .str (bs r)) :: S), df, σ⟩ R) : TX P md.to ops ({ dst := some d, op := .slice t x lo hi none, type := ty, pos := ps, after := af, guard := none } :: rest) ⟨fr n S, df, σ⟩ R := by
  unfold lsub at hs
  split at hs
  · rename_i hc
    obtain ⟨h0, h1, h2⟩ := hc
    cases hs
    have bnd : ∀ (o : Option Operand) (dv : Nat) (c : Int), natBS n S dv o = some c → ∃ r, optV (fr n S) o = some r ∧ ((r = none ∧ c = dv) ∨ ∃ k, r = some (.int k c)) := by
      intro o dv c h
      cases o with
      | none => simp [natBS] at h; exact ⟨none, rfl, .inl ⟨rfl, h.symm⟩⟩
      | some y =>
        simp only [natBS, Option.bind_eq_some_iff] at h
        obtain ⟨v, hv, hi⟩ := h
        cases v <;> simp only [intA, reduceCtorEq, Option.some.injEq] at hi
        rename_i k m
        subst hi
        exact ⟨some (.int k m), by simp [optV, evV_of hv (r := .int k m) rfl], .inr ⟨k, rfl⟩⟩
    obtain ⟨lv, hl, hl2⟩ := bnd lo 0 a hlo
    obtain ⟨hv, hh, hh2⟩ := bnd hi _ b hhi
    have hsz := bs_size s
    have hbs : pureRun P (Instr.sliceBounds false (bs s).size (bs s).size lv hv none) = some (a.toNat, b.toNat, (bs s).size) := by
      unfold Instr.sliceBounds
      rw [pureRun_bind (a := (bs s).size) rfl]
      rcases hh2 with ⟨rfl, hbe⟩ | ⟨k2, rfl⟩
      · have hbn : b.toNat = (bs s).size := by omega
        rw [pureRun_bind (a := (bs s).size) rfl, hbn]
        rcases hl2 with ⟨rfl, rfl⟩ | ⟨k1, rfl⟩
        · rfl
        · show pureRun P (Instr.sliceBound _ _ _ >>= _) = _
          rw [pureRun_bind (bound_of h0 (by omega))]; rfl
      · show pureRun P (Instr.sliceBound _ _ _ >>= _) = _
        rw [pureRun_bind (bound_of (by omega) (by omega))]
        rcases hl2 with ⟨rfl, rfl⟩ | ⟨k1, rfl⟩
        · rfl
        · show pureRun P (Instr.sliceBound _ _ _ >>= _) = _
          rw [pureRun_bind (bound_of h0 (by omega))]; rfl
    have := p_ssl (σ := σ) (ty := ty) hx ht hl hh hbs
    rw [bs_extract] at this
    exact TX_plain this rfl rfl kk
  · cases hs
theorem bs_append (a b : Str) : bs a ++ bs b = bs (a ++ b) := by
  have h : (bs a ++ bs b).data = (bs (a ++ b)).data := by
    rw [ByteArray.data_append]; simp [bs]
  cases he : (bs a ++ bs b)
  rw [he] at h
  simp only at h
  rw [h]
theorem TY_scat {a b r : Str} (hx : evS n S x = some (.str (bs a))) (hy : evS n S y = some (.str (bs b))) (hr : lapp a b = some r) (kk : TX P md.to ops rest ⟨fr n ((d, .str (bs r)) :: S), df, σ⟩ R) : TX P md.to ops ({ dst := some d, op := .binOp .add t x y yt, type := ty, pos := ps, after := af, guard := none } :: rest) ⟨fr n S, df, σ⟩ R := by
  unfold lapp at hr
  split at hr
  · rename_i hl
    cases hr
    exact TX_scat hx hy (by rw [bs_size, bs_size]; simp [maxL] at hl; omega) (by rw [bs_append]; exact kk)
  · cases hr
/-- Texts held against each other. -/
def strP : BinOp → Str → Str → Option Bool
  | .eql, x, y => some (x == y)
  | .neq, x, y => some !(x == y)
  | .lss, x, y => some (Op.bytesLess x y)
  | .leq, x, y => some (Op.bytesLess x y || x == y)
  | .gtr, x, y => some !(Op.bytesLess x y || x == y)
  | .geq, x, y => some !(Op.bytesLess x y)
  | _, _, _ => none
theorem TY_scmp {a b : Str} {c : Bool} (hx : evS n S x = some (.str (bs a))) (hy : evS n S y = some (.str (bs b))) (hc : strP bop a b = some c) (kk : TX P md.to ops rest ⟨fr n ((d, .bool c) :: S), df, σ⟩ R) : TX P md.to ops ({ dst := some d, op := .binOp bop t x y yt, type := ty, pos := ps, after := af, guard := none } :: rest) ⟨fr n S, df, σ⟩ R := by
  refine TX_scmp hx hy (c := c) ?_ kk
  cases bop <;> simp only [strP, reduceCtorEq] at hc <;> simp only [strR, bs_toList] <;> exact hc
/-- A list of bytes as a text. -/
theorem bytesA_all2 : ∀ {vs : List AV} {l : Str}, All2 eY.rel vs l → bytesA vs = some (l.map fun b => (b.toNat : Int))
  | [], [], _ => rfl
  | v :: vs, b :: l, h => by
    obtain ⟨h1, h2⟩ := h
    have : v = .int .u8 b.toNat := h1
    subst this
    simp [bytesA, bytesA_all2 h2]
theorem strOfNums_bs (l : Str) : strOfNums (l.map fun b => (b.toNat : Int)) = bs l := by
  unfold strOfNums bs
  congr 1
  apply Array.ext'
  have : (fun n : Int => UInt8.ofNat n.toNat) ∘ (fun b : UInt8 => (b.toNat : Int)) = id := by funext b; simp
  simp [List.map_map, this]
end
end Go.Proofs.Ytihbdelgoapeoaa.K
/- Rules for code: joins, loops as pure ones, ends; function values; more operations. -/
namespace Go.Proofs.Ytihbdelgoapeoaa.K
open Go Go.RowKit F
set_option linter.unusedSimpArgs false
set_option linter.unusedVariables false

section
variable {P : Program} {Q : AE → AS → Prop}

/-- Where ways meet. -/
def joinQ (I : AS → Prop) (Q : AE → AS → Prop) : AE → AS → Prop
  | .normal, z => I z
  | e, z => Q e z
theorem joinQ_exit {I : AS → Prop} {z : AS} {j : Nat} (h : Q (.exit j) z) : joinQ I Q (.exit j) z := h
theorem joinQ_ret {I : AS → Prop} {z : AS} (h : Q .ret z) : joinQ I Q .ret z := h
theorem joinQ_normal {I : AS → Prop} {z : AS} (h : I z) : joinQ I Q .normal z := h
theorem TE_join {c d : Code} {x : AS} (I : AS → Prop) (h : TE P c x (joinQ I Q)) (k : ∀ z, I z → TE P d z Q) : TE P (.seq c d) x Q := by
  refine TE_seq (h.mono fun e z hz => ?_)
  cases e with
  | normal => exact k z hz
  | exit j => exact hz
  | ret => exact hz

/-- What is asked of a round. -/
def iterQ {α β : Type} (I : α → AS → Prop) (E : β → AE → AS → Prop) (r : α ⊕ β) : AE → AS → Prop
  | .normal, z => ∃ s', r = .inl s' ∧ I s' z
  | e, z => ∃ a, r = .inr a ∧ E a e z
section
variable {α β : Type} {I : α → AS → Prop} {E : β → AE → AS → Prop}
theorem iterQ_again {s : α} {z : AS} (h : I s z) : iterQ I E (.inl s) .normal z := ⟨s, rfl, h⟩
theorem iterQ_exit {a : β} {j : Nat} {z : AS} (h : E a (.exit j) z) : iterQ I E (.inr a) (.exit j) z := ⟨a, rfl, h⟩
theorem iterQ_ret {a : β} {z : AS} (h : E a .ret z) : iterQ I E (.inr a) .ret z := ⟨a, rfl, h⟩
theorem TE_iter {f : α → Option (α ⊕ β)} {c : Code} {x0 : AS} {s0 : α} {a : β} (I : α → AS → Prop) (E : β → AE → AS → Prop) (hi : iter f s0 = some a) (h0 : I s0 x0)
    (round : ∀ s x r, I s x → f s = some r → TE P c x (iterQ I E r)) (hQ : ∀ e z, E a e z → Q e z) : TE P (.loop c) x0 Q := by
  obtain ⟨n, hn⟩ := iter_some.1 hi
  have key : ∀ n s x, iterN f n s = some a → I s x → ∃ e x', LoopA P c x e x' ∧ E a e x' := by
    intro n
    induction n with
    | zero => intro s x h; simp [iterN] at h
    | succ n ih =>
      intro s x h hI
      unfold iterN at h
      split at h
      · cases h
      · rename_i s' hs
        obtain ⟨e, z, h1, h2⟩ := round s x _ hI hs
        cases e with
        | normal =>
          obtain ⟨s2, hr, hI2⟩ := h2
          cases hr
          obtain ⟨e2, x2, h3, h4⟩ := ih _ z h hI2
          exact ⟨e2, x2, .again h1 h3, h4⟩
        | exit j => obtain ⟨b, hr, _⟩ := h2; cases hr
        | ret => obtain ⟨b, hr, _⟩ := h2; cases hr
      · rename_i b hs
        cases h
        obtain ⟨e, z, h1, h2⟩ := round s x _ hI hs
        cases e with
        | normal => obtain ⟨s2, hr, _⟩ := h2; cases hr
        | exit j => obtain ⟨b, hr, hE⟩ := h2; cases hr; exact ⟨_, z, .out h1 (by simp), hE⟩
        | ret => obtain ⟨b, hr, hE⟩ := h2; cases hr; exact ⟨_, z, .out h1 (by simp), hE⟩
  obtain ⟨e, x', h1, h2⟩ := key n s0 x0 hn h0
  exact ⟨e, x', T_loop h1, hQ e x' h2⟩
end

/-! ### Results -/
def resR (P : Program) (n : Nat) (S : List (Nat × AV)) (σ : Mem) : List ResultVar → List AV → Prop
  | [], [] => True
  | r :: rs, v :: vs => (match r with
    | .tmp t => evS n S (.tmp t) = some v
    | .cell t ty => ∃ id off cs, evS n S (.tmp t) = some (.ptr id off) ∧ σ[id]? = some (.cells cs) ∧ loadA P ty (cs.drop off) = some v) ∧ resR P n S σ rs vs
  | _, _ => False
theorem resR_ok {n : Nat} {S : List (Nat × AV)} {df : List AD} {σ : Mem} : ∀ {rs : List ResultVar} {vs : List AV}, resR P n S σ rs vs → rs.mapM (resA P ⟨fr n S, df, σ⟩) = some vs
  | [], [], _ => rfl
  | r :: rs, v :: vs, h => by
    obtain ⟨h1, h2⟩ := h
    have ih := resR_ok (df := df) h2
    rw [List.mapM_cons, ih]
    cases r with
    | tmp t =>
      simp only at h1
      rw [← ev_fr] at h1
      simp only [ev] at h1
      simp [resA, h1]
    | cell t ty =>
      obtain ⟨id, off, cs, g1, g2, g3⟩ := h1
      rw [← ev_fr] at g1
      simp only [ev] at g1
      simp [resA, g1, g2, g3]
def oneOr : List AV → AV
  | [v] => v
  | vs => .tup vs
theorem done_any {fn : Func} {R : AV → Mem → Prop} {n : Nat} {S : List (Nat × AV)} {σ : Mem} {rs : List ResultVar} {vs : List AV} {e : AE} (he : e = .normal ∨ e = .ret) (hr : fn.results = rs.toArray) (h : resR P n S σ rs vs) (hR : R (oneOr vs) σ) : doneQ P fn R e ⟨fr n S, [], σ⟩ := by
  have h1 : resultsA P fn ⟨fr n S, [], σ⟩ = some (oneOr vs) := by
    simp only [resultsA, hr]
    rw [resR_ok h]
    simp only [Option.map_some]
    cases vs with
    | nil => rfl
    | cons v vs => cases vs <;> rfl
  rcases he with rfl | rfl
  · exact ⟨rfl, _, h1, hR⟩
  · exact ⟨rfl, _, h1, hR⟩

def R0 (v : AV) (y : Unit) : Prop := v = .tup []
def R2 {α β : Type} (ra : AV → α → Prop) (rb : AV → β → Prop) (v : AV) (y : α × β) : Prop := ∃ a b, v = .tup [a, b] ∧ ra a y.1 ∧ rb b y.2
def R3 {α β γ : Type} (ra : AV → α → Prop) (rb : AV → β → Prop) (rc : AV → γ → Prop) (v : AV) (y : α × β × γ) : Prop := ∃ a b c, v = .tup [a, b, c] ∧ ra a y.1 ∧ rb b y.2.1 ∧ rc c y.2.2
def R4 {α β γ δ : Type} (ra : AV → α → Prop) (rb : AV → β → Prop) (rc : AV → γ → Prop) (rd : AV → δ → Prop) (v : AV) (y : α × β × γ × δ) : Prop := ∃ a b c d, v = .tup [a, b, c, d] ∧ ra a y.1 ∧ rb b y.2.1 ∧ rc c y.2.2.1 ∧ rd d y.2.2.2

/-! ### Function values -/
def FnOK0 {β : Type} (P : Program) (u : AV) (σ0 : Mem) (RB : AV → β → Prop) (f : Option β) : Prop := ∃ g fs cs, u = .fn (.func g) fs cs ∧ enters P g = true ∧ ∀ σ, Ext σ0 σ → ∀ y, f = some y → CallE P g (fs ++ [] ++ cs) σ fun w σ' => RB w y ∧ Ext σ σ'
def FnOK1 {α β : Type} (P : Program) (u : AV) (σ0 : Mem) (RA : AV → α → Prop) (RB : AV → β → Prop) (f : α → Option β) : Prop := ∃ g fs cs, u = .fn (.func g) fs cs ∧ enters P g = true ∧ ∀ σ, Ext σ0 σ → ∀ v x y, RA v x → f x = some y → CallE P g (fs ++ [v] ++ cs) σ fun w σ' => RB w y ∧ Ext σ σ'
def FnOK2 {α1 α2 β : Type} (P : Program) (u : AV) (σ0 : Mem) (RA1 : AV → α1 → Prop) (RA2 : AV → α2 → Prop) (RB : AV → β → Prop) (f : α1 → α2 → Option β) : Prop := ∃ g fs cs, u = .fn (.func g) fs cs ∧ enters P g = true ∧ ∀ σ, Ext σ0 σ → ∀ v1 x1 v2 x2 y, RA1 v1 x1 → RA2 v2 x2 → f x1 x2 = some y → CallE P g (fs ++ [v1, v2] ++ cs) σ fun w σ' => RB w y ∧ Ext σ σ'
theorem FnOK0.mono {β : Type} {u : AV} {σ0 σ : Mem} {RB : AV → β → Prop} {f : Option β} (h : FnOK0 P u σ0 RB f) (hX : Ext σ0 σ) : FnOK0 P u σ RB f :=
  let ⟨g, fs, cs, h1, h2, h3⟩ := h
  ⟨g, fs, cs, h1, h2, fun τ hτ => h3 τ (hX.trans hτ)⟩
theorem FnOK1.mono {α β : Type} {u : AV} {σ0 σ : Mem} {RA : AV → α → Prop} {RB : AV → β → Prop} {f : α → Option β} (h : FnOK1 P u σ0 RA RB f) (hX : Ext σ0 σ) : FnOK1 P u σ RA RB f :=
  let ⟨g, fs, cs, h1, h2, h3⟩ := h
  ⟨g, fs, cs, h1, h2, fun τ hτ => h3 τ (hX.trans hτ)⟩
theorem FnOK2.mono {α1 α2 β : Type} {u : AV} {σ0 σ : Mem} {RA1 : AV → α1 → Prop} {RA2 : AV → α2 → Prop} {RB : AV → β → Prop} {f : α1 → α2 → Option β} (h : FnOK2 P u σ0 RA1 RA2 RB f) (hX : Ext σ0 σ) : FnOK2 P u σ RA1 RA2 RB f :=
  let ⟨g, fs, cs, h1, h2, h3⟩ := h
  ⟨g, fs, cs, h1, h2, fun τ hτ => h3 τ (hX.trans hτ)⟩

/-! ### Pure programs -/
theorem bind_s {α β : Type} {x : Option α} {f : α → Option β} {y : β} (h : x.bind f = some y) : ∃ a, x = some a ∧ f a = some y := Option.bind_eq_some_iff.1 h
theorem ite_t {α : Type} {c : Bool} {a b : Option α} {y : α} (hc : c = true) (h : (if c = true then a else b) = some y) : a = some y := by rwa [if_pos hc] at h
theorem ite_f {α : Type} {c : Bool} {a b : Option α} {y : α} (hc : c = false) (h : (if c = true then a else b) = some y) : b = some y := by rwa [if_neg (by rw [hc]; decide)] at h
theorem some_s {α : Type} {x y : α} (h : some x = some y) : x = y := Option.some.inj h

/-- The number as a byte: what stands for it. -/
theorem eY_u8 {n : Int} (h0 : 0 ≤ n) (h1 : n < 256) : eY.rel (.int .u8 n) (u8 n) := by
  show AV.int .u8 n = AV.int .u8 (u8 n).toNat
  rw [u8_toNat h0 h1]
theorem wrap_u8_rng (n : Int) : 0 ≤ IntKind.u8.wrap n ∧ IntKind.u8.wrap n < 256 := by rw [IntKind.wrap_u8]; omega
theorem sget_rng {s : Str} {i b : Int} (h : sget s i = some b) : 0 ≤ b ∧ b < 256 := by
  unfold sget at h
  split at h
  · simp only [Option.map_eq_some_iff] at h
    obtain ⟨c, _, rfl⟩ := h
    have := c.toNat_lt
    omega
  · cases h
theorem u8_rng (b : UInt8) : 0 ≤ (b.toNat : Int) ∧ (b.toNat : Int) < 256 := by have := b.toNat_lt; omega
end

section
variable {P : Program} {md : MD} {ops : Array Oper} {rest : List Oper} {R : AS → Prop} {n : Nat} {S : List (Nat × AV)} {df : List AD} {σ0 σ σ' : Mem} {W : List Nat} {L F : List Res} {d : Tmp} {op : Op} {bop : BinOp} {ty t yt e ft : TypeId} {ps : String} {af : Array Edge} {u v w : AV} {x y : Operand} {i f off z id o len : Nat} {cs cs' : List AV} {tk : Tok} {α : Type} {E : Enc α} {l l2 : List α} {a : α}

theorem TY_conv_text {l : Str} (hs : P.underlying t = some (.slice yt)) (hu : isU8 P yt = true) (he : P.underlying e = some .string) (hx : evS n S x = some u) (hR : RS eY u l) (k : TX P md.to ops rest ⟨fr n ((d, .str (bs l)) :: S), df, σ⟩ R) :
    TX P md.to ops ({ dst := some d, op := .convert t e x, type := ty, pos := ps, after := af, guard := none } :: rest) ⟨fr n S, df, σ⟩ R := by
  rcases hR with ⟨rfl, rfl⟩ | ⟨vs, tk, rfl, h⟩
  · have h1 : pureRun P (convert t e (.slice none 0 0)) = some (.string (bs [])) := by
      unfold convert
      rw [pureRun_bind (pureRun_under hs), pureRun_bind (pureRun_under he)]
      show pureRun P (underlying yt >>= _) = _
      rw [pureRun_bind (pureRun_under (isU8_spec hu))]
      rfl
    have h2 : plainOp P (fr n S) σ (.convert t e x) ty = some (.str (bs []), σ) := by
      simp only [plainOp, ev_fr, hx, pureOp, evV_of hx (r := .slice none 0 0) rfl, bind, Option.bind, h1, Option.map]
      rfl
    have h3 : effK P (.convert t e x) = false := by simp [effK, he]
    exact TX_plain h2 h3 rfl k
  · exact TX_conv_text hs hu he hx (bytesA_all2 h) (by rw [strOfNums_bs]; exact k)
theorem TY_conv_bytes {s : Str} (hO : Own σ0 W σ F) (hM : MB md.to σ) (hs : P.underlying t = some .string) (he : P.underlying e = some (.slice yt)) (hu : isU8 P yt = true) (hx : evS n S x = some (.str (bs s))) {l : Str} (hz : (if s.length ≤ maxL then some s else none) = some l)
    (k : ∀ u σ', RS eY u s → Own σ0 W σ' F → MB md.to σ' → TX P md.to ops rest ⟨fr n ((d, u) :: S), df, σ'⟩ R) : TX P md.to ops ({ dst := some d, op := .convert t e x, type := ty, pos := ps, after := af, guard := none } :: rest) ⟨fr n S, df, σ⟩ R := by
  have hz' : s.length ≤ maxL := by
    split at hz
    · assumption
    · cases hz
  refine TX_conv_bytes hs he hu hx (by rw [bs_size]; simp [maxL] at hz'; omega) (hM.app _) (k _ _ (RS.of (str_all2 s)) ?_ (hM.app _))
  exact hO.ext_call (Ext.app _ _)

theorem TX_min {k : IntKind} {a b : Int} {c : Call} (hc : c.callee = .builtin .min) (ha : c.args = #[x, y]) (hx : evS n S x = some (.int k a)) (hy : evS n S y = some (.int k b)) (kk : TX P md.to ops rest ⟨fr n ((d, .int k (min a b)) :: S), df, σ⟩ R) :
    TX P md.to ops ({ dst := some d, op := .call c, type := ty, pos := ps, after := af, guard := none } :: rest) ⟨fr n S, df, σ⟩ R := by
  refine TX_plain (v := .int k (min a b)) ?_ (by simp [effK, hc]) rfl kk
  have hm : (if b < a then b else a) = min a b := by omega
  have hr : ∀ ts cs, pureRun P (builtin .min ts ty cs #[.int k a, .int k b]) = some (.value (.int k (min a b))) := by
    intro ts cs
    rw [← hm]
    unfold builtin
    rfl
  simp only [plainOp, callB, hc, callV, ha, Option.bind, plainB, List.mapM_cons, List.mapM_nil, evV_of hx (r := .int k a) rfl, evV_of hy (r := .int k b) rfl, pure, bind, hr, Option.map]
  rfl
theorem TX_max {k : IntKind} {a b : Int} {c : Call} (hc : c.callee = .builtin .max) (ha : c.args = #[x, y]) (hx : evS n S x = some (.int k a)) (hy : evS n S y = some (.int k b)) (kk : TX P md.to ops rest ⟨fr n ((d, .int k (max a b)) :: S), df, σ⟩ R) :
    TX P md.to ops ({ dst := some d, op := .call c, type := ty, pos := ps, after := af, guard := none } :: rest) ⟨fr n S, df, σ⟩ R := by
  refine TX_plain (v := .int k (max a b)) ?_ (by simp [effK, hc]) rfl kk
  have hm : (if b > a then b else a) = max a b := by omega
  have hr : ∀ ts cs, pureRun P (builtin .max ts ty cs #[.int k a, .int k b]) = some (.value (.int k (max a b))) := by
    intro ts cs
    rw [← hm]
    unfold builtin
    rfl
  simp only [plainOp, callB, hc, callV, ha, Option.bind, plainB, List.mapM_cons, List.mapM_nil, evV_of hx (r := .int k a) rfl, evV_of hy (r := .int k b) rfl, pure, bind, hr, Option.map]
  rfl
end
end Go.Proofs.Ytihbdelgoapeoaa.K
/- Rules for literals of typed values; ends of cells. -/
namespace Go.Proofs.Ytihbdelgoapeoaa.K
open Go Go.RowKit F
set_option linter.unusedSimpArgs false
set_option linter.unusedVariables false

/-- A byte as a number. -/
def eB8 : Enc Int := ⟨fun v n => v = .int .u8 n ∧ 0 ≤ n ∧ n < 256, 1, by rintro _ _ ⟨rfl, _⟩; rfl, by rintro _ _ ⟨rfl, _⟩; rfl⟩
theorem RS.one1 {α : Type} {E : Enc α} {u : AV} {l : List α} (h : RS E u l) : AV.one u = true := by rcases h with ⟨rfl, rfl⟩ | ⟨vs, tk, rfl, h⟩ <;> rfl
theorem ones_nil : ([] : List AV).all AV.one = true := rfl
theorem ones_cons {a : AV} {l : List AV} (h : AV.one a = true) (k : l.all AV.one = true) : (a :: l).all AV.one = true := by simp [h, k]

/-- A literal's parts, laid over its cells. -/
inductive Fill (place : Nat → Option (Nat × Nat)) : List AV → List (Nat × AV) → List AV → Prop
  | nil (cs : List AV) : Fill place cs [] cs
  | cons {cs vc rs : List AV} {i off size : Nat} {v : AV} {ps : List (Nat × AV)} (hp : place i = some (off, size)) (hv : v.cells = vc) (hs : vc.length = size) (hl : off + size ≤ cs.length) (h : Fill place (putA cs off vc) ps rs) : Fill place cs ((i, v) :: ps) rs
theorem Fill.ok {place : Nat → Option (Nat × Nat)} {cs rs : List AV} {ps : List (Nat × AV)} (h : Fill place cs ps rs) : fillA place cs ps = some rs := by
  induction h with
  | nil cs => rfl
  | cons hp hv hs hl h ih =>
    subst hv
    unfold fillA
    simp only [hp]
    rw [if_pos ⟨hs, hl⟩]
    exact ih

section
variable {P : Program} {md : MD} {ops : Array Oper} {rest : List Oper} {R : AS → Prop} {n : Nat} {S : List (Nat × AV)} {df : List AD} {σ0 σ σ' : Mem} {W : List Nat} {L F : List Res} {d : Tmp} {op : Op} {bop : BinOp} {ty t yt e ft : TypeId} {ps : String} {af : Array Edge} {u v w : AV} {x y : Operand} {i f off z id o len : Nat} {cs cs' : List AV} {tk : Tok} {α : Type} {E : Enc α} {l l2 : List α} {a : α}

theorem TY_build (rs : List AV) {parts : Array (Nat × Operand)} {zv : AV} {pl : Nat → Option (Nat × Nat)} {qs : List (Nat × AV)} {rs' : List AV} (hz : zeroA P t = some zv) (hp : placesA P t = some pl) (hq : partsS n S parts.toList = some qs) (hf : Fill pl zv.cells qs rs') (hr : rs' = rs) (k : TX P md.to ops rest ⟨fr n ((d, .agg rs) :: S), df, σ⟩ R) :
    TX P md.to ops ({ dst := some d, op := .build t parts, type := ty, pos := ps, after := af, guard := none } :: rest) ⟨fr n S, df, σ⟩ R := by
  subst hr
  exact TX_build hz hp hq hf.ok k
theorem TY_buildSlice {parts : Array (Nat × Operand)} {zv : AV} {vs : List AV} (ht : P.underlying t = some (.slice e)) (hz : sizeA P e = some E.size) (hzv : zeroA P e = some zv) (hzl : zv.cells.length = E.size) (hq : evsS n S (parts.toList.map (·.2)) = some vs) (hV : All2 E.rel vs l)
    (hn : parts.toList.map (·.1) = List.range len) (hp : E.size ≠ 0) (hm : len * E.size ≤ 16777216) (k : TX P md.to ops rest ⟨fr n ((d, .sl vs .full) :: S), df, σ⟩ R) :
    TX P md.to ops ({ dst := some d, op := .buildSlice t len parts, type := ty, pos := ps, after := af, guard := none } :: rest) ⟨fr n S, df, σ⟩ R := by
  refine TX_buildSlice ht hz hzv hq ⟨hn, hp, hzl, hm, ?_⟩ k
  rw [List.all_eq_true]
  intro v hv
  obtain ⟨b, hb⟩ := hV.mem v hv
  simp [E.sz _ _ hb]
end

section
variable {P : Program} {n : Nat} {S : List (Nat × AV)} {σ : Mem} {rs : List ResultVar} {vs : List AV} {t : Tmp} {ty : TypeId} {v : AV} {id off : Nat} {cs : List AV}
theorem resR_nil : resR P n S σ [] [] := trivial
theorem resR_tmp (h : evS n S (.tmp t) = some v) (k : resR P n S σ rs vs) : resR P n S σ (.tmp t :: rs) (v :: vs) := ⟨h, k⟩
theorem resR_cell (h : evS n S (.tmp t) = some (.ptr id off)) (hc : σ[id]? = some (.cells cs)) (hv : loadA P ty (cs.drop off) = some v) (k : resR P n S σ rs vs) : resR P n S σ (.cell t ty :: rs) (v :: vs) := ⟨⟨id, off, cs, h, hc, hv⟩, k⟩
end
/-- Both, or: what the pure program says of them. -/
theorem and_t {c x r : Bool} (hc : c = true) (h : some (c && x) = some r) : some x = some r := by subst hc; simpa using h
theorem and_f {c x r : Bool} (hc : c = false) (h : some (c && x) = some r) : some false = some r := by subst hc; simpa using h
theorem or_t {c x r : Bool} (hc : c = true) (h : some (c || x) = some r) : some true = some r := by subst hc; simpa using h
theorem or_f {c x r : Bool} (hc : c = false) (h : some (c || x) = some r) : some x = some r := by subst hc; simpa using h
end Go.Proofs.Ytihbdelgoapeoaa.K
/- Small things for walks that are printed. -/
namespace Go.Proofs.Ytihbdelgoapeoaa.K
open Go Go.RowKit F
set_option linter.unusedSimpArgs false
set_option linter.unusedVariables false

theorem Le.trans {x y z : AS} (h : Le x y) (k : Le y z) : Le x z :=
  ⟨h.1.trans k.1, fun t v hv => h.2.1 t v (k.2.1 t v hv), h.2.2.1.trans k.2.2.1, h.2.2.2.trans k.2.2.2⟩
theorem resA_le {P : Program} {x y : AS} (h : Le x y) {r : ResultVar} {v : AV} (hv : resA P y r = some v) : resA P x r = some v := by
  cases r with
  | tmp t =>
    simp only [resA] at hv ⊢
    rw [Option.join_eq_some_iff] at hv ⊢
    exact h.2.1 t v hv
  | cell t ty =>
    simp only [resA, Option.bind_eq_some_iff] at hv ⊢
    obtain ⟨p, hp, hv⟩ := hv
    refine ⟨p, ?_, ?_⟩
    · rw [Option.join_eq_some_iff] at hp ⊢
      exact h.2.1 t p hp
    · rw [h.2.2.2]; exact hv
theorem resL_le {P : Program} {x y : AS} (h : Le x y) : ∀ {l : List ResultVar} {vs : List AV}, l.mapM (resA P y) = some vs → l.mapM (resA P x) = some vs
  | [], vs, hv => hv
  | r :: l, vs, hv => by
    rw [List.mapM_cons] at hv ⊢
    simp only [Option.bind_eq_bind, Option.bind_eq_some_iff] at hv ⊢
    obtain ⟨v, h1, us, h2, h3⟩ := hv
    exact ⟨v, resA_le h h1, us, resL_le h h2, h3⟩
theorem done_le {P : Program} {fn : Func} {R : AV → Mem → Prop} {x y : AS} {e : AE} (h : Le x y) (hd : doneQ P fn R e y) : doneQ P fn R e x := by
  have key : (y.df = [] ∧ ∃ v, resultsA P fn y = some v ∧ R v y.σ) → (x.df = [] ∧ ∃ v, resultsA P fn x = some v ∧ R v x.σ) := by
    rintro ⟨h1, v, h2, h3⟩
    refine ⟨h.2.2.1.trans h1, v, ?_, by rw [h.2.2.2]; exact h3⟩
    simp only [resultsA, Option.map_eq_some_iff] at h2 ⊢
    obtain ⟨vs, g1, g2⟩ := h2
    exact ⟨vs, resL_le h g1, g2⟩
  cases e with
  | normal => exact key hd
  | ret => exact key hd
  | exit j => exact hd
/-- A meeting of ways: what is known there. -/
theorem TE_cutQ {P : Program} {c : Code} {x : AS} {Q : AE → AS → Prop} (I : AS → Prop) (h : TE P c x (joinQ I Q)) (k : ∀ z, I z → Q .normal z) : TE P c x Q :=
  h.mono fun e z hz => by
    cases e with
    | normal => exact k z hz
    | exit j => exact hz
    | ret => exact hz

theorem idsL_take (L : List Res) (n : Nat) : ∃ M, idsL L = idsL (L.take n) ++ M := by
  refine ⟨idsL (L.drop n), ?_⟩
  rw [← idsL_append, List.take_append_drop]
/-- The first n things. -/
theorem Own.sub {σ0 σ : Mem} {W : List Nat} {L F : List Res} (h : Own σ0 W σ L) (n : Nat) (hF : L.take n = F) : Own σ0 W σ F := by
  subst hF
  obtain ⟨M, hM⟩ := idsL_take L n
  refine ⟨h.len, h.old, fun r hr => h.ok r (List.mem_of_mem_take hr), ?_, fun i hi => h.loc i (by rw [hM]; exact List.mem_append_left _ hi)⟩
  have := h.nodup
  rw [hM, List.nodup_append] at this
  exact this.1

theorem lapp_len {s r : Str} (h : lapp s [] = some r) : (if s.length ≤ maxL then some s else none) = some s := by
  unfold lapp at h
  split at h
  · rename_i hl; simp at hl; rw [if_pos hl]
  · cases h
theorem shr8_rng {a : Int} (h : 0 ≤ a ∧ a < 256) {n : Nat} : 0 ≤ a.fdiv (2 ^ n) ∧ a.fdiv (2 ^ n) < 256 := by
  have h2 : (0 : Int) < 2 ^ n := Int.pow_pos (by decide)
  rw [Int.fdiv_eq_ediv_of_nonneg _ (Int.le_of_lt h2)]
  refine ⟨Int.ediv_nonneg h.1 (Int.le_of_lt h2), ?_⟩
  have := Int.ediv_le_self (2 ^ n) h.1
  omega
theorem rem8_rng {a b : Int} (h : 0 ≤ a ∧ a < 256) : 0 ≤ a.tmod b ∧ a.tmod b < 256 := by
  refine ⟨Int.tmod_nonneg _ h.1, ?_⟩
  have h1 := Int.natAbs_tmod a b
  have h2 : a.tmod b ≤ a := by
    have := Int.tmod_nonneg b h.1
    have h3 : (a.tmod b).natAbs ≤ a.natAbs := by rw [h1]; exact Nat.mod_le _ _
    omega
  omega

section
variable {P : Program} {md : MD} {ops : Array Oper} {rest : List Oper} {R : AS → Prop} {n : Nat} {S : List (Nat × AV)} {df : List AD} {σ0 σ σ' : Mem} {W : List Nat} {L F : List Res} {d : Tmp} {op : Op} {bop : BinOp} {ty t yt e ft : TypeId} {ps : String} {af : Array Edge} {u v w : AV} {x y : Operand} {b : Bool}
/-- What is held, against nil. -/
theorem TY_nilcmp (h : nilCmp P (fr n S) bop t x y = some b) (kk : TX P md.to ops rest ⟨fr n ((d, .bool b) :: S), df, σ⟩ R) : TX P md.to ops ({ dst := some d, op := .binOp bop t x y yt, type := ty, pos := ps, after := af, guard := none } :: rest) ⟨fr n S, df, σ⟩ R :=
  TX_plain (by simp only [plainOp, pureOp, h, Option.map]) rfl rfl kk
theorem TY_nilnil (hx : evS n S x = some .nils) (hy : evS n S y = some .nils) (ht : P.underlying t = some (.slice e)) (hb : (bop = .eql ∧ b = true) ∨ (bop = .neq ∧ b = false)) (kk : TX P md.to ops rest ⟨fr n ((d, .bool b) :: S), df, σ⟩ R) : TX P md.to ops ({ dst := some d, op := .binOp bop t x y yt, type := ty, pos := ps, after := af, guard := none } :: rest) ⟨fr n S, df, σ⟩ R := by
  have he : pureRun P (Op.equal t (.slice none 0 0) (.slice none 0 0)) = some true := by
    unfold Op.equal
    show pureRun P (Op.equalIn (9999 + 1) t _ _) = _
    unfold Op.equalIn
    rw [pureRun_bind (pureRun_under ht)]
    rfl
  refine TX_plain (p_bin (r := .bool b) hx rfl hy rfl (fun _ h => by cases h) (by simp) ?_ rfl) rfl rfl kk
  rcases hb with ⟨rfl, rfl⟩ | ⟨rfl, rfl⟩
  · show pureRun P (Op.equal t (.slice none 0 0) (.slice none 0 0) >>= _) = _
    rw [pureRun_bind he]; rfl
  · show pureRun P (Op.equal t (.slice none 0 0) (.slice none 0 0) >>= _) = _
    rw [pureRun_bind he]; rfl
end
end Go.Proofs.Ytihbdelgoapeoaa.K
/- The last of the rules. -/
namespace Go.Proofs.Ytihbdelgoapeoaa.K
open Go Go.RowKit F
set_option linter.unusedSimpArgs false
set_option linter.unusedVariables false
section
variable {P : Program} {md : MD} {ops : Array Oper} {rest : List Oper} {R : AS → Prop} {n : Nat} {S : List (Nat × AV)} {df : List AD} {σ0 σ σ' : Mem} {W : List Nat} {L F : List Res} {d : Tmp} {op : Op} {bop : BinOp} {ty t yt e ft : TypeId} {ps : String} {af : Array Edge} {u v w : AV} {x y : Operand} {b : Bool}
/-- A call that changes nothing that was there, and makes something. -/
theorem TY_callN {c : Call} {g : FuncId} {args : List AV} {Rc : AV → Mem → Prop} (hM : MB md.to σ) (hc : calleeS n S c = some (g, args)) (he : enters P g = true) (h : CallE P g args σ Rc) (hR : ∀ v σ', Rc v σ' → ∃ A', Own σ [] σ' A')
    (k : ∀ v σ', Rc v σ' → MB md.to σ' → TX P md.to ops rest ⟨fr n ((d, v) :: S), df, σ'⟩ R) : TX P md.to ops ({ dst := some d, op := .call c, type := ty, pos := ps, after := af, guard := none } :: rest) ⟨fr n S, df, σ⟩ R :=
  TY_callW (A := []) hM (fun i hi => by simp [idsL] at hi) hc he h hR k
/-- A call that is handed a list to append to. -/
theorem TY_callB {c : Call} {g : FuncId} {args : List AV} {Rc : AV → Mem → Prop} (hM : MB md.to σ) (hb : Res.ok σ (.buf u)) (hc : calleeS n S c = some (g, args)) (he : enters P g = true) (h : CallE P g args σ Rc) (hR : ∀ v σ', Rc v σ' → ∃ A', Own σ (idsL [.buf u]) σ' A')
    (k : ∀ v σ', Rc v σ' → MB md.to σ' → TX P md.to ops rest ⟨fr n ((d, v) :: S), df, σ'⟩ R) : TX P md.to ops ({ dst := some d, op := .call c, type := ty, pos := ps, after := af, guard := none } :: rest) ⟨fr n S, df, σ⟩ R := by
  obtain ⟨v, σ', h1, h2⟩ := h
  obtain ⟨A', hA⟩ := hR v σ' h2
  have hB : MB md.to σ' := hM.of fun Lr e p hp hl hcell => hA.old _ hl fun hi => by
    rcases hb with rfl | ⟨l, rfl⟩ | ⟨l, t, rfl, _, ht⟩
    · simp [idsL, Res.ids] at hi
    · simp [idsL, Res.ids] at hi
    · simp [idsL, Res.ids] at hi
      rw [hi, ht] at hcell
      cases hcell
  exact TX_call hc he h1 hB (k v σ' h2 hB)
theorem Own.startB {σ : Mem} {u : AV} (h : Res.ok σ (.buf u)) : Own σ (idsL [.buf u]) σ [.buf u] := by
  refine Own.startW (fun r hr => by simp at hr; subst hr; exact h) ?_
  rcases h with rfl | ⟨l, rfl⟩ | ⟨l, t, rfl, _, _⟩ <;> simp [idsL, Res.ids]
end
end Go.Proofs.Ytihbdelgoapeoaa.K
/- A list that changed becomes one that stays; a list that grows into its room. -/
namespace Go.Proofs.Ytihbdelgoapeoaa.K
open Go Go.RowKit F
set_option linter.unusedSimpArgs false
set_option linter.unusedVariables false

/-- The object's number leads nowhere any more. -/
def Gh.drop (G : Gh) (id : Nat) : Gh := ⟨fun j => if j = id then Option.none else G.β j, G.τ, G.n⟩

section
variable {P : Program} {G : Gh} {σ : Mem} {w : World}

theorem drop_sealed {id b o : Nat} (h : G.sealed b o) : (G.drop id).sealed b o :=
  ⟨fun j hj e => by simp only [Gh.drop] at e; split at e; cases e; exact h.1 j hj e, h.2⟩
theorem drop_free {id b : Nat} (h : G.free b) : (G.drop id).free b :=
  ⟨fun j hj e => by simp only [Gh.drop] at e; split at e; cases e; exact h.1 j hj e, h.2⟩
theorem Evo.drop (id : Nat) : Evo G w (G.drop id) w where
  os := rfl
  tape := rfl
  output := rfl
  size := Nat.le_refl _
  n := Nat.le_refl _
  β := fun j b _ hb => by simp only [Gh.drop] at hb; split at hb; cases hb; exact hb
  τ := fun _ _ _ h => h
  cell := fun _ _ _ h => ⟨drop_sealed h, rfl⟩
  block := fun _ _ h => ⟨drop_free h, rfl⟩
theorem InvH.drop (hi : InvH G σ w) {id : Nat} {cs : List AV} (hk : σ[id]? = some (.cells cs)) : InvH (G.drop id) (σ.set id (.tok false)) w := by
  have ev := Evo.drop (G := G) (w := w) id
  refine ⟨by rw [List.length_set]; exact hi.n, ?_, ?_, ?_, ?_, ?_, hi.tinj, ?_⟩
  · intro j cs' h
    rw [List.getElem?_set] at h
    split at h
    · split at h <;> cases h
    · rename_i hne
      obtain ⟨b, c, e, fr, h1, h2, h3, hu, h4⟩ := hi.cells j cs' h
      exact ⟨b, c, e, fr, by simp only [Gh.drop]; rw [if_neg (fun e => hne e.symm)]; exact h1, h2, h3, hu, fun i x hx => (h4 i x hx).evo ev⟩
  · intro j b hj hb
    simp only [Gh.drop] at hb
    split at hb
    · cases hb
    · rename_i hne
      obtain ⟨cs', hc⟩ := hi.ids j b hj hb
      exact ⟨cs', by rw [List.getElem?_set, if_neg (fun e => hne e.symm)]; exact hc⟩
  · intro t ht
    rw [List.getElem?_set] at ht
    split at ht
    · split at ht <;> cases ht
    · exact hi.toks t ht
  · intro t i htl hti
    obtain ⟨h1, c', fr', h2, h3⟩ := hi.tok t i htl hti
    refine ⟨?_, c', fr', h2, h3⟩
    rw [List.getElem?_set, if_neg]
    · exact h1
    · rintro rfl; rw [hk] at h1; cases h1
  · intro i j b h1 h2 h3 h4
    simp only [Gh.drop] at h3 h4
    split at h3
    · cases h3
    · split at h4
      · cases h4
      · exact hi.inj i j b h1 h2 h3 h4
  · intro j b t i h1 h2 h3 h4
    simp only [Gh.drop] at h3
    split at h3
    · cases h3
    · exact hi.apart j b t i h1 h2 h3 h4

/-- What a list that changed held, it holds for good. -/
theorem freeze_rel (hi : InvH G σ w) {id off len cap size : Nat} {cs vs : List AV} {u : Value} (hk : σ[id]? = some (.cells cs)) (hr : Rel G w (.msl id off len cap) u) (hl : len = vs.length) (hm : len ≤ maxLen) (hlc : len ≤ cap) (hs : ∀ x ∈ vs, x.cells.length = size)
    (hf : (cs.drop off).take (len * size) = flat vs) : Rel (G.drop id) w (.sl vs .dead) u := by
  cases hr with
  | @msl _ _ _ _ cap' b hn hb hcap =>
    obtain ⟨b', c, e, fr, h1, h2, h3, hu, h4⟩ := hi.cells id cs hk
    obtain rfl : b = b' := (hb b' h1).symm
    have hfl := flat_length hs
    have hlen : (flat vs).length = len * size := by rw [hfl, hl]
    have hle : off + len * size ≤ cs.length ∨ len * size = 0 := by
      have := congrArg List.length hf
      rw [List.length_take, List.length_drop, hlen] at this
      omega
    refine .sl size (fun i => c.getD (off + i) undef) hl hm hs (fun i hil => ?_) (fun i x hx => ?_) (fun h => by cases h) (by omega) (fun k hk => by cases hk)
    · have hi2 : off + i < c.size := by omega
      refine ⟨?_, fun j hj => ?_, fun t j ht htj hjb => ?_⟩
      · rw [add_plain']
        exact cell_row h2 hi2
      · simp only [add_block, Gh.drop]
        split
        · simp
        · rename_i hne
          intro e
          have hidlt : id < G.n := hn
          exact hne (hi.inj j id b hj hidlt e h1)
      · simp only [add_block] at hjb
        exact absurd hjb (hi.apart id b t j hn ht h1 htj)
    · have hx2 := hx
      rw [← hf] at hx2
      have hil := (List.getElem?_eq_some_iff.1 hx).1
      rw [hlen] at hil
      rw [List.getElem?_take, if_pos hil, List.getElem?_drop] at hx2
      exact (h4 (off + i) x hx2).evo (Evo.drop id)

/-- Results of a call, seen otherwise. -/
def GhostV (v : AV) (σ : Mem) (v' : AV) (σ' : Mem) : Prop := ∀ G w u, InvH G σ w → Rel G w v u → ∃ G', InvH G' σ' w ∧ Evo G w G' w ∧ Rel G' w v' u
theorem CallE.ghost {f : FuncId} {args : List AV} {R R' : AV → Mem → Prop} (h : CallE P f args σ R) (hg : ∀ v σ', R v σ' → ∃ v' σ'', GhostV v σ' v' σ'' ∧ R' v' σ'') : CallE P f args σ R' := by
  obtain ⟨v, σ', h1, h2⟩ := h
  obtain ⟨v', σ'', h3, h4⟩ := hg v σ' h2
  refine ⟨v', σ'', fun G w vs hi hr => (h1 G w vs hi hr).mono fun e w' ⟨G', u, he, hi', hev, hr'⟩ => ?_, h4⟩
  obtain ⟨G2, g1, g2, g3⟩ := h3 G' w' u hi' hr'
  exact ⟨G2, u, he, g1, hev.trans g2, g3⟩
theorem GhostV.freeze {id off len cap size : Nat} {cs vs : List AV} (hk : σ[id]? = some (.cells cs)) (hl : len = vs.length) (hm : len ≤ maxLen) (hlc : len ≤ cap) (hs : ∀ x ∈ vs, x.cells.length = size) (hf : (cs.drop off).take (len * size) = flat vs) : GhostV (.msl id off len cap) σ (.sl vs .dead) (σ.set id (.tok false)) :=
  fun G w u hi hr => ⟨G.drop id, hi.drop hk, Evo.drop id, freeze_rel hi hk hr hl hm hlc hs hf⟩
theorem GhostV.refl (v : AV) (σ : Mem) : GhostV v σ v σ := fun G w u hi hr => ⟨G, hi, Evo.refl _ _, hr⟩

/-- What is not asked for any more goes. -/
theorem Own.kill {σ0 : Mem} {W : List Nat} {id : Nat} {cs : List AV} {F : List Res} (h : Own σ0 W σ (.obj id cs :: F)) : Own σ0 W (σ.set id (.tok false)) F := by
  refine Own.step (A := [.obj id cs]) (A' := []) h (by simp) (fun i hi hA => ?_) (fun r hr => by simp at hr) (by simp [idsL]) (fun i hi => by simp [idsL] at hi)
  rw [List.getElem?_set, if_neg]
  simp [idsL, Res.ids] at hA
  exact fun e => hA e.symm
end

/-- A list that grows into its room of n. -/
def GB {α : Type} (E : Enc α) (σ0 σ : Mem) (n : Nat) (u : AV) (acc : List α) : Prop :=
  (n = 0 ∧ u = .nils ∧ acc = [] ∧ Ext σ0 σ) ∨ ∃ id cs vs, 0 < n ∧ u = .msl id 0 acc.length n ∧ Own σ0 [] σ [.obj id cs] ∧ cs.length = n * E.size ∧ cs.take (acc.length * E.size) = flat vs ∧ All2 E.rel vs acc

section
variable {P : Program} {α : Type} {E : Enc α} {σ0 σ : Mem} {n : Nat} {u v : AV} {acc l : List α} {t : TypeId}

theorem GB.ext (h : GB E σ0 σ n u acc) : Ext σ0 σ := by
  rcases h with ⟨_, _, _, h⟩ | ⟨id, cs, vs, _, _, h, _⟩
  · exact h
  · exact h.ext
theorem All2.flat_len {vs : List AV} (h : All2 E.rel vs acc) : (flat vs).length = acc.length * E.size := by
  rw [flat_length (size := E.size) (fun x hx => by obtain ⟨b, hb⟩ := h.mem x hx; exact E.sz _ _ hb), h.length]
theorem GB.app (hT : AppT P E t t) (h : GB E σ0 σ n u acc) (hV : RS E v l) (hl : acc.length + l.length ≤ n) : ∃ u' σ', appendX P σ t t u v = some (u', σ') ∧ GB E σ0 σ' n u' (acc ++ l) := by
  obtain ⟨e, d2, inf, zv, ht, ht2, hd2, hi, hzv, hsz, hpos, hzs, hby⟩ := hT.ex
  have hs : ∃ vs, srcA v = some vs ∧ All2 E.rel vs l := by
    rcases hV with ⟨rfl, rfl⟩ | ⟨vs, tk, rfl, h⟩
    · exact ⟨[], rfl, trivial⟩
    · exact ⟨vs, rfl, h⟩
  obtain ⟨ys, hs, hys⟩ := hs
  have hd : d2 = .slice e := by rw [ht] at ht2; cases ht2; rfl
  subst hd
  rcases h with ⟨rfl, rfl, rfl, hX⟩ | ⟨id, cs, vs, hn0, rfl, hO, hcl, htk, ha⟩
  · have : l = [] := by simp at hl; exact hl
    subst this
    have : ys = [] := by simpa using hys.length
    subst this
    refine ⟨.nils, σ, appendX_of ?_, .inl ⟨rfl, rfl, rfl, hX⟩⟩
    unfold appendA
    simp only [ht, Option.bind_some, hi, hzv, hs]
    simp [sizeOK, hpos, hsz, hzs]
  · have hya := hys.length
    have hcond : sizeOK inf.size ys = true ∧ acc.length + ys.length ≤ n ∧ (acc.length + ys.length) * inf.size ≤ cs.length ∧ (ys.all fun v => v.cells.all AV.one) = true := by
      refine ⟨by rw [hsz]; exact hys.sizeOK, by omega, ?_, hys.ones⟩
      rw [hcl, hsz]
      exact Nat.mul_le_mul_right _ (by omega)
    refine ⟨.msl id 0 (acc.length + ys.length) n, σ.set id (.cells (putA cs (acc.length * inf.size) (flat ys))), ?_, .inr ⟨id, _, vs ++ ys, hn0, ?_, hO.set _, ?_, ?_, ha.append hys⟩⟩
    · have hA : appendA P σ t t (.msl id 0 acc.length n) v = none := by
        unfold appendA
        simp only [ht, Option.bind_some, hi, hzv, hs]
        split <;> rfl
      unfold appendX
      rw [hA]
      simp only [appendM, ht, Option.bind_some, hi, hzv, hs, hO.obj 0 rfl]
      rw [if_pos ⟨trivial, hcond.1, hcond.2.1, hcond.2.2.1, hcond.2.2.2⟩]
    · rw [List.length_append, ← hya]
    · have h1 := hys.flat_len
      have h2 := hcond.2.2.1
      rw [hsz] at h2
      simp only [putA, List.length_append, List.length_take, List.length_drop, h1, hsz]
      have := Nat.add_mul acc.length ys.length E.size
      rw [← hya]
      omega
    · have h1 := hys.flat_len
      have h2 := hcond.2.2.1
      rw [hsz] at h2
      have h3 := Nat.add_mul acc.length ys.length E.size
      rw [List.length_append, ← hya, flat_append, hsz]
      simp only [putA]
      have e1 : (cs.take (acc.length * E.size) ++ flat ys).length = (acc.length + ys.length) * E.size := by
        rw [List.length_append, List.length_take, h1, ← hya]
        omega
      rw [← e1, List.take_left, htk]
/-- When it is full it may stay. -/
theorem GB.ghost (h : GB E σ0 σ n u acc) (hn : acc.length = n) (hm : n ≤ 2147483648) : ∃ v' σ', GhostV u σ v' σ' ∧ RS E v' acc ∧ Ext σ0 σ' := by
  rcases h with ⟨rfl, rfl, rfl, hX⟩ | ⟨id, cs, vs, hn0, rfl, hO, hcl, htk, ha⟩
  · exact ⟨_, _, GhostV.refl _ _, RS.nil E, hX⟩
  · refine ⟨.sl vs .dead, σ.set id (.tok false), GhostV.freeze (hO.obj 0 rfl) ha.length.symm (by simp [maxLen]; omega) (by omega) (size := E.size) (fun x hx => by obtain ⟨b, hb⟩ := ha.mem x hx; exact E.sz _ _ hb) (by simpa using htk), RS.of ha, hO.kill.ext⟩

variable {md : MD} {ops : Array Oper} {rest : List Oper} {R : AS → Prop} {m : Nat} {S : List (Nat × AV)} {df : List AD} {d : Tmp} {ty e : TypeId} {ps : String} {af : Array Edge} {x y : Operand} {σ' : Mem}
theorem TX_appendX {md : Option (Mem → Prop)} {c : Call} (hc : c.callee = .builtin .append) (ha : c.args = #[x, y]) (hts : c.argTypes = #[t, e]) (hx : evS m S x = some u) (hy : evS m S y = some v) {r : AV} (hr : appendX P σ t e u v = some (r, σ')) (hB : MB md σ') (k : TX P md ops rest ⟨fr m ((d, r) :: S), df, σ'⟩ R) : TX P md ops ({ dst := some d, op := .call c, type := ty, pos := ps, after := af, guard := none } :: rest) ⟨fr m S, df, σ⟩ R :=
  TX_eff (by simp [plainOp, callB, hc, ha, hts, ev_fr, hx, hy, hr]) (by simp [effK, hc]) hB k
end
end Go.Proofs.Ytihbdelgoapeoaa.K
/- Rules for what the library's lists are made by. -/
namespace Go.Proofs.Ytihbdelgoapeoaa.K
open Go Go.RowKit F
set_option linter.unusedSimpArgs false
set_option linter.unusedVariables false
section
variable {P : Program} {md : Option (Mem → Prop)} {ops : Array Oper} {rest : List Oper} {R : AS → Prop} {n : Nat} {S : List (Nat × AV)} {df : List AD} {σ σ' : Mem} {d : Tmp} {t ty e : TypeId} {ps : String} {af : Array Edge} {x y : Operand} {u v : AV}

theorem TX_len_nil {c : Call} (hc : c.callee = .builtin .len) (ha : c.args = #[x]) (htt : c.argTypes = #[t]) (hx : evS n S x = some .nils) (ht : P.underlying t = some (.slice e)) (kk : TX P md ops rest ⟨fr n ((d, .int .i64 0) :: S), df, σ⟩ R) :
    TX P md ops ({ dst := some d, op := .call c, type := ty, pos := ps, after := af, guard := none } :: rest) ⟨fr n S, df, σ⟩ R := by
  refine TX_plain ?_ (by simp [effK, hc]) rfl kk
  have hr : ∀ cs, pureRun P (builtin .len #[t] ty cs #[.slice none 0 0]) = some (.value (.int .i64 0)) := by
    intro cs
    unfold builtin
    show pureRun P (Builtin.len_ #[t] ty #[.slice none 0 0] >>= _) = _
    have h1 : pureRun P (Builtin.len_ #[t] ty #[.slice none 0 0]) = some (.int .i64 0) := by
      show pureRun P (underlying t >>= _) = _
      rw [pureRun_bind (pureRun_under ht)]
      rfl
    rw [pureRun_bind h1]
    rfl
  simp only [plainOp, callB, hc, callV, ha, htt, ev_fr, hx, Option.bind, plainB, List.mapM_cons, List.mapM_nil, evV_of hx (r := .slice none 0 0) rfl, pure, bind, hr, Option.map]
  rfl
theorem TX_cap_nil {c : Call} (hc : c.callee = .builtin .cap) (ha : c.args = #[x]) (htt : c.argTypes = #[t]) (hx : evS n S x = some .nils) (ht : P.underlying t = some (.slice e)) (kk : TX P md ops rest ⟨fr n ((d, .int .i64 0) :: S), df, σ⟩ R) :
    TX P md ops ({ dst := some d, op := .call c, type := ty, pos := ps, after := af, guard := none } :: rest) ⟨fr n S, df, σ⟩ R := by
  refine TX_plain ?_ (by simp [effK, hc]) rfl kk
  have hr : ∀ cs, pureRun P (builtin .cap #[t] ty cs #[.slice none 0 0]) = some (.value (.int .i64 0)) := by
    intro cs
    unfold builtin
    show pureRun P (Builtin.cap_ #[t] ty #[.slice none 0 0] >>= _) = _
    have h1 : pureRun P (Builtin.cap_ #[t] ty #[.slice none 0 0]) = some (.int .i64 0) := by
      show pureRun P (underlying t >>= _) = _
      rw [pureRun_bind (pureRun_under ht)]
      rfl
    rw [pureRun_bind h1]
    rfl
  simp only [plainOp, callB, hc, callV, ha, htt, ev_fr, hx, Option.bind, plainB, List.mapM_cons, List.mapM_nil, evV_of hx (r := .slice none 0 0) rfl, pure, bind, hr, Option.map]
  rfl
theorem TX_slice_nil {lo hi : Option Operand} {b : Int} (ht : P.underlying t = some (.slice e)) (hz : (P.info? e).isSome = true) (hx : evS n S x = some .nils) (hlo : natBS n S 0 lo = some 0) (hhi : natBS n S 0 hi = some b) (hb : b = 0) (kk : TX P md ops rest ⟨fr n ((d, .nils) :: S), df, σ⟩ R) :
    TX P md ops ({ dst := some d, op := .slice t x lo hi none, type := ty, pos := ps, after := af, guard := none } :: rest) ⟨fr n S, df, σ⟩ R := TX_plain (p_slice_nil ht hz hx hlo hhi hb) rfl rfl kk
theorem TX_mslice {lo hi : Option Operand} {a b : Int} {id off len cap z : Nat} (ht : P.underlying t = some (.slice e)) (hz : sizeA P e = some z) (hx : evS n S x = some (.msl id off len cap)) (hlo : natBS n S 0 lo = some a) (hhi : natBS n S len hi = some b) (h0 : 0 ≤ a) (h1 : a ≤ b) (h2 : b ≤ cap) (h3 : a < cap)
    (kk : TX P md ops rest ⟨fr n ((d, .msl id (off + a.toNat * z) (b.toNat - a.toNat) (cap - a.toNat)) :: S), df, σ⟩ R) :
    TX P md ops ({ dst := some d, op := .slice t x lo hi none, type := ty, pos := ps, after := af, guard := none } :: rest) ⟨fr n S, df, σ⟩ R := by
  refine TX_plain ?_ rfl rfl kk
  have e1 := natB_fr hlo h0
  have e2 := natB_fr hhi (by omega)
  have e3 : cutM id off cap z a.toNat b.toNat none = some (.msl id (off + a.toNat * z) (b.toNat - a.toNat) (cap - a.toNat)) := by
    unfold cutM
    rw [if_pos ⟨by omega, by simp; omega, Nat.le_refl _⟩]
    simp only [Option.getD_none]
    rw [if_pos (by omega)]
  simp [plainOp, memOp, ev_fr, hx, ht, hz, e1, e2, natM, e3]
end
/-- A loop over what is general, with a measure. -/
def loopG {α : Type} (I : α → AS → Prop) (μ : α → Nat) (m : Nat) (Q : AE → AS → Prop) : AE → AS → Prop
  | .normal, z => ∃ y, I y z ∧ μ y < m
  | e, z => Q e z
section
variable {P : Program} {Q : AE → AS → Prop} {α : Type} {I : α → AS → Prop} {μ : α → Nat} {m : Nat}
theorem loopG_again {z : AS} (a : α) (hI : I a z) (hm : μ a < m) : loopG I μ m Q .normal z := ⟨a, hI, hm⟩
theorem loopG_exit {j : Nat} {z : AS} (h : Q (.exit j) z) : loopG I μ m Q (.exit j) z := h
theorem loopG_ret {z : AS} (h : Q .ret z) : loopG I μ m Q .ret z := h
theorem TE_iterG {c : Code} {x0 : AS} (I : α → AS → Prop) (μ : α → Nat) (a : α) (h0 : I a x0) (round : ∀ y z, I y z → TE P c z (loopG I μ (μ y) Q)) : TE P (.loop c) x0 Q := by
  have key : ∀ m y z, μ y = m → I y z → ∃ e x', LoopA P c z e x' ∧ Q e x' := by
    intro m
    induction m using Nat.strongRecOn with
    | _ m ih =>
      intro y z hy hI
      obtain ⟨e, z1, h1, h2⟩ := round y z hI
      cases e with
      | normal =>
        obtain ⟨y', g1, g2⟩ := h2
        obtain ⟨e2, x2, h3, h4⟩ := ih (μ y') (hy ▸ g2) y' z1 rfl g1
        exact ⟨e2, x2, .again h1 h3, h4⟩
      | exit id => exact ⟨_, z1, .out h1 (by simp), h2⟩
      | ret => exact ⟨_, z1, .out h1 (by simp), h2⟩
  obtain ⟨e, x', h1, h2⟩ := key _ a x0 rfl h0
  exact ⟨e, x', T_loop h1, h2⟩
end
theorem flat_take_le {α : Type} (l : List (List α)) (k : Nat) : (l.take k).flatten.length ≤ l.flatten.length := by
  have : l.flatten.length = (l.take k).flatten.length + (l.drop k).flatten.length := by
    rw [← List.length_append, ← List.flatten_append, List.take_append_drop]
  omega
theorem make_nil {P : Program} {σ : Mem} {t u e : TypeId} {k : IntKind} {i : TypeInfo} {zv : AV} {n : Nat} (ht : P.underlying t = some (.slice e)) (hu : P.underlying u = some (.int k)) (hi : P.info? e = some i) (hz : zeroA P e = some zv) (hzl : zv.cells.length = i.size) (hb : i.bytes ≤ 65536) (h0 : 0 < n) (h1 : n ≤ 2147483648) :
    ∃ cs, cs.length = n * i.size ∧ appendX P σ t u .nils (.int .i64 n) = some (.msl σ.length 0 n n, σ ++ [.cells cs]) := by
  refine ⟨(List.range (n * i.size)).map fun j => zv.cells.getD (j % i.size) .undef, by simp, ?_⟩
  have hA : appendA P σ t u .nils (.int .i64 n) = none := by
    unfold appendA
    simp only [ht, hu, Option.bind_some]
    rfl
  unfold appendX
  rw [hA]
  simp only [appendM, ht, hu, hi, hz, Option.bind_some]
  rw [if_pos ⟨rfl, by omega, by omega, hb, hzl⟩]
  simp
end Go.Proofs.Ytihbdelgoapeoaa.K
