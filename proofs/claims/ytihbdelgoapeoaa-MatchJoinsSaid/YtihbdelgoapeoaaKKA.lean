/- Abstract values and what the machine makes of them: part A. -/
import Derived.Defers
import Derived.Laws.AppendOwn
import Derived.Laws.OwnMore
import Derived.Laws.Sem
import Derived.Laws.Slices
import Derived.Laws.Cells
import Derived.WalkKit
import Derived.Laws.Entries
/- Abstract values: what a value of the machine is, without memory; when a value of the machine is one; and what a stretch of a run may change. -/
namespace Go.Proofs.Ytihbdelgoapeoaa.K
open Go Go.RowKit

/-- What is known of what lies behind a slice that never changes: nothing; that there is no room; that its room is this token's alone. -/
inductive Tok where
  | dead
  | full
  | live (t : Nat)
  deriving DecidableEq

inductive AV where
  | bool (b : Bool)
  | int (k : IntKind) (n : Int)
  | float (k : FloatKind) (bits : Nat)
  | str (s : ByteArray)
  | nilp
  | ptr (id off : Nat)
  | cptr (cs : List AV)
  | nils
  | sl (l : List AV) (t : Tok)
  | msl (id off len cap : Nat)
  | fn (f : Fn) (first cap : List AV)
  | nilf
  | iface (t : TypeId) (v : AV)
  | nili
  | agg (cs : List AV)
  | tup (vs : List AV)

instance : Inhabited AV := ⟨.tup []⟩

def AV.undef : AV := .tup []

/-- The cells of a value. -/
def AV.cells : AV → List AV
  | .agg cs => cs
  | v => [v]

/-- The cells of values side by side. -/
def flat (l : List AV) : List AV := l.flatMap AV.cells

/-- What belongs to a token: a block, its elements' type and size, how many there may be, how many there are. -/
structure TokInfo where
  b : Nat
  e : TypeId
  size : Nat
  cap : Nat
  n : Nat

/-- The ghost: where mutable objects lie, what belongs to tokens, how many numbers have been given away. -/
structure Gh where
  β : Nat → Option Nat
  τ : Nat → Option TokInfo
  n : Nat

/-- A cell that nobody may write any more. -/
def Gh.sealed (G : Gh) (b o : Nat) : Prop :=
  (∀ id, id < G.n → G.β id ≠ some b) ∧ ∀ t i, t < G.n → G.τ t = some i → i.b = b → o < i.n * i.size

/-- A block of which nobody may write anything. -/
def Gh.free (G : Gh) (b : Nat) : Prop :=
  (∀ id, id < G.n → G.β id ≠ some b) ∧ ∀ t i, t < G.n → G.τ t = some i → i.b ≠ b

theorem Gh.free.sealed {G : Gh} {b : Nat} (h : G.free b) (o : Nat) : G.sealed b o :=
  ⟨h.1, fun t i ht hi hb => absurd hb (h.2 t i ht hi)⟩

/-- These cells stand there, for good. -/
def Row (G : Gh) (w : World) (a : Addr) (n : Nat) (c : Nat → Value) : Prop :=
  ∀ i, i < n → w.cell? (a.add i) = some (c i) ∧ G.sealed a.block ((a.add i).off)

inductive Rel (G : Gh) (w : World) : AV → Value → Prop
  | bool (b : Bool) : Rel G w (.bool b) (.bool b)
  | int (k : IntKind) (n : Int) : Rel G w (.int k n) (.int k n)
  | float (k : FloatKind) (n : Nat) : Rel G w (.float k n) (.float k n)
  | str (s : ByteArray) : Rel G w (.str s) (.string s)
  | nilp : Rel G w .nilp (.pointer none)
  | ptr {id off b : Nat} (hn : id < G.n) (h : ∀ b', G.β id = some b' → b' = b) : Rel G w (.ptr id off) (.pointer (some ⟨b, off, none⟩))
  | cptr {cs : List AV} {a : Addr} (c : Nat → Value) (h : Row G w a cs.length c) (hr : ∀ i x, cs[i]? = some x → Rel G w x (c i)) : Rel G w (.cptr cs) (.pointer (some a))
  | nils : Rel G w .nils (.slice none 0 0)
  | sl {l : List AV} {t : Tok} {a : Addr} {len cap : Nat} (size : Nat) (c : Nat → Value) (hlen : len = l.length) (hmax : len ≤ maxLen) (hsize : ∀ x ∈ l, x.cells.length = size)
      (h : Row G w a (len * size) c) (hr : ∀ i x, (flat l)[i]? = some x → Rel G w x (c i)) (hfull : t = .full → cap = len) (hcap : len ≤ cap)
      (hlive : ∀ k, t = .live k → k < G.n ∧ ∀ i, G.τ k = some i → a = ⟨i.b, 0, none⟩ ∧ len = i.n ∧ cap = i.cap ∧ (len = 0 ∨ size = i.size)) : Rel G w (.sl l t) (.slice (some a) len cap)
  | msl {id off len cap cap' b : Nat} (hn : id < G.n) (h : ∀ b', G.β id = some b' → b' = b) (hc : cap ≤ cap') : Rel G w (.msl id off len cap) (.slice (some ⟨b, off, none⟩) len cap')
  | fn {f : Fn} {first cap : List AV} {fs cs : Array Value} (h1 : fs.size = first.length) (h2 : ∀ i x, first[i]? = some x → Rel G w x (fs.getD i undef))
      (h3 : cs.size = cap.length) (h4 : ∀ i x, cap[i]? = some x → Rel G w x (cs.getD i undef)) : Rel G w (.fn f first cap) (.func f fs cs)
  | nilf : Rel G w .nilf .nilFunc
  | iface {t : TypeId} {x : AV} {v : Value} (h : Rel G w x v) : Rel G w (.iface t x) (.iface t v)
  | nili : Rel G w .nili .nilIface
  | agg {cs : List AV} {vs : Array Value} (h1 : vs.size = cs.length) (h2 : ∀ i x, cs[i]? = some x → Rel G w x (vs.getD i undef)) : Rel G w (.agg cs) (.agg vs)
  | tup {cs : List AV} {vs : Array Value} (h1 : vs.size = cs.length) (h2 : ∀ i x, cs[i]? = some x → Rel G w x (vs.getD i undef)) : Rel G w (.tup cs) (.tuple vs)

/-- Values, one by one. -/
def Rels (G : Gh) (w : World) (xs : List AV) (vs : Array Value) : Prop := vs.size = xs.length ∧ ∀ i x, xs[i]? = some x → Rel G w x (vs.getD i undef)

/-- A frame: a slot is known, or nothing is known of it. -/
abbrev Fr := List (Option AV)

/-- The machine's frame is this frame's. -/
def RelF (G : Gh) (w : World) (xs : Fr) (vs : Array Value) : Prop := vs.size = xs.length ∧ ∀ i x, xs[i]? = some (some x) → Rel G w x (vs.getD i undef)

/-- An object of the abstract memory: cells that may be written, or a token: is it live? -/
inductive AO where
  | cells (cs : List AV)
  | tok (live : Bool)

/-- The abstract memory. -/
abbrev Mem := List AO

/-- No cell of the row is frozen. -/
def Unfrozen (c : Array Value) (fr : Nat × Nat) : Prop := ∀ o, o < c.size → ¬ (fr.1 ≤ o ∧ o < fr.2)

/-- The machine's memory is this abstract memory's. -/
structure InvH (G : Gh) (σ : Mem) (w : World) : Prop where
  n : G.n = σ.length
  cells : ∀ id cs, σ[id]? = some (.cells cs) → ∃ b c e fr, G.β id = some b ∧ w.heap[b]? = some (.cells c e fr) ∧ cs.length ≤ c.size ∧ Unfrozen c fr ∧ ∀ i x, cs[i]? = some x → Rel G w x (c.getD i undef)
  ids : ∀ id b, id < G.n → G.β id = some b → ∃ cs, σ[id]? = some (.cells cs)
  toks : ∀ t, σ[t]? = some (.tok true) → ∃ i, G.τ t = some i
  tok : ∀ t i, t < G.n → G.τ t = some i → σ[t]? = some (.tok true) ∧ ∃ c fr, w.heap[i.b]? = some (.cells c i.e fr) ∧ Unfrozen c fr ∧ c.size = i.cap * i.size ∧ i.n ≤ i.cap ∧ i.cap ≤ maxLen ∧ 0 < i.size
  inj : ∀ i j b, i < G.n → j < G.n → G.β i = some b → G.β j = some b → i = j
  tinj : ∀ s t i j, s < G.n → t < G.n → G.τ s = some i → G.τ t = some j → i.b = j.b → s = t
  apart : ∀ id b t i, id < G.n → t < G.n → G.β id = some b → G.τ t = some i → i.b ≠ b

/-- What may have happened. -/
structure Evo (G : Gh) (w : World) (G' : Gh) (w' : World) : Prop where
  os : w'.os = w.os
  tape : w'.tape = w.tape
  output : w'.output = w.output
  size : w.heap.size ≤ w'.heap.size
  n : G.n ≤ G'.n
  β : ∀ id b, id < G.n → G'.β id = some b → G.β id = some b
  τ : ∀ t i, t < G.n → G'.τ t = some i → G.τ t = some i
  cell : ∀ b o, b < w.heap.size → G.sealed b o → G'.sealed b o ∧ w'.cell? ⟨b, o, none⟩ = w.cell? ⟨b, o, none⟩
  block : ∀ b, b < w.heap.size → G.free b → G'.free b ∧ w'.heap[b]? = w.heap[b]?

theorem Evo.refl (G : Gh) (w : World) : Evo G w G w :=
  ⟨rfl, rfl, rfl, Nat.le_refl _, Nat.le_refl _, fun _ _ _ h => h, fun _ _ _ h => h, fun _ _ _ h => ⟨h, rfl⟩, fun _ _ h => ⟨h, rfl⟩⟩

theorem Evo.trans {G G1 G2 : Gh} {w w1 w2 : World} (h : Evo G w G1 w1) (k : Evo G1 w1 G2 w2) : Evo G w G2 w2 where
  os := k.os.trans h.os
  tape := k.tape.trans h.tape
  output := k.output.trans h.output
  size := Nat.le_trans h.size k.size
  n := Nat.le_trans h.n k.n
  β := fun id b hi hb => h.β id b hi (k.β id b (Nat.lt_of_lt_of_le hi h.n) hb)
  τ := fun t i ht hi => h.τ t i ht (k.τ t i (Nat.lt_of_lt_of_le ht h.n) hi)
  cell := fun b o hb hs => by
    obtain ⟨s1, e1⟩ := h.cell b o hb hs
    obtain ⟨s2, e2⟩ := k.cell b o (Nat.lt_of_lt_of_le hb h.size) s1
    exact ⟨s2, e2.trans e1⟩
  block := fun b hb hs => by
    obtain ⟨s1, e1⟩ := h.block b hb hs
    obtain ⟨s2, e2⟩ := k.block b (Nat.lt_of_lt_of_le hb h.size) s1
    exact ⟨s2, e2.trans e1⟩

theorem add_block (a : Addr) (i : Nat) : (a.add i).block = a.block := by unfold Addr.add; split <;> rfl

theorem cell?_spot {w : World} {a : Addr} {v : Value} (h : w.cell? a = some v) : a.spot = none := by
  unfold World.cell? at h
  split at h
  · split at h
    · cases h
    · rename_i hs
      simpa using hs
  · cases h

theorem cell?_lt {w : World} {a : Addr} {v : Value} (h : w.cell? a = some v) : a.block < w.heap.size := World.block_lt_of_cell? w a h

theorem addr_eta {a : Addr} (h : a.spot = none) : a = ⟨a.block, a.off, none⟩ := by cases a; simp_all

theorem Row.evo {G G' : Gh} {w w' : World} {a : Addr} {n : Nat} {c : Nat → Value} (h : Row G w a n c) (e : Evo G w G' w') : Row G' w' a n c := by
  intro i hi
  obtain ⟨h1, h2⟩ := h i hi
  have hs := cell?_spot h1
  have hb := cell?_lt h1
  have he := addr_eta hs
  rw [add_block] at he hb
  obtain ⟨s, q⟩ := e.cell a.block (a.add i).off hb h2
  refine ⟨?_, s⟩
  rw [he] at h1 ⊢
  rw [q, h1]

theorem Rel.evo {G G' : Gh} {w w' : World} (e : Evo G w G' w') {x : AV} {v : Value} (h : Rel G w x v) : Rel G' w' x v := by
  induction h with
  | bool b => exact .bool b
  | int k n => exact .int k n
  | float k n => exact .float k n
  | str s => exact .str s
  | nilp => exact .nilp
  | ptr hn h => exact .ptr (Nat.lt_of_lt_of_le hn e.n) (fun b' hb => h b' (e.β _ _ hn hb))
  | cptr c h hr ih => exact .cptr c (h.evo e) ih
  | nils => exact .nils
  | sl size c hlen hmax hsize h hr hfull hcap hlive ih =>
    exact .sl size c hlen hmax hsize (h.evo e) ih hfull hcap fun k hk => ⟨Nat.lt_of_lt_of_le (hlive k hk).1 e.n, fun i hi => (hlive k hk).2 i (e.τ k i (hlive k hk).1 hi)⟩
  | msl hn h hc => exact .msl (Nat.lt_of_lt_of_le hn e.n) (fun b' hb => h b' (e.β _ _ hn hb)) hc
  | fn h1 h2 h3 h4 ih2 ih4 => exact .fn h1 ih2 h3 ih4
  | nilf => exact .nilf
  | iface h ih => exact .iface ih
  | nili => exact .nili
  | agg h1 h2 ih => exact .agg h1 ih
  | tup h1 h2 ih => exact .tup h1 ih

theorem Rels.evo {G G' : Gh} {w w' : World} (e : Evo G w G' w') {xs : List AV} {vs : Array Value} (h : Rels G w xs vs) : Rels G' w' xs vs :=
  ⟨h.1, fun i x hx => (h.2 i x hx).evo e⟩

theorem RelF.evo {G G' : Gh} {w w' : World} (e : Evo G w G' w') {xs : Fr} {vs : Array Value} (h : RelF G w xs vs) : RelF G' w' xs vs :=
  ⟨h.1, fun i x hx => (h.2 i x hx).evo e⟩

theorem Rels.nil (G : Gh) (w : World) : Rels G w [] #[] := ⟨rfl, fun i x h => by simp at h⟩

/-- No memory yet. -/
def Gh.none : Gh := ⟨fun _ => Option.none, fun _ => Option.none, 0⟩
theorem InvH.start (w : World) : InvH Gh.none [] w where
  n := rfl
  cells := fun id cs h => by simp at h
  ids := fun id b h => by simp [Gh.none] at h
  toks := fun t h => by simp at h
  tok := fun t i h => by simp [Gh.none] at h
  inj := fun i j b h => by simp [Gh.none] at h
  tinj := fun s t i j h => by simp [Gh.none] at h
  apart := fun id b t i h => by simp [Gh.none] at h

theorem Gh.none_sealed (b o : Nat) : Gh.none.sealed b o := ⟨fun id h => by simp [Gh.none] at h, fun t i h => by simp [Gh.none] at h⟩
theorem Gh.none_free (b : Nat) : Gh.none.free b := ⟨fun id h => by simp [Gh.none] at h, fun t i h => by simp [Gh.none] at h⟩

/-- Of what was there at the start nothing has changed. -/
theorem Evo.below {w w' : World} {G' : Gh} (h : Evo Gh.none w G' w') : Below w.heap.size w w' :=
  ⟨h.os, h.tape, h.output, h.size, fun k hk => (h.block k hk (Gh.none_free k)).2⟩

/-- The world has got new blocks alone, or has drawn: what stands in the old ones is as it was. -/
theorem Evo.of_below {G : Gh} {w w' : World} (h : Below w.heap.size w w') : Evo G w G w' where
  os := h.os
  tape := h.tape
  output := h.output
  size := h.size
  n := Nat.le_refl _
  β := fun _ _ _ h => h
  τ := fun _ _ _ h => h
  cell := fun b o hb hs => ⟨hs, h.cell (p := ⟨b, o, none⟩) hb⟩
  block := fun b hb hs => ⟨hs, h.block b hb⟩

theorem InvH.of_below {G : Gh} {σ : Mem} {w w' : World} (hi : InvH G σ w) (h : Below w.heap.size w w') : InvH G σ w' where
  n := hi.n
  cells := fun id cs hc => by
    obtain ⟨b, c, e, fr, h1, h2, h3, hu, h4⟩ := hi.cells id cs hc
    have hb : b < w.heap.size := (Array.getElem?_eq_some_iff.1 h2).1
    exact ⟨b, c, e, fr, h1, (h.block b hb).trans h2, h3, hu, fun i x hx => (h4 i x hx).evo (Evo.of_below h)⟩
  ids := hi.ids
  toks := hi.toks
  tok := fun t i ht hti => by
    obtain ⟨h1, c, fr, h2, h3⟩ := hi.tok t i ht hti
    have hb : i.b < w.heap.size := (Array.getElem?_eq_some_iff.1 h2).1
    exact ⟨h1, c, fr, (h.block _ hb).trans h2, h3⟩
  inj := hi.inj
  tinj := hi.tinj
  apart := hi.apart

end Go.Proofs.Ytihbdelgoapeoaa.K
/- Operations without memory: what they yield of plain values, they yield of the machine's. -/
namespace Go.Proofs.Ytihbdelgoapeoaa.K
open Go Go.RowKit

/-- A plain value of one cell. -/
def ofScalar : Value → Option AV
  | .bool b => some (.bool b)
  | .int k n => some (.int k n)
  | .float k n => some (.float k n)
  | .string s => some (.str s)
  | .pointer none => some .nilp
  | .slice none 0 0 => some .nils
  | .nilFunc => some .nilf
  | .nilIface => some .nili
  | _ => none

/-- A plain value. -/
def ofConst : Value → Option AV
  | .agg cs => (cs.toList.mapM ofScalar).map AV.agg
  | .tuple cs => (cs.toList.mapM ofScalar).map AV.tup
  | v => ofScalar v

def toScalar : AV → Option Value
  | .bool b => some (.bool b)
  | .int k n => some (.int k n)
  | .float k n => some (.float k n)
  | .str s => some (.string s)
  | .nilp => some (.pointer none)
  | .nils => some (.slice none 0 0)
  | .nilf => some .nilFunc
  | .nili => some .nilIface
  | _ => none

def toV : AV → Option Value
  | .agg cs => (cs.mapM toScalar).map fun l => .agg l.toArray
  | .tup cs => (cs.mapM toScalar).map fun l => .tuple l.toArray
  | v => toScalar v

theorem ofScalar_rel {v : Value} {x : AV} (h : ofScalar v = some x) (G : Gh) (w : World) : Rel G w x v := by
  unfold ofScalar at h
  split at h <;> cases h <;> constructor

theorem mapM_get {α β : Type} {f : α → Option β} : ∀ {l : List α} {r : List β}, l.mapM f = some r → r.length = l.length ∧ ∀ (i : Nat) (y : β), r[i]? = some y → ∃ x, l[i]? = some x ∧ f x = some y := by
  intro l
  induction l with
  | nil => intro r h; simp at h; subst h; exact ⟨rfl, fun i y hy => by simp at hy⟩
  | cons a l ih =>
    intro r h
    simp only [List.mapM_cons, Option.bind_eq_bind, Option.bind_eq_some_iff] at h
    obtain ⟨b, hb, r', hr', h⟩ := h
    simp at h
    subst h
    obtain ⟨h1, h2⟩ := ih hr'
    refine ⟨by simp [h1], fun i y hy => ?_⟩
    cases i with
    | zero => simp at hy; subst hy; exact ⟨a, by simp, hb⟩
    | succ i => simp at hy; obtain ⟨x, hx, hf⟩ := h2 i y hy; exact ⟨x, by simpa using hx, hf⟩

theorem ofConst_rel {v : Value} {x : AV} (h : ofConst v = some x) (G : Gh) (w : World) : Rel G w x v := by
  have arr : ∀ (cs : Array Value) (r : List AV), cs.toList.mapM ofScalar = some r → cs.size = r.length ∧ ∀ i y, r[i]? = some y → Rel G w y (cs.getD i undef) := by
    intro cs r hm
    obtain ⟨h1, h2⟩ := mapM_get hm
    refine ⟨by simpa using h1.symm, fun i y hy => ?_⟩
    obtain ⟨u, hu, hf⟩ := h2 i y hy
    have : cs.getD i undef = u := by simp at hu; simp [hu]
    rw [this]
    exact ofScalar_rel hf G w
  unfold ofConst at h
  split at h
  · simp only [Option.map_eq_some_iff] at h
    obtain ⟨r, hr, rfl⟩ := h
    exact .agg (arr _ _ hr).1 (arr _ _ hr).2
  · simp only [Option.map_eq_some_iff] at h
    obtain ⟨r, hr, rfl⟩ := h
    exact .tup (arr _ _ hr).1 (arr _ _ hr).2
  · exact ofScalar_rel h G w

theorem toScalar_eq {x : AV} {v u : Value} {G : Gh} {w : World} (h : toScalar x = some u) (r : Rel G w x v) : v = u := by
  unfold toScalar at h
  split at h <;> cases h <;> cases r <;> rfl

theorem toV_eq {x : AV} {v u : Value} {G : Gh} {w : World} (h : toV x = some u) (r : Rel G w x v) : v = u := by
  have arr : ∀ (cs : List AV) (l : List Value) (vs : Array Value), cs.mapM toScalar = some l → vs.size = cs.length → (∀ i x, cs[i]? = some x → Rel G w x (vs.getD i undef)) → vs = l.toArray := by
    intro cs l vs hm hs hr
    obtain ⟨h1, h2⟩ := mapM_get hm
    apply Array.ext
    · simp [hs, h1]
    · intro i hi hj
      have hil : i < l.length := by simpa using hj
      obtain ⟨y, hy, hf⟩ := h2 i l[i] (by simp [hil])
      have := toScalar_eq hf (hr i y hy)
      simpa [Array.getD, hi] using this
  unfold toV at h
  split at h
  · simp only [Option.map_eq_some_iff] at h
    obtain ⟨l, hl, rfl⟩ := h
    cases r with
    | agg h1 h2 => rw [arr _ _ _ hl h1 h2]
  · simp only [Option.map_eq_some_iff] at h
    obtain ⟨l, hl, rfl⟩ := h
    cases r with
    | tup h1 h2 => rw [arr _ _ _ hl h1 h2]
  · exact toScalar_eq h r

/-- A part of a run that asks for no memory. -/
def pureRun {α : Type} (P : Program) : Sem α → Option α
  | .pure a => some a
  | .program k => pureRun P (k P)
  | _ => none

theorem pureRun_run {α : Type} {P : Program} : ∀ {s : Sem α} {a : α}, pureRun P s = some a → ∀ w, s.run P w = .ok a w := by
  intro s
  induction s with
  | pure a => intro b h w; simp [pureRun] at h; subst h; rfl
  | program k ih => intro b h w; simp only [pureRun] at h; simp only [Sem.run]; exact ih P h w
  | _ => intro b h; simp [pureRun] at h

/-- What an operand is. -/
def ev (s : Fr) : Operand → Option AV
  | .tmp t => (s[t]?).join
  | .const v => ofConst v
  | .func f => some (.fn (.func f) [] [])
  | .global _ => none

theorem ev_rel {G : Gh} {w : World} {s : Fr} {a : Act} (h : RelF G w s a.tmps) {x : Operand} {v : AV} (he : ev s x = some v) : Rel G w v (a.eval x) := by
  cases x with
  | tmp t => exact h.2 t v (Option.join_eq_some_iff.1 he)
  | const u => exact ofConst_rel he G w
  | global g => simp [ev] at he
  | func f => simp [ev] at he; subst he; exact .fn rfl (fun i x h => by simp at h) rfl (fun i x h => by simp at h)

/-- The operand as a plain value of the machine. -/
def evV (s : Fr) (x : Operand) : Option Value := (ev s x).bind toV

theorem evV_eq {G : Gh} {w : World} {s : Fr} {a : Act} (h : RelF G w s a.tmps) {x : Operand} {u : Value} (he : evV s x = some u) : a.eval x = u := by
  simp only [evV, Option.bind_eq_some_iff] at he
  obtain ⟨y, h1, h2⟩ := he
  exact toV_eq h2 (ev_rel h h1)

def optV (s : Fr) : Option Operand → Option (Option Value)
  | none => some none
  | some l => (evV s l).map some

/-- What leads to memory: a list, or a place. -/
def heldA : AV → Option Bool
  | .sl _ _ => some true
  | .msl _ _ _ _ => some true
  | .ptr _ _ => some false
  | .cptr _ => some false
  | _ => none
/-- What is held, against nil. -/
def nilCmp (P : Program) (s : Fr) (op : BinOp) (t : TypeId) (x y : Operand) : Option Bool :=
  (ev s x).bind fun v => (heldA v).bind fun sl => (ev s y).bind fun w => match sl, w, P.underlying t, op with
    | true, .nils, some (.slice _), .eql => some false
    | true, .nils, some (.slice _), .neq => some true
    | false, .nilp, some (.pointer _), .eql => some false
    | false, .nilp, some (.pointer _), .neq => some true
    | _, _, _, _ => none
theorem nilCmp_of {P : Program} {s : Fr} {op : BinOp} {t : TypeId} {x y : Operand} {u : AV} {a : Value} (hx : ev s x = some u) (hu : toV u = some a) : nilCmp P s op t x y = none := by
  cases u <;> first | (simp [toV, toScalar] at hu; done) | simp [nilCmp, hx, heldA]

/-- Operations on plain values. -/
def pureOp (P : Program) (s : Fr) : Op → Option AV
  | .binOp op t x y _ => match nilCmp P s op t x y with
    | some b => some (.bool b)
    | none => do
      let u ← evV s x
      let v ← evV s y
      let r ← pureRun P (do eqGuard op t x y u v; binOp op t u v)
      ofConst r
  | .unOp op _ x => do
    let u ← evV s x
    let r ← pureRun P (Op.unary op u)
    ofConst r
  | .convert a b x => do
    let u ← evV s x
    let r ← pureRun P (convert a b u)
    ofConst r
  | .slice t x lo hi mx => do
    let u ← evV s x
    let lo' ← optV s lo
    let hi' ← optV s hi
    let mx' ← optV s mx
    let r ← pureRun P (Instr.sliceAt t u lo' hi' mx')
    ofConst r
  | .index t x i => do
    let u ← evV s x
    let j ← evV s i
    let r ← pureRun P (Instr.index t u j)
    ofConst r
  | _ => none

theorem bind_some' {α β : Type} {x : Option α} {f : α → Option β} {b : β} (h : (do let a ← x; f a) = some b) : ∃ a, x = some a ∧ f a = some b := by
  simpa [Option.bind_eq_bind, Option.bind_eq_some_iff] using h

theorem opt_eq {G : Gh} {w : World} {s : Fr} {a : Act} (hs : RelF G w s a.tmps) {x : Option Operand} {x' : Option Value}
    (h : optV s x = some x') : x.map a.eval = x' := by
  cases x with
  | none => simp [optV] at h; subst h; rfl
  | some l =>
    simp only [optV, Option.map_eq_some_iff] at h
    obtain ⟨u, hu, rfl⟩ := h
    simp [evV_eq hs hu]

theorem pureOp_sound {P : Program} {G : Gh} {w : World} {s : Fr} {a : Act} (hs : RelF G w s a.tmps) {o : Oper} {r : AV} (h : pureOp P s o.op = some r) :
    ∃ v, (execOp a.eval o).run P w = .ok (.value v) w ∧ Rel G w r v := by
  obtain ⟨dst, op, ty, pos, after, guard⟩ := o
  cases op <;> simp only [pureOp, reduceCtorEq] at h
  case binOp op t x y yt =>
    split at h
    · rename_i b hb
      simp only [nilCmp, Option.bind_eq_some_iff] at hb
      obtain ⟨v, hv, sl, hsl, w', hw', hb⟩ := hb
      cases h
      refine ⟨.bool b, ?_, .bool b⟩
      have h1 := ev_rel hs hv
      have h2 := ev_rel hs hw'
      simp only [execOp]
      generalize a.eval x = xv at h1
      generalize a.eval y = yv at h2
      have key : pureRun P (do eqGuard op t x y xv yv; binOp op t xv yv) = some (.bool b) := by
        split at hb
        all_goals (try (cases hb))
        all_goals (rename_i _ hund; cases h2)
        all_goals (cases h1 <;> simp only [heldA, reduceCtorEq, Option.some.injEq, Bool.true_eq_false, Bool.false_eq_true] at hsl)
        all_goals (simp only [eqGuard, binOp, Op.equal, Op.maxDepth]; unfold Op.equalIn; simp [pureRun, hund, underlying, program, bind, Sem.bind, pure])
      have := pureRun_run key w
      simp only [Sem.run_bind] at this ⊢
      simp only [this]
      rfl
    obtain ⟨u, hu, h⟩ := bind_some' h
    obtain ⟨v, hv, h⟩ := bind_some' h
    obtain ⟨z, hz, h⟩ := bind_some' h
    refine ⟨z, ?_, ofConst_rel h G w⟩
    have := pureRun_run hz w
    simp only [execOp, evV_eq hs hu, evV_eq hs hv]
    simp only [Sem.run_bind, this]
    rfl
  case unOp op t x =>
    obtain ⟨u, hu, h⟩ := bind_some' h
    obtain ⟨z, hz, h⟩ := bind_some' h
    refine ⟨z, ?_, ofConst_rel h G w⟩
    have := pureRun_run hz w
    simp only [execOp, evV_eq hs hu]
    simp only [Sem.run_bind, this]
    rfl
  case convert t t' x =>
    obtain ⟨u, hu, h⟩ := bind_some' h
    obtain ⟨z, hz, h⟩ := bind_some' h
    refine ⟨z, ?_, ofConst_rel h G w⟩
    have := pureRun_run hz w
    simp only [execOp, evV_eq hs hu]
    simp only [Sem.run_bind, this]
    rfl
  case slice t x lo hi mx =>
    obtain ⟨u, hu, h⟩ := bind_some' h
    obtain ⟨lo', hlo, h⟩ := bind_some' h
    obtain ⟨hi', hhi, h⟩ := bind_some' h
    obtain ⟨mx', hmx, h⟩ := bind_some' h
    obtain ⟨z, hz, h⟩ := bind_some' h
    refine ⟨z, ?_, ofConst_rel h G w⟩
    have := pureRun_run hz w
    simp only [execOp, evV_eq hs hu, opt_eq hs hlo, opt_eq hs hhi, opt_eq hs hmx]
    simp only [Sem.run_bind, this]
    rfl
  case index t x i =>
    obtain ⟨u, hu, h⟩ := bind_some' h
    obtain ⟨v, hv, h⟩ := bind_some' h
    obtain ⟨z, hz, h⟩ := bind_some' h
    refine ⟨z, ?_, ofConst_rel h G w⟩
    have := pureRun_run hz w
    simp only [execOp, evV_eq hs hu, evV_eq hs hv]
    simp only [Sem.run_bind, this]
    rfl

end Go.Proofs.Ytihbdelgoapeoaa.K
/- The abstract memory grows by an object; a mutable cell is written; a row with room gets more cells. -/
namespace Go.Proofs.Ytihbdelgoapeoaa.K
open Go Go.RowKit

def Gh.add (G : Gh) (ob : Option Nat) (ot : Option TokInfo) : Gh :=
  ⟨fun id => if id = G.n then ob else G.β id, fun t => if t = G.n then ot else G.τ t, G.n + 1⟩

/-- A new object that lies in new blocks. -/
structure New (G : Gh) (w w' : World) (ob : Option Nat) (ot : Option TokInfo) (obj : AO) : Prop where
  below : Below w.heap.size w w'
  cells : ∀ b, ob = some b → w.heap.size ≤ b ∧ ∃ cs c e fr, obj = .cells cs ∧ w'.heap[b]? = some (.cells c e fr) ∧ cs.length ≤ c.size ∧ Unfrozen c fr ∧ ∀ i x, cs[i]? = some x → Rel G w x (c.getD i undef)
  has : ∀ cs, obj = .cells cs → ∃ b, ob = some b
  tok : ∀ i, ot = some i → obj = .tok true ∧ w.heap.size ≤ i.b ∧ ∃ c fr, w'.heap[i.b]? = some (.cells c i.e fr) ∧ Unfrozen c fr ∧ c.size = i.cap * i.size ∧ i.n ≤ i.cap ∧ i.cap ≤ maxLen ∧ 0 < i.size
  live : obj = .tok true → ∃ i, ot = some i

theorem New.evo {G : Gh} {w w' : World} {ob : Option Nat} {ot : Option TokInfo} {obj : AO} (h : New G w w' ob ot obj) : Evo G w (G.add ob ot) w' where
  os := h.below.os
  tape := h.below.tape
  output := h.below.output
  size := h.below.size
  n := Nat.le_succ _
  β := fun id b hi hb => by simp only [Gh.add] at hb; rwa [if_neg (by omega)] at hb
  τ := fun t i ht hi => by simp only [Gh.add] at hi; rwa [if_neg (by omega)] at hi
  cell := fun b o hb hs => by
    refine ⟨⟨fun id hi => ?_, fun t i ht hi hib => ?_⟩, h.below.cell (p := ⟨b, o, none⟩) hb⟩
    · simp only [Gh.add] at hi ⊢
      split
      · intro e
        have := (h.cells b e).1
        omega
      · exact hs.1 id (by omega)
    · simp only [Gh.add] at ht hi
      split at hi
      · have := (h.tok i hi).2.1
        omega
      · exact hs.2 t i (by omega) hi hib
  block := fun b hb hs => by
    refine ⟨⟨fun id hi => ?_, fun t i ht hi => ?_⟩, h.below.block b hb⟩
    · simp only [Gh.add] at hi ⊢
      split
      · intro e
        have := (h.cells b e).1
        omega
      · exact hs.1 id (by omega)
    · simp only [Gh.add] at ht hi
      split at hi
      · have := (h.tok i hi).2.1
        omega
      · exact hs.2 t i (by omega) hi

theorem InvH.lt_of_cells {G : Gh} {σ : Mem} {w : World} (h : InvH G σ w) {id b : Nat} (hi : id < G.n) (hb : G.β id = some b) : b < w.heap.size := by
  obtain ⟨cs, hc⟩ := h.ids id b hi hb
  obtain ⟨b', c, e, fr, h1, h2, _⟩ := h.cells id cs hc
  rw [hb] at h1
  cases h1
  exact (Array.getElem?_eq_some_iff.1 h2).1

theorem InvH.lt_of_tok {G : Gh} {σ : Mem} {w : World} (h : InvH G σ w) {t : Nat} {i : TokInfo} (ht : t < G.n) (hi : G.τ t = some i) : i.b < w.heap.size := by
  obtain ⟨_, c, fr, h2, _⟩ := h.tok t i ht hi
  exact (Array.getElem?_eq_some_iff.1 h2).1

theorem New.inv {G : Gh} {σ : Mem} {w w' : World} {ob : Option Nat} {ot : Option TokInfo} {obj : AO} (h : New G w w' ob ot obj) (hi : InvH G σ w) : InvH (G.add ob ot) (σ ++ [obj]) w' := by
  have ev := h.evo
  have hn := hi.n
  have look : ∀ (id : Nat) (o : AO), (σ ++ [obj])[id]? = some o → (id < G.n ∧ σ[id]? = some o) ∨ (id = G.n ∧ o = obj) := by
    intro id o ho
    rw [List.getElem?_append] at ho
    split at ho
    · exact .inl ⟨by omega, ho⟩
    · rename_i hl
      have : id - σ.length = 0 := by
        rcases Nat.eq_zero_or_pos (id - σ.length) with h0 | h0
        · exact h0
        · rw [List.getElem?_eq_none (by simp; omega)] at ho; cases ho
      rw [this] at ho
      simp at ho
      exact .inr ⟨by omega, ho.symm⟩
  have put : ∀ (id : Nat) (o : AO), id < G.n → σ[id]? = some o → (σ ++ [obj])[id]? = some o := by
    intro id o hlt ho
    rw [List.getElem?_append_left (by omega)]
    exact ho
  have last : (σ ++ [obj])[G.n]? = some obj := by rw [hn]; simp
  have βo : ∀ id, id < G.n → (G.add ob ot).β id = G.β id := fun id hi => by simp only [Gh.add]; rw [if_neg (by omega)]
  have τo : ∀ t, t < G.n → (G.add ob ot).τ t = G.τ t := fun t ht => by simp only [Gh.add]; rw [if_neg (by omega)]
  have βn : (G.add ob ot).β G.n = ob := by simp [Gh.add]
  have τn : (G.add ob ot).τ G.n = ot := by simp [Gh.add]
  have nn : (G.add ob ot).n = G.n + 1 := rfl
  refine ⟨by simp [nn, hn], ?_, ?_, ?_, ?_, ?_, ?_, ?_⟩
  · intro id cs ho
    rcases look id _ ho with ⟨hlt, ho⟩ | ⟨rfl, ho2⟩
    · obtain ⟨b, c, e, fr, h1, h2, h3, hu, h4⟩ := hi.cells id cs ho
      refine ⟨b, c, e, fr, (βo id hlt).trans h1, ?_, h3, hu, fun i x hx => (h4 i x hx).evo ev⟩
      rw [h.below.block b (hi.lt_of_cells hlt h1)]
      exact h2
    · obtain ⟨b, hb⟩ := h.has cs ho2.symm
      obtain ⟨_, cs', c, e, fr, hobj, h2, h3, hu, h4⟩ := h.cells b hb
      rw [← ho2] at hobj
      cases hobj
      exact ⟨b, c, e, fr, βn.trans hb, h2, h3, hu, fun i x hx => (h4 i x hx).evo ev⟩
  · intro id b hlt hb
    rcases Nat.lt_or_ge id G.n with h1 | h1
    · rw [βo id h1] at hb
      obtain ⟨cs, hc⟩ := hi.ids id b h1 hb
      exact ⟨cs, put id _ h1 hc⟩
    · obtain rfl : id = G.n := by omega
      rw [βn] at hb
      obtain ⟨_, cs, c, e, fr, hobj, _⟩ := h.cells b hb
      exact ⟨cs, by rw [last, hobj]⟩
  · intro t ht
    rcases look t _ ht with ⟨hlt, ho⟩ | ⟨rfl, ho2⟩
    · rw [τo t hlt]
      exact hi.toks t ho
    · rw [τn]
      exact h.live ho2.symm
  · intro t i hlt hti
    rcases Nat.lt_or_ge t G.n with h1 | h1
    · rw [τo t h1] at hti
      obtain ⟨h2, c, fr, h3, h4⟩ := hi.tok t i h1 hti
      refine ⟨put t _ h1 h2, c, fr, ?_, h4⟩
      rw [h.below.block i.b (hi.lt_of_tok h1 hti)]
      exact h3
    · obtain rfl : t = G.n := by omega
      rw [τn] at hti
      obtain ⟨h2, h3, c, fr, h4⟩ := h.tok i hti
      exact ⟨by rw [last, h2], c, fr, h4⟩
  · intro i j b hl1 hl2 h1 h2
    rcases Nat.lt_or_ge i G.n with g1 | g1 <;> rcases Nat.lt_or_ge j G.n with g2 | g2
    · rw [βo i g1] at h1; rw [βo j g2] at h2; exact hi.inj i j b g1 g2 h1 h2
    · obtain rfl : j = G.n := by omega
      rw [βo i g1] at h1; rw [βn] at h2
      have := hi.lt_of_cells g1 h1
      have := (h.cells b h2).1
      omega
    · obtain rfl : i = G.n := by omega
      rw [βo j g2] at h2; rw [βn] at h1
      have := hi.lt_of_cells g2 h2
      have := (h.cells b h1).1
      omega
    · omega
  · intro s t i j hl1 hl2 h1 h2 hij
    rcases Nat.lt_or_ge s G.n with g1 | g1 <;> rcases Nat.lt_or_ge t G.n with g2 | g2
    · rw [τo s g1] at h1; rw [τo t g2] at h2; exact hi.tinj s t i j g1 g2 h1 h2 hij
    · obtain rfl : t = G.n := by omega
      rw [τo s g1] at h1; rw [τn] at h2
      have := hi.lt_of_tok g1 h1
      have := (h.tok j h2).2.1
      omega
    · obtain rfl : s = G.n := by omega
      rw [τo t g2] at h2; rw [τn] at h1
      have := hi.lt_of_tok g2 h2
      have := (h.tok i h1).2.1
      omega
    · omega
  · intro id b t i hl1 hl2 h1 h2 hib
    rcases Nat.lt_or_ge id G.n with g1 | g1 <;> rcases Nat.lt_or_ge t G.n with g2 | g2
    · rw [βo id g1] at h1; rw [τo t g2] at h2; exact hi.apart id b t i g1 g2 h1 h2 hib
    · obtain rfl : t = G.n := by omega
      rw [βo id g1] at h1; rw [τn] at h2
      have := hi.lt_of_cells g1 h1
      have := (h.tok i h2).2.1
      omega
    · obtain rfl : id = G.n := by omega
      rw [τo t g2] at h2; rw [βn] at h1
      have := hi.lt_of_tok g2 h2
      have := (h.cells b h1).1
      omega
    · obtain rfl : id = G.n := by omega
      obtain rfl : t = G.n := by omega
      rw [βn] at h1; rw [τn] at h2
      obtain ⟨_, cs, c, e, fr, hobj, _⟩ := h.cells b h1
      have := (h.tok i h2).1
      rw [hobj] at this
      cases this

/-- A new block of cells that may be written. -/
theorem New.ofCells {G : Gh} {w : World} {c : Array Value} {e : TypeId} {cs : List AV} (hs : cs.length ≤ c.size) (hr : ∀ i x, cs[i]? = some x → Rel G w x (c.getD i undef)) :
    New G w (w.alloc (.cells c e)) (some w.heap.size) none (.cells cs) where
  below := (Below.refl _ _).alloc (Nat.le_refl _) _
  cells := fun b hb => by
    cases hb
    exact ⟨Nat.le_refl _, cs, c, e, (0, 0), rfl, heap_alloc_new w _, hs, fun o ho h => by omega, hr⟩
  has := fun _ _ => ⟨_, rfl⟩
  tok := fun i hi => by cases hi
  live := fun h => by cases h

/-- Nothing but a number is given away. -/
theorem New.dead {G : Gh} {w w' : World} (h : Below w.heap.size w w') : New G w w' none none (.tok false) :=
  ⟨h, fun b hb => (by cases hb), fun cs hc => (by cases hc), fun i hi => (by cases hi), fun hc => (by cases hc)⟩

/-- Mutable cells are written. -/
theorem InvH.write {G : Gh} {σ : Mem} {w w' : World} (hi : InvH G σ w) {id b : Nat} {old cs : List AV} {c : Array Value} {e : TypeId} {fr : Nat × Nat} (ho : σ[id]? = some (.cells old)) (hb : G.β id = some b)
    (hw : w'.heap[b]? = some (.cells c e fr)) (hs : cs.length ≤ c.size) (hu : Unfrozen c fr) (hr : ∀ i x, cs[i]? = some x → Rel G w x (c.getD i undef))
    (hos : w'.os = w.os) (htape : w'.tape = w.tape) (hout : w'.output = w.output) (hsize : w'.heap.size = w.heap.size) (hblock : ∀ k, k ≠ b → w'.heap[k]? = w.heap[k]?) :
    InvH G (σ.set id (.cells cs)) w' ∧ Evo G w G w' := by
  have hlt : id < G.n := by
    rw [hi.n]
    exact (List.getElem?_eq_some_iff.1 ho).1
  have ev : Evo G w G w' := by
    refine ⟨hos, htape, hout, by omega, Nat.le_refl _, fun _ _ _ h => h, fun _ _ _ h => h, fun b' o hb' hs' => ⟨hs', ?_⟩, fun b' hb' hs' => ⟨hs', ?_⟩⟩
    · have hne : b' ≠ b := fun h => hs'.1 id hlt (h ▸ hb)
      exact World.cell?_of_block (hblock b' hne)
    · have hne : b' ≠ b := fun h => hs'.1 id hlt (h ▸ hb)
      exact hblock b' hne
  refine ⟨⟨by rw [List.length_set]; exact hi.n, ?_, ?_, ?_, ?_, hi.inj, hi.tinj, hi.apart⟩, ev⟩
  · intro j cs' hj
    rw [List.getElem?_set] at hj
    split at hj
    · rename_i hij
      subst hij
      split at hj
      · cases hj
        exact ⟨b, c, e, fr, hb, hw, hs, hu, fun i x hx => (hr i x hx).evo ev⟩
      · cases hj
    · rename_i hij
      obtain ⟨b', c', e', fr', h1, h2, h3, hu', h4⟩ := hi.cells j cs' hj
      have hjl : j < G.n := by
        rw [hi.n]
        exact (List.getElem?_eq_some_iff.1 hj).1
      have hne : b' ≠ b := fun h => hij (hi.inj id j b hlt hjl hb (h ▸ h1))
      exact ⟨b', c', e', fr', h1, (hblock b' hne).trans h2, h3, hu', fun i x hx => (h4 i x hx).evo ev⟩
  · intro j b' hjl hj
    obtain ⟨cs', hc⟩ := hi.ids j b' hjl hj
    by_cases hij : id = j
    · subst hij
      refine ⟨cs, ?_⟩
      rw [List.getElem?_set]
      simp [show id < σ.length from by have := hi.n; omega]
    · exact ⟨cs', by rw [List.getElem?_set, if_neg hij]; exact hc⟩
  · intro t ht
    rw [List.getElem?_set] at ht
    split at ht
    · split at ht
      · cases ht
      · cases ht
    · exact hi.toks t ht
  · intro t i htl hti
    obtain ⟨h1, c', fr', h2, h3⟩ := hi.tok t i htl hti
    have hne : i.b ≠ b := fun h => hi.apart id b t i hlt htl hb hti h
    refine ⟨?_, c', fr', (hblock i.b hne).trans h2, h3⟩
    rw [List.getElem?_set, if_neg]
    · exact h1
    · rintro rfl
      rw [ho] at h1
      cases h1

end Go.Proofs.Ytihbdelgoapeoaa.K
/- Loads and stores, and what is read of a type. -/
namespace Go.Proofs.Ytihbdelgoapeoaa.K
open Go Go.RowKit
set_option linter.unusedSimpArgs false

def zeroA (P : Program) (t : TypeId) : Option AV := ((P.info? t).bind (·.zero)).bind ofConst
def sizeA (P : Program) (t : TypeId) : Option Nat := (P.info? t).map (·.size)
def aggD : TypeDesc → Bool
  | .struct _ | .array .. => true
  | _ => false
def aggA (P : Program) (t : TypeId) : Option Bool := (P.underlying t).map aggD

theorem add_add (a : Addr) (m n : Nat) : (a.add m).add n = a.add (m + n) := by
  unfold Addr.add
  by_cases hm : m = 0
  · subst hm; simp
  · by_cases hn : n = 0
    · subst hn; simp
    · simp [hm, hn, Nat.add_assoc]

theorem add_plain' (b o i : Nat) : (⟨b, o, none⟩ : Addr).add i = ⟨b, o + i, none⟩ := by
  unfold Addr.add
  split
  · rename_i h; subst h; rfl
  · rfl

theorem run_size {P : Program} {t : TypeId} {n : Nat} (h : sizeA P t = some n) (w : World) : (sizeOf t).run P w = .ok n w := by
  simp only [sizeA, Option.map_eq_some_iff] at h
  obtain ⟨i, hi, rfl⟩ := h
  simp [sizeOf, typeInfo, hi]

theorem run_agg {P : Program} {t : TypeId} {g : Bool} (h : aggA P t = some g) (w : World) : (isAgg t).run P w = .ok g w := by
  simp only [aggA, Option.map_eq_some_iff] at h
  obtain ⟨d, hd, rfl⟩ := h
  unfold isAgg
  simp only [Sem.run_bind, run_underlying hd]
  cases d <;> rfl

theorem run_zero {P : Program} {t : TypeId} {x : AV} (h : zeroA P t = some x) (w : World) : ∃ v, (zeroValue t).run P w = .ok v w ∧ ofConst v = some x := by
  simp only [zeroA, Option.bind_eq_some_iff] at h
  obtain ⟨v, ⟨i, hi, hz⟩, hv⟩ := h
  exact ⟨v, by simp [zeroValue, typeInfo, hi, hz], hv⟩

/-- The cells of related values are related, one by one. -/
theorem Rel.cells {G : Gh} {w : World} {x : AV} {v : Value} (h : Rel G w x v) : v.cells.size = x.cells.length ∧ ∀ (i : Nat) (y : AV), x.cells[i]? = some y → Rel G w y (v.cells.getD i undef) := by
  have one : ∀ {x : AV} {v : Value}, Rel G w x v → x.cells = [x] → v.cells = #[v] → v.cells.size = x.cells.length ∧ ∀ (i : Nat) (y : AV), x.cells[i]? = some y → Rel G w y (v.cells.getD i undef) := by
    intro x v h e1 e2
    rw [e1, e2]
    refine ⟨rfl, fun i y hy => ?_⟩
    cases i with
    | zero => simp at hy; subst hy; exact h
    | succ i => simp at hy
  cases h with
  | agg h1 h2 => exact ⟨h1, h2⟩
  | bool b => exact one (.bool b) rfl rfl
  | int k n => exact one (.int k n) rfl rfl
  | float k n => exact one (.float k n) rfl rfl
  | str s => exact one (.str s) rfl rfl
  | nilp => exact one .nilp rfl rfl
  | ptr hn h => exact one (.ptr hn h) rfl rfl
  | cptr c h hr => exact one (.cptr c h hr) rfl rfl
  | nils => exact one .nils rfl rfl
  | sl size c a1 a2 a3 a4 a5 a6 a7 a8 => exact one (.sl size c a1 a2 a3 a4 a5 a6 a7 a8) rfl rfl
  | msl hn h hc => exact one (.msl hn h hc) rfl rfl
  | fn h1 h2 h3 h4 => exact one (.fn h1 h2 h3 h4) rfl rfl
  | nilf => exact one .nilf rfl rfl
  | iface h => exact one (.iface h) rfl rfl
  | nili => exact one .nili rfl rfl
  | tup h1 h2 => exact one (.tup h1 h2) rfl rfl

/-- A value of one cell. -/
def AV.one : AV → Bool
  | .agg _ | .tup _ => false
  | _ => true

theorem Rel.one {G : Gh} {w : World} {x : AV} {v : Value} (h : Rel G w x v) (h1 : x.one = true) : v.oneCell' = true := by
  cases h <;> first | rfl | simp [AV.one] at h1

/-! ### Loads -/
/-- What a variable of this type holds, its cells standing at the beginning of these. -/
def loadA (P : Program) (t : TypeId) (cs : List AV) : Option AV :=
  (aggA P t).bind fun g => if g then (sizeA P t).bind fun n => if n ≤ cs.length then some (.agg (cs.take n)) else none else cs[0]?

theorem load_sound {P : Program} {G : Gh} {w : World} {t : TypeId} {a : Addr} {cs : List AV} {r : AV} (c : Nat → Value) (hc : ∀ i, i < cs.length → w.cell? (a.add i) = some (c i))
    (hr : ∀ i x, cs[i]? = some x → Rel G w x (c i)) (h : loadA P t cs = some r) : ∃ v, (loadVar t a).run P w = .ok v w ∧ Rel G w r v := by
  simp only [loadA, Option.bind_eq_some_iff] at h
  obtain ⟨g, hg, h⟩ := h
  cases g with
  | true =>
    simp only [if_true, Option.bind_eq_some_iff] at h
    obtain ⟨n, hn, h⟩ := h
    split at h
    · rename_i hle
      cases h
      refine ⟨.agg ((List.range n).map c).toArray, ?_, ?_⟩
      · have := run_loadCells (P := P) (w := w) a n c (fun j hj => hc j (by omega))
        simp [loadVar, run_agg hg, run_size hn, this]
      · refine .agg (by simp; omega) fun i x hx => ?_
        rw [List.getElem?_take] at hx
        split at hx
        · rename_i hi
          have := hr i x hx
          simpa [Array.getD_eq_getD_getElem?, hi] using this
        · cases hx
    · cases h
  | false =>
    simp only [Bool.false_eq_true, if_false] at h
    have hlt : 0 < cs.length := (List.getElem?_eq_some_iff.1 h).1
    refine ⟨c 0, ?_, hr 0 r h⟩
    have h0 := hc 0 hlt
    have : a.add 0 = a := by simp [Addr.add]
    rw [this] at h0
    simp [loadVar, run_agg hg, load, Sem.run, h0]

/-! ### Stores -/
def putA (cs : List AV) (off : Nat) (xs : List AV) : List AV := cs.take off ++ xs ++ cs.drop (off + xs.length)

theorem setCell_row {w : World} {b o : Nat} {c : Array Value} {e : TypeId} {fr : Nat × Nat} {v : Value} (h : w.heap[b]? = some (.cells c e fr)) :
    (w.setCell ⟨b, o, none⟩ v).heap[b]? = some (.cells (c.setIfInBounds o v) e fr) := by
  simp [World.setCell, Array.getElem?_modify, h]

theorem run_storeCells_row {P : Program} {b o : Nat} {e : TypeId} {fr : Nat × Nat} : ∀ (vs : List Value) (i : Nat) (c : Array Value) (w : World), w.heap[b]? = some (.cells c e fr) → Unfrozen c fr → o + i + vs.length ≤ c.size →
    (∀ v ∈ vs, v.oneCell' = true) → ∃ w' c', (storeCells ⟨b, o, none⟩ vs i).run P w = .ok () w' ∧ w'.heap[b]? = some (.cells c' e fr) ∧ c'.size = c.size ∧
      (∀ j, c'.getD j undef = if o + i ≤ j ∧ j < o + i + vs.length then vs.getD (j - (o + i)) undef else c.getD j undef) ∧
      w'.os = w.os ∧ w'.tape = w.tape ∧ w'.output = w.output ∧ w'.heap.size = w.heap.size ∧ ∀ k, k ≠ b → w'.heap[k]? = w.heap[k]?
  | [], i, c, w, h, hu, hl, h1 => ⟨w, c, rfl, h, rfl, fun j => by rw [if_neg (fun h => absurd h.1 (by have := h.2; simp at this; omega))], rfl, rfl, rfl, rfl, fun _ _ => rfl⟩
  | v :: vs, i, c, w, h, hu, hl, h1 => by
    simp only [List.length_cons] at hl
    have hcell : w.cell? ⟨b, o + i, none⟩ = some c[o + i] := by simp [World.cell?, h, show o + i < c.size by omega]
    have hfr : w.frozen? ⟨b, o + i, none⟩ = false := by
      have := hu (o + i) (by omega)
      simp only [World.frozen?, h]
      simpa using this
    have hst : (store ((⟨b, o, none⟩ : Addr).add i) v).run P w = .ok () (w.setCell ⟨b, o + i, none⟩ v) := by
      rw [add_plain', run_store P w _ v _ (h1 v (by simp)), hcell]
      simp [hfr]
    have hrow := setCell_row (v := v) (o := o + i) h
    obtain ⟨w', c', hr, hb, hs, hc, e1, e2, e3, e4, e5⟩ := run_storeCells_row (P := P) (b := b) (o := o) vs (i + 1) (c.setIfInBounds (o + i) v) (w.setCell ⟨b, o + i, none⟩ v) hrow (by
      intro k hk
      rw [Array.size_setIfInBounds] at hk
      exact hu k hk) (by rw [Array.size_setIfInBounds]; omega) (fun u hu' => h1 u (by simp [hu']))
    refine ⟨w', c', ?_, hb, by rw [hs, Array.size_setIfInBounds], fun j => ?_, e1, e2, e3, ?_, fun k hk => ?_⟩
    · simp only [storeCells, Sem.run_bind, hst]
      exact hr
    · rw [hc j]
      simp only [List.length_cons]
      by_cases hj : j = o + i
      · subst hj
        rw [if_neg (by omega), if_pos (by omega)]
        simp [Array.getD, show o + i < c.size by omega]
      · by_cases hj2 : o + (i + 1) ≤ j ∧ j < o + (i + 1) + vs.length
        · rw [if_pos hj2, if_pos (by omega)]
          have : j - (o + i) = (j - (o + (i + 1))) + 1 := by omega
          rw [this]
          rfl
        · rw [if_neg hj2, if_neg (by omega)]
          simp only [Array.getD_eq_getD_getElem?]
          rw [Array.getElem?_setIfInBounds_ne (Ne.symm hj)]
    · rw [e4]; simp [World.setCell]
    · rw [e5 k hk]
      exact Below.heap_setCell _ _ _ _ hk

theorem mem_getD {α : Type} {l : List α} {x d : α} (h : x ∈ l) : ∃ i, i < l.length ∧ l.getD i d = x := by
  obtain ⟨i, hi, rfl⟩ := List.getElem_of_mem h
  exact ⟨i, hi, by simp [List.getD, hi]⟩

/-- A store into a mutable object. -/
theorem store_sound {P : Program} {G : Gh} {σ : Mem} {w : World} (hi : InvH G σ w) {id off b : Nat} {old : List AV} {t : TypeId} {x : AV} {v : Value} (ho : σ[id]? = some (.cells old)) (hb : G.β id = some b) (hx : Rel G w x v)
    (ht : sizeA P t = some x.cells.length) (hfit : off + x.cells.length ≤ old.length) (hone : x.cells.all AV.one = true) :
    ∃ w', (storeVar t ⟨b, off, none⟩ v).run P w = .ok () w' ∧ InvH G (σ.set id (.cells (putA old off x.cells))) w' ∧ Evo G w G w' := by
  obtain ⟨b', c, e, fr, h1, h2, h3, hu, h4⟩ := hi.cells id old ho
  rw [hb] at h1
  cases h1
  obtain ⟨hvs, hvr⟩ := hx.cells
  have hones : ∀ u ∈ v.cells.toList, u.oneCell' = true := by
    intro u hu'
    obtain ⟨i, hil, rfl⟩ := mem_getD (d := undef) hu'
    have hil' : i < x.cells.length := by rw [← hvs]; simpa using hil
    have hone' := (List.all_eq_true.1 hone) x.cells[i] (by simp)
    have hrel := hvr i x.cells[i] (by simp [hil'])
    have := hrel.one hone'
    simpa [Array.getD_eq_getD_getElem?, List.getD] using this
  obtain ⟨w', c', hr, hrow, hs, hc, e1, e2, e3, e4, e5⟩ := run_storeCells_row (P := P) (o := off) v.cells.toList 0 c w h2 hu (by simp only [Array.length_toList, Nat.add_zero, hvs]; omega) hones
  have hlen : (putA old off x.cells).length = old.length := by simp [putA]; omega
  refine ⟨w', ?_, hi.write ho hb hrow (by omega) (fun o ho' => hu o (by rw [← hs]; exact ho')) (fun i y hy => ?_) e1 e2 e3 e4 e5⟩
  · unfold storeVar
    simp only [Sem.run_bind, run_size ht, hvs]
    simpa using hr
  · have hcj := hc i
    rw [hcj]
    simp only [Nat.add_zero, Array.length_toList, hvs]
    simp only [putA] at hy
    by_cases hin : off ≤ i ∧ i < off + x.cells.length
    · rw [if_pos hin]
      have : x.cells[i - off]? = some y := by
        rw [List.getElem?_append_left (by simp; omega), List.getElem?_append_right (by simp; omega)] at hy
        simpa [show min off old.length = off by omega] using hy
      have := hvr (i - off) y this
      simpa [Array.getD_eq_getD_getElem?, List.getD] using this
    · rw [if_neg hin]
      refine h4 i y ?_
      by_cases hlo : i < off
      · rw [List.getElem?_append_left (by simp; omega), List.getElem?_append_left (by simp; omega), List.getElem?_take] at hy
        simpa [hlo] using hy
      · rw [List.getElem?_append_right (by simp; omega), List.getElem?_drop] at hy
        simp only [List.length_append, List.length_take, show min off old.length = off by omega] at hy
        rw [show off + x.cells.length + (i - (off + x.cells.length)) = i by omega] at hy
        exact hy

end Go.Proofs.Ytihbdelgoapeoaa.K
/- Operations on memory, calls and appends aside: what they yield of abstract values, they yield of the machine's. -/
namespace Go.Proofs.Ytihbdelgoapeoaa.K
open Go Go.RowKit
set_option linter.unusedSimpArgs false

/-- An operation has yielded this value, or nothing. -/
def Gives (nx : Next) (v : Value) : Prop := nx = .value v ∨ (nx = .skip ∧ v = undef)

/-- What is to be shown of an operation. -/
def OpOK (P : Program) (G : Gh) (w : World) (a : Act) (o : Oper) (r : AV) (σ' : Mem) : Prop :=
  ∃ G' nx v w', (execOp a.eval o).run P w = .ok nx w' ∧ Gives nx v ∧ InvH G' σ' w' ∧ Evo G w G' w' ∧ Rel G' w' r v

def intA : AV → Option Int
  | .int _ n => some n
  | _ => none

/-- A field's type and place. -/
def fieldA (P : Program) (t : TypeId) (f : Nat) : Option (TypeId × Nat) :=
  match P.underlying t with
  | some (.struct fs) => (fs[f]?).map fun x => (x.type, x.offset)
  | _ => none

/-- A part of a struct's or an array's cells. -/
def partA (P : Program) (t : TypeId) (cs : List AV) (off : Nat) : Option AV := loadA P t (cs.drop off)

/-- xs[l:h:m] -/
def cutSl (l : List AV) (t : Tok) (lo hi : Nat) (mx : Option Nat) : Option AV :=
  if lo ≤ hi ∧ hi ≤ (mx.getD l.length) ∧ (mx.getD l.length) ≤ l.length then
    some (.sl ((l.take hi).drop lo) (match mx with
      | none => if hi = l.length then (if lo = 0 then t else if t = .full then .full else .dead) else .dead
      | some m => if hi = m then .full else .dead))
  else none

/-- The elements (all of one size) are of this size. -/
def sizeOK (z : Nat) : List AV → Bool
  | [] => true
  | x :: _ => x.cells.length == z

def cutM (id off cap size lo hi : Nat) (mx : Option Nat) : Option AV :=
  if lo ≤ hi ∧ hi ≤ (mx.getD cap) ∧ (mx.getD cap) ≤ cap then
    some (if lo < mx.getD cap then .msl id (off + lo * size) (hi - lo) (mx.getD cap - lo) else .sl [] .dead)
  else none

/-- A bound of a slice expression: what is given, or else. -/
def natB (s : Fr) (d : Nat) : Option Operand → Option Nat
  | none => some d
  | some x => ((ev s x).bind intA).bind fun n => if 0 ≤ n then some n.toNat else none
def natM (s : Fr) : Option Operand → Option (Option Nat)
  | none => some none
  | some x => ((ev s x).bind intA).bind fun n => if 0 ≤ n then some (some n.toNat) else none

def evs (s : Fr) (xs : List Operand) : Option (List AV) := xs.mapM (ev s)

/-- The parts of a struct or an array, laid over its cells. -/
def fillA (place : Nat → Option (Nat × Nat)) (cs : List AV) : List (Nat × AV) → Option (List AV)
  | [] => some cs
  | (i, v) :: rest =>
    match place i with
    | none => none
    | some (off, size) => if v.cells.length = size ∧ off + size ≤ cs.length then fillA place (putA cs off v.cells) rest else none

def placesA (P : Program) (t : TypeId) : Option (Nat → Option (Nat × Nat)) :=
  match P.underlying t with
  | some (.struct fs) => (fs.toList.mapM fun f => (sizeA P f.type).map fun n => (f.offset, n)).map fun l i => l[i]?
  | some (.array _ e) => (sizeA P e).map fun n i => some (i * n, n)
  | _ => none

def memOp (P : Program) (s : Fr) (σ : Mem) : Op → Option (AV × Mem)
  | .move x | .assign x => (ev s x).map fun v => (v, σ)
  | .pick c x y => (ev s c).bind fun
    | .bool b => (if b then ev s x else ev s y).map fun v => (v, σ)
    | _ => none
  | .alloc e => (zeroA P e).map fun z => (.ptr σ.length 0, σ ++ [.cells z.cells])
  | .box _ x => (ev s x).map fun v => (.ptr σ.length 0, σ ++ [.cells v.cells])
  | .load t a => (ev s a).bind fun
    | .cptr cs => (loadA P t cs).map fun v => (v, σ)
    | .ptr id off => (σ[id]?).bind fun
      | .cells cs => (loadA P t (cs.drop off)).map fun v => (v, σ)
      | _ => none
    | _ => none
  | .store t a x => (ev s a).bind fun
    | .ptr id off => (σ[id]?).bind fun
      | .cells cs => (ev s x).bind fun v =>
        if sizeA P t = some v.cells.length ∧ off + v.cells.length ≤ cs.length ∧ v.cells.all AV.one = true then some (.undef, σ.set id (.cells (putA cs off v.cells))) else none
      | _ => none
    | _ => none
  | .nilCheck x => (ev s x).bind fun
    | .ptr id off => some (.ptr id off, σ)
    | .cptr cs => some (.cptr cs, σ)
    | .fn (.func f) fs cs => some (.fn (.func f) fs cs, σ)
    | _ => none
  | .makeInterface t x => (P.underlying t).bind fun d => (match d with | .interface _ => none | _ => (ev s x).map fun v => (.iface t v, σ))
  | .makeFunc fn first cap => (evs s first.toList).bind fun f => (evs s cap.toList).map fun c => (.fn fn f c, σ)
  | .fieldAddr t x f => (fieldA P t f).bind fun (ft, off) => (sizeA P ft).bind fun n => if n = 0 then none else (ev s x).bind fun
    | .ptr id o => some (.ptr id (o + off), σ)
    | .cptr cs => some (.cptr (cs.drop off), σ)
    | _ => none
  | .field t x f => (fieldA P t f).bind fun (ft, off) => (ev s x).bind fun
    | .agg cs => (partA P ft cs off).map fun v => (v, σ)
    | _ => none
  | .extract x i => (ev s x).bind fun
    | .tup vs => (vs[i]?).map fun v => (v, σ)
    | _ => none
  | .indexAddr t x i => ((ev s i).bind intA).bind fun n => if n < 0 then none else (P.underlying t).bind fun
    | .slice e => (sizeA P e).bind fun z => (ev s x).bind fun
      | .sl l _ => (l[n.toNat]?).bind fun v => if v.cells.length = z then some (.cptr v.cells, σ) else none
      | .msl id off len _ => if n.toNat < len then some (.ptr id (off + n.toNat * z), σ) else none
      | _ => none
    | .array len e => (sizeA P e).bind fun z => (ev s x).bind fun
      | .ptr id off => if n.toNat < len then some (.ptr id (off + n.toNat * z), σ) else none
      | .cptr cs => if n.toNat < len then some (.cptr (cs.drop (n.toNat * z)), σ) else none
      | _ => none
    | _ => none
  | .index t x i => ((ev s i).bind intA).bind fun n => if n < 0 then none else (P.underlying t).bind fun
    | .array len e => (sizeA P e).bind fun z => (ev s x).bind fun
      | .agg cs => if n.toNat < len then (partA P e cs (n.toNat * z)).map fun v => (v, σ) else none
      | _ => none
    | _ => none
  | .slice t x lo hi mx => (P.underlying t).bind fun
    | .slice e => (sizeA P e).bind fun z => (ev s x).bind fun
      | .sl l tk => (natB s 0 lo).bind fun a => (natB s l.length hi).bind fun b => (natM s mx).bind fun m => if (m.isSome ∧ hi = none) ∨ sizeOK z l = false then none else (cutSl l tk a b m).map fun v => (v, σ)
      | .msl id off len cap => (natB s 0 lo).bind fun a => (natB s len hi).bind fun b => (natM s mx).bind fun m => if m.isSome ∧ hi = none then none else (cutM id off cap z a b m).map fun v => (v, σ)
      | _ => none
    | .array n e => (sizeA P e).bind fun z => (ev s x).bind fun
      | .ptr id off => (natB s 0 lo).bind fun a => (natB s n hi).bind fun b => (natM s mx).bind fun m => if m.isSome ∧ hi = none then none else (cutM id off n z a b m).map fun v => (v, σ)
      | _ => none
    | _ => none
  | .build t parts => (zeroA P t).bind fun z => (placesA P t).bind fun pl => (parts.toList.mapM fun (q : Nat × Operand) => (ev s q.2).map fun v => (q.1, v)).bind fun ps => (fillA pl z.cells ps).map fun cs => (.agg cs, σ)
  | .buildSlice t len parts => (P.underlying t).bind fun
    | .slice e => (sizeA P e).bind fun z => (zeroA P e).bind fun zv => (evs s (parts.toList.map (·.2))).bind fun vs =>
      if parts.toList.map (·.1) = List.range len ∧ z ≠ 0 ∧ zv.cells.length = z ∧ len * z ≤ 16777216 ∧ (vs.all fun v => v.cells.length == z) = true then some (.sl vs .full, σ) else none
    | _ => none
  | .makeSlice t l c => (P.underlying t).bind fun
    | .slice e => (P.info? e).bind fun i => (zeroA P e).bind fun zv => (ev s l).bind fun
      | .int .i64 n => (ev s c).bind fun
        | .int .i64 m => if n = m ∧ 0 ≤ n ∧ n * i.bytes ≤ 281474976710656 ∧ n ≤ 9223372036854775807 ∧ zv.one = true ∧ i.size = 1 then some (.msl σ.length 0 n.toNat n.toNat, σ ++ [.cells (List.replicate n.toNat zv)])
          else if n = m ∧ 0 ≤ n ∧ n * i.bytes ≤ 281474976710656 ∧ n ≤ 2147483648 ∧ zv.cells.length = i.size ∧ 1 < i.size then some (.sl (List.replicate n.toNat zv) .full, σ) else none
        | _ => none
      | _ => none
    | _ => none
  | _ => none

end Go.Proofs.Ytihbdelgoapeoaa.K
/- The operations of K5 are sound. -/
namespace Go.Proofs.Ytihbdelgoapeoaa.K
open Go Go.RowKit
set_option linter.unusedSimpArgs false

section
variable {P : Program} {G : Gh} {σ : Mem} {w : World} {s : Fr} {a : Act} {o : Oper}

/-- An operation that leaves the world alone. -/
theorem OpOK.still (hi : InvH G σ w) {r : AV} {v : Value} (h : (execOp a.eval o).run P w = .ok (.value v) w) (hr : Rel G w r v) : OpOK P G w a o r σ :=
  ⟨G, _, v, w, h, .inl rfl, hi, Evo.refl _ _, hr⟩

theorem one_cells {x : AV} (h : x.one = true) : x.cells = [x] := by cases x <;> first | rfl | simp [AV.one] at h

theorem intA_rel {x : AV} {n : Int} (h : intA x = some n) {v : Value} (r : Rel G w x v) : ∃ k, v = .int k n := by
  cases x <;> simp [intA] at h
  subst h
  cases r
  exact ⟨_, rfl⟩

theorem Row.drop {b : Addr} {n : Nat} {c : Nat → Value} (h : Row G w b n c) (k : Nat) : Row G w (b.add k) (n - k) (fun i => c (k + i)) := by
  intro i hi
  have := h (k + i) (by omega)
  rw [add_add]
  rw [add_block]
  exact this

theorem cptr_drop {cs : List AV} {b : Addr} (h : Rel G w (.cptr cs) (.pointer (some b))) (k : Nat) : Rel G w (.cptr (cs.drop k)) (.pointer (some (b.add k))) := by
  cases h with
  | cptr c h hr =>
    refine .cptr (fun i => c (k + i)) (by rw [List.length_drop]; exact h.drop k) fun i x hx => hr (k + i) x ?_
    simpa using hx

theorem flat_get : ∀ {l : List AV} {size i j : Nat} {x y : AV}, (∀ z ∈ l, z.cells.length = size) → l[i]? = some x → x.cells[j]? = some y → (flat l)[i * size + j]? = some y := by
  intro l
  induction l with
  | nil => intro size i j x y _ h; simp at h
  | cons a l ih =>
    intro size i j x y hz hx hy
    have ha := hz a (by simp)
    simp only [flat, List.flatMap_cons]
    cases i with
    | zero =>
      simp at hx
      subst hx
      have hj := (List.getElem?_eq_some_iff.1 hy).1
      rw [List.getElem?_append_left (by omega)]
      simpa using hy
    | succ i =>
      rw [List.getElem?_append_right (by rw [ha, Nat.succ_mul]; omega), ha]
      rw [show (i + 1) * size + j - size = i * size + j by rw [Nat.succ_mul]; omega]
      exact ih (fun z h => hz z (by simp [h])) (by simpa using hx) hy

theorem flat_length : ∀ {l : List AV} {size : Nat}, (∀ z ∈ l, z.cells.length = size) → (flat l).length = l.length * size := by
  intro l
  induction l with
  | nil => intro size _; simp [flat]
  | cons a l ih =>
    intro size hz
    have := ih (fun z h => hz z (by simp [h]))
    simp only [flat, List.flatMap_cons, List.length_append, List.length_cons, Nat.succ_mul] at this ⊢
    rw [hz a (by simp), this]
    omega

theorem mul_lt {i n z j : Nat} (h : i < n) (hj : j < z) : i * z + j < n * z := by
  have : (i + 1) * z ≤ n * z := Nat.mul_le_mul_right z h
  rw [Nat.succ_mul] at this
  omega

/-- The cells of an element of a slice that stays. -/
theorem sl_elem {l : List AV} {t : Tok} {b : Addr} {len cap i size : Nat} {x : AV} (h : Rel G w (.sl l t) (.slice (some b) len cap)) (hx : l[i]? = some x) (hs : x.cells.length = size) :
    Rel G w (.cptr x.cells) (.pointer (some (b.add (i * size)))) := by
  cases h with
  | sl z c hlen hmax hsize h hr hfull hcap hlive =>
    have hmem : x ∈ l := List.mem_of_getElem? hx
    have hz : z = size := by rw [← hsize x hmem, hs]
    subst hz
    have hil := (List.getElem?_eq_some_iff.1 hx).1
    refine .cptr (fun j => c (i * z + j)) ?_ fun j y hy => hr _ y (flat_get hsize hx hy)
    intro j hj
    have := h (i * z + j) (by rw [hlen]; exact mul_lt hil (by omega))
    rw [add_add, add_block]
    exact this

theorem load_ok (hi : InvH G σ w) (hs : RelF G w s a.tmps) {t : TypeId} {x : Operand} {r : AV} {σ' : Mem} (ho : o.op = .load t x) (h : memOp P s σ o.op = some (r, σ')) : OpOK P G w a o r σ' := by
  rw [ho] at h
  simp only [memOp, Option.bind_eq_some_iff] at h
  obtain ⟨v, hv, h⟩ := h
  have hr := ev_rel hs hv
  have hex : ∀ {u : Addr} {z : Value}, a.eval x = .pointer (some u) → (loadVar t u).run P w = .ok z w → (execOp a.eval o).run P w = .ok (.value z) w := by
    intro u z he hl
    simp only [execOp, ho, Instr.loadAt, Instr.sureAddr, he]
    simp [hl]
  cases v <;> simp only [reduceCtorEq] at h
  case cptr cs =>
    simp only [Option.map_eq_some_iff, Prod.mk.injEq] at h
    obtain ⟨y, hy, rfl, rfl⟩ := h
    generalize hea : a.eval x = ea at hr
    cases hr with
    | cptr c hrow hc =>
      obtain ⟨z, hz, hzr⟩ := load_sound (P := P) c (fun i hi' => (hrow i hi').1) hc hy
      exact .still hi (hex hea hz) hzr
  case ptr id off =>
    simp only [Option.bind_eq_some_iff] at h
    obtain ⟨ob, hob, h⟩ := h
    cases ob <;> simp only [reduceCtorEq] at h
    case cells cs =>
      simp only [Option.map_eq_some_iff, Prod.mk.injEq] at h
      obtain ⟨y, hy, rfl, rfl⟩ := h
      generalize hea : a.eval x = ea at hr
      cases hr with
      | @ptr _ _ bb hn hb =>
        obtain ⟨b', c, e, fr, h1, h2, h3, hu, h4⟩ := hi.cells id cs hob
        obtain rfl : bb = b' := (hb b' h1).symm
        obtain ⟨z, hz, hzr⟩ := load_sound (P := P) (G := G) (w := w) (a := ⟨bb, off, none⟩) (fun i => c.getD (off + i) undef) (fun i hil => by
          rw [List.length_drop] at hil
          rw [add_plain']
          simp [World.cell?, h2, Array.getD, show off + i < c.size by omega]) (fun i y hy => h4 (off + i) y (by simpa using hy)) hy
        exact .still hi (hex hea hz) hzr

theorem store_ok (hi : InvH G σ w) (hs : RelF G w s a.tmps) {t : TypeId} {x y : Operand} {r : AV} {σ' : Mem} (ho : o.op = .store t x y) (h : memOp P s σ o.op = some (r, σ')) : OpOK P G w a o r σ' := by
  rw [ho] at h
  simp only [memOp, Option.bind_eq_some_iff] at h
  obtain ⟨p, hp, h⟩ := h
  cases p <;> simp only [reduceCtorEq, Option.bind_eq_some_iff] at h
  case ptr id off =>
    obtain ⟨ob, hob, h⟩ := h
    cases ob <;> simp only [reduceCtorEq, Option.bind_eq_some_iff] at h
    case cells cs =>
      obtain ⟨v, hv, h⟩ := h
      split at h
      · rename_i hc
        cases h
        obtain ⟨h1, h2, h3⟩ := hc
        have hr := ev_rel hs hp
        have hvr := ev_rel hs hv
        generalize hea : a.eval x = ea at hr
        cases hr with
        | ptr hn hb =>
          obtain ⟨b', _, _, _, hb1, _⟩ := hi.cells id cs hob
          obtain rfl := (hb b' hb1).symm
          obtain ⟨w', hrun, hinv, hevo⟩ := store_sound (P := P) hi hob hb1 hvr h1 h2 h3
          refine ⟨G, .skip, undef, w', ?_, .inr ⟨rfl, rfl⟩, hinv, hevo, .tup rfl fun i x hx => by simp at hx⟩
          simp only [execOp, ho, Instr.storeAt, Instr.sureAddr, hea]
          simp [hrun]
      · cases h

theorem new_ok (hi : InvH G σ w) {ob : Option Nat} {ot : Option TokInfo} {obj : AO} {r : AV} {v : Value} {w' : World} (hn : New G w w' ob ot obj)
    (h : (execOp a.eval o).run P w = .ok (.value v) w') (hr : Rel (G.add ob ot) w' r v) : OpOK P G w a o r (σ ++ [obj]) :=
  ⟨_, _, v, w', h, .inl rfl, hn.inv hi, hn.evo, hr⟩

theorem ptr_new (hi : InvH G σ w) {b : Nat} {w' : World} : Rel (G.add (some b) none) w' (.ptr σ.length 0) (.pointer (some ⟨b, 0, none⟩)) :=
  .ptr (by show σ.length < G.n + 1; rw [hi.n]; omega) (by show ∀ b', (if σ.length = G.n then some b else G.β σ.length) = some b' → b' = b; rw [if_pos hi.n.symm]; intro b' h; cases h; rfl)

theorem alloc_ok (hi : InvH G σ w) {e : TypeId} {r : AV} {σ' : Mem} (ho : o.op = .alloc e) (h : memOp P s σ o.op = some (r, σ')) : OpOK P G w a o r σ' := by
  rw [ho] at h
  simp only [memOp, Option.map_eq_some_iff, Prod.mk.injEq] at h
  obtain ⟨z, hz, rfl, rfl⟩ := h
  obtain ⟨v, hv, hc⟩ := run_zero hz w
  obtain ⟨hs1, hs2⟩ := (ofConst_rel hc G w).cells
  refine new_ok hi (New.ofCells (e := e) (c := v.cells) (by omega) hs2) (v := .pointer (some ⟨w.heap.size, 0, none⟩)) ?_ (ptr_new hi)
  simp only [execOp, ho, Instr.alloc, Sem.run_bind, hv]
  rfl

theorem box_ok (hi : InvH G σ w) (hs : RelF G w s a.tmps) {e : TypeId} {x : Operand} {r : AV} {σ' : Mem} (ho : o.op = .box e x) (h : memOp P s σ o.op = some (r, σ')) : OpOK P G w a o r σ' := by
  rw [ho] at h
  simp only [memOp, Option.map_eq_some_iff, Prod.mk.injEq] at h
  obtain ⟨z, hz, rfl, rfl⟩ := h
  obtain ⟨hs1, hs2⟩ := (ev_rel hs hz).cells
  refine new_ok hi (New.ofCells (e := e) (c := (a.eval x).cells) (by omega) hs2) (v := .pointer (some ⟨w.heap.size, 0, none⟩)) ?_ (ptr_new hi)
  simp only [execOp, ho]
  rfl

theorem evs_rel (hs : RelF G w s a.tmps) {xs : List Operand} {vs : List AV} (h : evs s xs = some vs) : Rels G w vs (xs.map a.eval).toArray := by
  obtain ⟨h1, h2⟩ := mapM_get h
  refine ⟨by simp [h1], fun i y hy => ?_⟩
  obtain ⟨x, hx, he⟩ := h2 i y hy
  have := ev_rel hs he
  simpa [Array.getD_eq_getD_getElem?, hx] using this

theorem evs_rel' (hs : RelF G w s a.tmps) {xs : Array Operand} {vs : List AV} (h : evs s xs.toList = some vs) : Rels G w vs (xs.map a.eval) := by
  have := evs_rel hs h
  have e : (xs.toList.map a.eval).toArray = xs.map a.eval := by
    rw [← Array.toList_map]
  rwa [e] at this

theorem makeFunc_ok (hi : InvH G σ w) (hs : RelF G w s a.tmps) {f : Fn} {fs cs : Array Operand} {r : AV} {σ' : Mem} (ho : o.op = .makeFunc f fs cs) (h : memOp P s σ o.op = some (r, σ')) : OpOK P G w a o r σ' := by
  rw [ho] at h
  simp only [memOp, Option.bind_eq_some_iff, Option.map_eq_some_iff, Prod.mk.injEq] at h
  obtain ⟨x, hx, y, hy, rfl, rfl⟩ := h
  have h1 := evs_rel' hs hx
  have h2 := evs_rel' hs hy
  refine .still hi (v := .func f (fs.map a.eval) (cs.map a.eval)) ?_ (.fn h1.1 h1.2 h2.1 h2.2)
  simp only [execOp, ho, Instr.makeFunc]
  rfl

theorem fieldA_spec {t : TypeId} {f : Nat} {ft off : Nat} (h : fieldA P t f = some (ft, off)) : ∃ fs x, P.underlying t = some (.struct fs) ∧ fs[f]? = some x ∧ x.type = ft ∧ x.offset = off := by
  unfold fieldA at h
  split at h
  · rename_i fs hu
    simp only [Option.map_eq_some_iff, Prod.mk.injEq] at h
    obtain ⟨x, hx, h1, h2⟩ := h
    exact ⟨fs, x, hu, hx, h1, h2⟩
  · cases h

theorem fieldAddr_ok (hi : InvH G σ w) (hs : RelF G w s a.tmps) {t : TypeId} {x : Operand} {f : Nat} {r : AV} {σ' : Mem} (ho : o.op = .fieldAddr t x f) (h : memOp P s σ o.op = some (r, σ')) : OpOK P G w a o r σ' := by
  rw [ho] at h
  simp only [memOp, Option.bind_eq_some_iff] at h
  obtain ⟨⟨ft, off⟩, hf, n, hn, h⟩ := h
  split at h
  · cases h
  rename_i hn0
  simp only [Option.bind_eq_some_iff] at h
  obtain ⟨v, hv, h⟩ := h
  have hr := ev_rel hs hv
  obtain ⟨fs, fd, hu, hfd, rfl, rfl⟩ := fieldA_spec hf
  have hex : ∀ {u : Addr}, a.eval x = .pointer (some u) → (execOp a.eval o).run P w = .ok (.value (.pointer (some (u.add fd.offset)))) w := by
    intro u he
    simp only [execOp, ho, Instr.fieldAt, Instr.sureAddr, he, Sem.run_bind, run_underlying hu]
    simp [hfd, fieldPlace, run_size hn, hn0]
  generalize hea : a.eval x = ea at hr
  cases v <;> simp only [reduceCtorEq, Option.some.injEq, Prod.mk.injEq] at h
  case ptr id off =>
    obtain ⟨rfl, rfl⟩ := h
    cases hr with
    | ptr hl hb =>
      refine .still hi (hex hea) ?_
      rw [add_plain']
      exact .ptr hl hb
  case cptr cs =>
    obtain ⟨rfl, rfl⟩ := h
    cases hr with
    | cptr c h1 h2 => exact .still hi (hex hea) (cptr_drop (.cptr c h1 h2) _)

theorem part_sound {t : TypeId} {cs : List AV} {off : Nat} {r : AV} {vs : Array Value} (h : partA P t cs off = some r) (hr : Rel G w (.agg cs) (.agg vs)) : ∃ v, (part t vs off).run P w = .ok v w ∧ Rel G w r v := by
  cases hr with
  | agg h1 h2 =>
  unfold partA loadA at h
  simp only [Option.bind_eq_some_iff] at h
  obtain ⟨g, hg, h⟩ := h
  cases g with
  | true =>
    simp only [if_true, Option.bind_eq_some_iff] at h
    obtain ⟨n, hn, h⟩ := h
    split at h
    · rename_i hle
      cases h
      rw [List.length_drop] at hle
      refine ⟨.agg (vs.extract off (off + n)), by simp [part, run_agg hg, run_size hn], .agg (by simp; omega) fun i x hx => ?_⟩
      rw [List.getElem?_take] at hx
      split at hx
      · rename_i hin
        rw [List.getElem?_drop] at hx
        have := h2 _ x hx
        have hlt := (List.getElem?_eq_some_iff.1 hx).1
        have e : (vs.extract off (off + n)).getD i undef = vs.getD (off + i) undef := by
          simp only [Array.getD_eq_getD_getElem?, Array.getElem?_extract]
          rw [if_pos (by omega)]
        rw [e]
        exact this
      · cases hx
    · cases h
  | false =>
    simp only [Bool.false_eq_true, if_false] at h
    rw [List.getElem?_drop] at h
    have hlt := (List.getElem?_eq_some_iff.1 h).1
    refine ⟨vs.getD off undef, ?_, h2 off r h⟩
    obtain ⟨u, e⟩ : ∃ u, vs[off]? = some u := ⟨vs[off], Array.getElem?_eq_getElem (by omega)⟩
    have e2 : vs.getD off undef = u := by rw [Array.getD_eq_getD_getElem?, e]; rfl
    rw [e2]
    simp [part, run_agg hg, e]

theorem field_ok (hi : InvH G σ w) (hs : RelF G w s a.tmps) {t : TypeId} {x : Operand} {f : Nat} {r : AV} {σ' : Mem} (ho : o.op = .field t x f) (h : memOp P s σ o.op = some (r, σ')) : OpOK P G w a o r σ' := by
  rw [ho] at h
  simp only [memOp, Option.bind_eq_some_iff] at h
  obtain ⟨⟨ft, off⟩, hf, v, hv, h⟩ := h
  have hr := ev_rel hs hv
  obtain ⟨fs, fd, hu, hfd, rfl, rfl⟩ := fieldA_spec hf
  generalize hea : a.eval x = ea at hr
  cases v <;> simp only [reduceCtorEq, Option.map_eq_some_iff, Prod.mk.injEq] at h
  case agg cs =>
    obtain ⟨y, hy, rfl, rfl⟩ := h
    cases hr with
    | agg h1 h2 =>
      obtain ⟨z, hz, hzr⟩ := part_sound (P := P) hy (.agg h1 h2)
      refine .still hi (v := z) ?_ hzr
      simp only [execOp, ho, Instr.field, hea, asAgg, Sem.run_bind, run_underlying hu]
      simp [hfd, hz]

theorem extract_ok (hi : InvH G σ w) (hs : RelF G w s a.tmps) {x : Operand} {i : Nat} {r : AV} {σ' : Mem} (ho : o.op = .extract x i) (h : memOp P s σ o.op = some (r, σ')) : OpOK P G w a o r σ' := by
  rw [ho] at h
  simp only [memOp, Option.bind_eq_some_iff] at h
  obtain ⟨v, hv, h⟩ := h
  have hr := ev_rel hs hv
  generalize hea : a.eval x = ea at hr
  cases v <;> simp only [reduceCtorEq, Option.map_eq_some_iff, Prod.mk.injEq] at h
  case tup vs =>
    obtain ⟨y, hy, rfl, rfl⟩ := h
    cases hr with
    | tup h1 h2 =>
      rename_i us
      have hlt := (List.getElem?_eq_some_iff.1 hy).1
      obtain ⟨u, e⟩ : ∃ u, us[i]? = some u := ⟨us[i], Array.getElem?_eq_getElem (by omega)⟩
      have e2 : us.getD i undef = u := by rw [Array.getD_eq_getD_getElem?, e]; rfl
      refine .still hi (v := us.getD i undef) ?_ (h2 i y hy)
      rw [e2]
      simp only [execOp, ho, Instr.extract, hea]
      simp [e]

theorem nilCheck_ok (hi : InvH G σ w) (hs : RelF G w s a.tmps) {x : Operand} {r : AV} {σ' : Mem} (ho : o.op = .nilCheck x) (h : memOp P s σ o.op = some (r, σ')) : OpOK P G w a o r σ' := by
  rw [ho] at h
  simp only [memOp, Option.bind_eq_some_iff] at h
  obtain ⟨v, hv, h⟩ := h
  have hr := ev_rel hs hv
  generalize hea : a.eval x = ea at hr
  cases v <;> (try simp only [reduceCtorEq, Option.some.injEq, Prod.mk.injEq] at h)
  case ptr id off =>
    obtain ⟨rfl, rfl⟩ := h
    cases hr with
    | ptr h1 h2 =>
      refine .still hi (v := _) ?_ (.ptr h1 h2)
      simp only [execOp, ho, hea]
      rfl
  case cptr cs =>
    obtain ⟨rfl, rfl⟩ := h
    cases hr with
    | cptr c h1 h2 =>
      refine .still hi (v := _) ?_ (.cptr c h1 h2)
      simp only [execOp, ho, hea]
      rfl
  case fn f fs cs =>
    cases f <;> simp only [reduceCtorEq, Option.some.injEq, Prod.mk.injEq] at h
    obtain ⟨rfl, rfl⟩ := h
    cases hr with
    | fn h1 h2 h3 h4 =>
      refine .still hi (v := _) ?_ (.fn h1 h2 h3 h4)
      simp only [execOp, ho, hea]
      rfl

theorem move_ok (hi : InvH G σ w) (hs : RelF G w s a.tmps) {x : Operand} {r : AV} {σ' : Mem} (ho : o.op = .move x ∨ o.op = .assign x) (h : memOp P s σ o.op = some (r, σ')) : OpOK P G w a o r σ' := by
  have h' : (ev s x).map (fun v => (v, σ)) = some (r, σ') := by rcases ho with ho | ho <;> rw [ho] at h <;> exact h
  simp only [Option.map_eq_some_iff, Prod.mk.injEq] at h'
  obtain ⟨v, hv, rfl, rfl⟩ := h'
  refine .still hi (v := a.eval x) ?_ (ev_rel hs hv)
  rcases ho with ho | ho <;> simp only [execOp, ho] <;> rfl

theorem pick_ok (hi : InvH G σ w) (hs : RelF G w s a.tmps) {c x y : Operand} {r : AV} {σ' : Mem} (ho : o.op = .pick c x y) (h : memOp P s σ o.op = some (r, σ')) : OpOK P G w a o r σ' := by
  rw [ho] at h
  simp only [memOp, Option.bind_eq_some_iff] at h
  obtain ⟨v, hv, h⟩ := h
  have hr := ev_rel hs hv
  generalize hea : a.eval c = ea at hr
  cases v <;> simp only [reduceCtorEq, Option.map_eq_some_iff, Prod.mk.injEq] at h
  case bool b =>
    obtain ⟨z, hz, rfl, rfl⟩ := h
    cases hr
    cases b
    · refine .still hi (v := a.eval y) ?_ (ev_rel hs hz)
      simp only [execOp, ho, hea, asBool]
      rfl
    · refine .still hi (v := a.eval x) ?_ (ev_rel hs hz)
      simp only [execOp, ho, hea, asBool]
      rfl

theorem makeInterface_ok (hi : InvH G σ w) (hs : RelF G w s a.tmps) {t : TypeId} {x : Operand} {r : AV} {σ' : Mem} (ho : o.op = .makeInterface t x) (h : memOp P s σ o.op = some (r, σ')) : OpOK P G w a o r σ' := by
  rw [ho] at h
  simp only [memOp, Option.bind_eq_some_iff] at h
  obtain ⟨d, hd, h⟩ := h
  have hex : (∀ ms, d ≠ .interface ms) → (execOp a.eval o).run P w = .ok (.value (.iface t (a.eval x))) w := by
    intro hne
    simp only [execOp, ho, Instr.makeInterface, Sem.run_bind, run_underlying hd]
    cases d <;> first | rfl | exact absurd rfl (hne _)
  cases d <;> simp only [reduceCtorEq, Option.map_eq_some_iff, Prod.mk.injEq] at h
  all_goals
    obtain ⟨v, hv, rfl, rfl⟩ := h
    exact .still hi (hex (fun ms h => by cases h)) (.iface (ev_rel hs hv))

end
end Go.Proofs.Ytihbdelgoapeoaa.K
/- The operations of K5 are sound: indexes, cuts, literals, make. -/
namespace Go.Proofs.Ytihbdelgoapeoaa.K
open Go Go.RowKit
set_option linter.unusedSimpArgs false

section
variable {P : Program} {G : Gh} {σ : Mem} {w : World} {s : Fr} {a : Act} {o : Oper}

theorem indexAddr_ok (hi : InvH G σ w) (hs : RelF G w s a.tmps) {t : TypeId} {x i : Operand} {r : AV} {σ' : Mem} (ho : o.op = .indexAddr t x i) (h : memOp P s σ o.op = some (r, σ')) : OpOK P G w a o r σ' := by
  rw [ho] at h
  simp only [memOp, Option.bind_eq_some_iff] at h
  obtain ⟨n, ⟨iv, hiv, hn⟩, h⟩ := h
  obtain ⟨k, hik⟩ := intA_rel hn (ev_rel hs hiv)
  split at h
  · cases h
  rename_i hn0
  have hn1 : 0 ≤ n := by omega
  simp only [Option.bind_eq_some_iff] at h
  obtain ⟨d, hd, h⟩ := h
  cases d <;> simp only [reduceCtorEq, Option.bind_eq_some_iff] at h
  case slice e =>
    obtain ⟨z, hz, v, hv, h⟩ := h
    have hr := ev_rel hs hv
    have hex : ∀ {u : Addr} {len cap : Nat}, a.eval x = .slice (some u) len cap → n.toNat < len → (execOp a.eval o).run P w = .ok (.value (.pointer (some (u.add (n.toNat * z))))) w := by
      intro u len cap he hlt
      have hlt' : n < (len : Int) := by omega
      simp only [execOp, ho, Instr.indexAt, asIntOf, he, hik, Sem.run_bind, run_underlying hd]
      simp [hn1, hlt', run_size hz, Sem.run_bind, run_underlying hd]
    generalize hea : a.eval x = ea at hr
    cases v <;> simp only [reduceCtorEq, Option.bind_eq_some_iff] at h
    case sl l tk =>
      obtain ⟨y, hy, h⟩ := h
      split at h
      · rename_i hyz
        cases h
        have hyl := (List.getElem?_eq_some_iff.1 hy).1
        cases hr with
        | sl size c hlen hmax hsize h1 h2 h3 h4 h5 => exact .still hi (hex hea (by omega)) (sl_elem (.sl size c hlen hmax hsize h1 h2 h3 h4 h5) hy hyz)
      · cases h
    case msl id off len cap =>
      split at h
      · rename_i hlt
        cases h
        cases hr with
        | msl h1 h2 h3 =>
          refine .still hi (hex hea hlt) ?_
          rw [add_plain']
          exact .ptr h1 h2
      · cases h
  case array len e =>
    obtain ⟨z, hz, v, hv, h⟩ := h
    have hr := ev_rel hs hv
    have hex : ∀ {u : Addr}, a.eval x = .pointer (some u) → n.toNat < len → (execOp a.eval o).run P w = .ok (.value (.pointer (some (u.add (n.toNat * z))))) w := by
      intro u he hlt
      have hlt' : n < (len : Int) := by omega
      simp only [execOp, ho, Instr.indexAt, asIntOf, he, hik, Sem.run_bind, run_underlying hd, Instr.sureAddr]
      simp [hn1, hlt', run_size hz, Sem.run_bind, run_underlying hd]
    generalize hea : a.eval x = ea at hr
    cases v <;> simp only [reduceCtorEq] at h
    case ptr id off =>
      split at h
      · rename_i hlt
        cases h
        cases hr with
        | ptr h1 h2 =>
          refine .still hi (hex hea hlt) ?_
          rw [add_plain']
          exact .ptr h1 h2
      · cases h
    case cptr cs =>
      split at h
      · rename_i hlt
        cases h
        cases hr with
        | cptr c h1 h2 => exact .still hi (hex hea hlt) (cptr_drop (.cptr c h1 h2) _)
      · cases h

theorem index_ok (hi : InvH G σ w) (hs : RelF G w s a.tmps) {t : TypeId} {x i : Operand} {r : AV} {σ' : Mem} (ho : o.op = .index t x i) (h : memOp P s σ o.op = some (r, σ')) : OpOK P G w a o r σ' := by
  rw [ho] at h
  simp only [memOp, Option.bind_eq_some_iff] at h
  obtain ⟨n, ⟨iv, hiv, hn⟩, h⟩ := h
  obtain ⟨k, hik⟩ := intA_rel hn (ev_rel hs hiv)
  split at h
  · cases h
  rename_i hn0
  have hn1 : 0 ≤ n := by omega
  simp only [Option.bind_eq_some_iff] at h
  obtain ⟨d, hd, h⟩ := h
  cases d <;> simp only [reduceCtorEq, Option.bind_eq_some_iff] at h
  case array len e =>
    obtain ⟨z, hz, v, hv, h⟩ := h
    have hr := ev_rel hs hv
    generalize hea : a.eval x = ea at hr
    cases v <;> simp only [reduceCtorEq] at h
    case agg cs =>
      split at h
      · rename_i hlt
        simp only [Option.map_eq_some_iff, Prod.mk.injEq] at h
        obtain ⟨y, hy, rfl, rfl⟩ := h
        cases hr with
        | agg h1 h2 =>
          obtain ⟨u, hu, hur⟩ := part_sound (P := P) hy (.agg h1 h2)
          refine .still hi (v := u) ?_ hur
          have hlt' : n < (len : Int) := by omega
          simp only [execOp, ho, Instr.index, asIntOf, hik, hea, Sem.run_bind, run_underlying hd]
          simp [hn1, hlt', run_size hz, hu, Sem.run_bind, run_underlying hd]
      · cases h

/-! ### Cuts -/
theorem natB_rel (hs : RelF G w s a.tmps) {d : Nat} {x : Option Operand} {n : Nat} (h : natB s d x = some n) :
    (x = none ∧ n = d) ∨ ∃ y k, x = some y ∧ a.eval y = .int k (n : Int) := by
  cases x with
  | none => simp [natB] at h; exact .inl ⟨rfl, h.symm⟩
  | some y =>
    simp only [natB, Option.bind_eq_some_iff] at h
    obtain ⟨m, ⟨v, hv, hm⟩, h⟩ := h
    split at h
    · rename_i h0
      cases h
      obtain ⟨k, hk⟩ := intA_rel hm (ev_rel hs hv)
      exact .inr ⟨y, k, rfl, by rw [hk]; congr 1; omega⟩
    · cases h

theorem natM_rel (hs : RelF G w s a.tmps) {x : Option Operand} {m : Option Nat} (h : natM s x = some m) :
    (x = none ∧ m = none) ∨ ∃ y k n, x = some y ∧ m = some n ∧ a.eval y = .int k (n : Int) := by
  cases x with
  | none => simp [natM] at h; exact .inl ⟨rfl, h.symm⟩
  | some y =>
    simp only [natM, Option.bind_eq_some_iff] at h
    obtain ⟨n, ⟨v, hv, hm⟩, h⟩ := h
    split at h
    · rename_i h0
      cases h
      obtain ⟨k, hk⟩ := intA_rel hm (ev_rel hs hv)
      exact .inr ⟨y, k, n.toNat, rfl, rfl, by rw [hk]; congr 1; omega⟩
    · cases h

theorem run_sliceBound {n y : Nat} {k : IntKind} {c : BoundsCode} (h : n ≤ y) (w : World) : (Instr.sliceBound (.int k (n : Int)) y c).run P w = .ok n w := by
  have : (n : Int) ≤ (y : Int) := by omega
  simp [Instr.sliceBound, asIntOf, this]

/-- The three bounds, in Go's order. -/
theorem run_sliceBounds (hs : RelF G w s a.tmps) {isSlice : Bool} {len cap : Nat} {lo hi mx : Option Operand} {l h : Nat} {m : Option Nat} (hl : natB s 0 lo = some l) (hh : natB s len hi = some h) (hm : natM s mx = some m)
    (hno : ¬ (m.isSome ∧ hi = none)) (h1 : l ≤ h) (h2 : h ≤ m.getD cap) (h3 : m.getD cap ≤ cap) :
    (Instr.sliceBounds isSlice len cap (lo.map a.eval) (hi.map a.eval) (mx.map a.eval)).run P w = .ok (l, h, m.getD cap) w := by
  rcases natM_rel hs hm with ⟨rfl, rfl⟩ | ⟨y, k, n, rfl, rfl, hy⟩
  · rcases natB_rel hs hh with ⟨rfl, rfl⟩ | ⟨y, k, rfl, hy⟩
    · rcases natB_rel hs hl with ⟨rfl, rfl⟩ | ⟨z, k', rfl, hz⟩
      · simp [Instr.sliceBounds]
      · simp [Instr.sliceBounds, hz, run_sliceBound h1]
    · simp only [Option.getD_none] at h2 h3
      rcases natB_rel hs hl with ⟨rfl, rfl⟩ | ⟨z, k', rfl, hz⟩
      · simp [Instr.sliceBounds, hy, run_sliceBound h2]
      · simp [Instr.sliceBounds, hy, hz, run_sliceBound h2, run_sliceBound h1]
  · simp only [Option.getD_some] at h2 h3
    rcases natB_rel hs hh with ⟨rfl, rfl⟩ | ⟨y', k', rfl, hy'⟩
    · exact absurd ⟨rfl, rfl⟩ hno
    · rcases natB_rel hs hl with ⟨rfl, rfl⟩ | ⟨z, k'', rfl, hz⟩
      · simp [Instr.sliceBounds, hy, hy', run_sliceBound h2, run_sliceBound h3]
      · simp [Instr.sliceBounds, hy, hy', hz, run_sliceBound h2, run_sliceBound h3, run_sliceBound h1]

theorem take_drop_mem {α : Type} {l : List α} {i j : Nat} {x : α} (h : x ∈ (l.take i).drop j) : x ∈ l := List.mem_of_mem_take (List.mem_of_mem_drop h)

theorem flat_drop : ∀ {l : List AV} {size k : Nat}, (∀ z ∈ l, z.cells.length = size) → flat (l.drop k) = (flat l).drop (k * size) := by
  intro l
  induction l with
  | nil => intro size k _; simp [flat]
  | cons x l ih =>
    intro size k hz
    cases k with
    | zero => simp
    | succ k =>
      have := ih (k := k) (fun z h => hz z (by simp [h]))
      simp only [flat, List.drop_succ_cons, List.flatMap_cons] at this ⊢
      have hx := hz x (by simp)
      have e1 : x.cells.drop (k * size + size) = [] := List.drop_eq_nil_of_le (by rw [hx]; omega)
      rw [this, Nat.succ_mul, List.drop_append, e1, hx, Nat.add_sub_cancel, List.nil_append]

theorem flat_take : ∀ {l : List AV} {size k : Nat}, (∀ z ∈ l, z.cells.length = size) → flat (l.take k) = (flat l).take (k * size) := by
  intro l
  induction l with
  | nil => intro size k _; simp [flat]
  | cons x l ih =>
    intro size k hz
    cases k with
    | zero => simp [flat]
    | succ k =>
      have := ih (k := k) (fun z h => hz z (by simp [h]))
      simp only [flat, List.take_succ_cons, List.flatMap_cons] at this ⊢
      have hx := hz x (by simp)
      have e1 : x.cells.take (k * size + size) = x.cells := List.take_of_length_le (by rw [hx]; omega)
      rw [this, Nat.succ_mul, List.take_append, e1, hx, Nat.add_sub_cancel]

/-- A cut of what stays. 'm': the capacity that the cut is made of. -/
theorem cut_rel {l : List AV} {t : Tok} {b : Addr} {len cap lo hi : Nat} {mx : Option Nat} {r : AV} {z : Nat} (hr : Rel G w (.sl l t) (.slice (some b) len cap)) (hz : ∀ x ∈ l, x.cells.length = z) (h : cutSl l t lo hi mx = some r) :
    Rel G w r (.slice (some (if mx.getD cap = lo then b else b.add (lo * z))) (hi - lo) (mx.getD cap - lo)) := by
  unfold cutSl at h
  split at h
  · rename_i hc
    obtain ⟨h1, h2, h3⟩ := hc
    cases h
    cases hr with
    | sl size c hlen hmax hsize hrow hrel hfull hcap hlive =>
      have hz' : ∀ x ∈ l, size = z := fun x hx => (hsize x hx).symm.trans (hz x hx)
      have hhl : hi ≤ l.length := by omega
      have hlen' : ((l.take hi).drop lo).length = hi - lo := by simp; omega
      have hmc : l.length ≤ cap := by omega
      have hmx : hi ≤ mx.getD cap := by
        cases mx with
        | none => simp; omega
        | some m => simpa using h2
      refine .sl z (fun i => c (lo * z + i)) hlen'.symm (by omega) (fun x hx => hz x (take_drop_mem hx)) ?_ ?_ ?_ (by omega) ?_
      · intro i hi'
        have hpos : lo < hi := by
          rcases Nat.lt_or_ge lo hi with h | h
          · exact h
          · rw [show hi - lo = 0 by omega] at hi'; simp at hi'
        have hne : ∃ x, x ∈ l := ⟨l[lo], by simp⟩
        obtain ⟨x, hx⟩ := hne
        have := hz' x hx
        subst this
        rw [if_neg (by omega)]
        have := hrow (lo * size + i) (by
          rw [hlen]
          have h5 : (hi - lo) * size + lo * size = hi * size := by rw [← Nat.add_mul]; congr 1; omega
          have h6 : hi * size ≤ l.length * size := Nat.mul_le_mul_right _ hhl
          omega)
        rw [add_add, add_block]
        exact this
      · intro i x hx
        rw [flat_drop (fun y hy => hz y (List.mem_of_mem_take hy)), flat_take hz, List.getElem?_drop, List.getElem?_take] at hx
        split at hx
        · exact hrel _ x hx
        · cases hx
      · intro ht
        cases mx with
        | none =>
          simp only at ht
          split at ht
          · split at ht
            · have := hfull ht; simp only [Option.getD_none]; omega
            · split at ht
              · rename_i hf
                have := hfull hf; simp only [Option.getD_none]; omega
              · cases ht
          · cases ht
        | some m =>
          simp only at ht
          split at ht
          · simp only [Option.getD_some]; omega
          · cases ht
      · intro k hk
        cases mx with
        | none =>
          simp only at hk
          split at hk
          · rename_i hie
            split at hk
            · rename_i hl0
              obtain ⟨g1, g2⟩ := hlive k hk
              refine ⟨g1, fun i hti => ?_⟩
              obtain ⟨g3, g4, g5, g6⟩ := g2 i hti
              subst hl0
              refine ⟨?_, by omega, by simp only [Option.getD_none]; omega, ?_⟩
              · split
                · exact g3
                · rw [Nat.zero_mul, show b.add 0 = b by simp [Addr.add]]; exact g3
              · rcases g6 with g6 | g6
                · exact .inl (by omega)
                · rcases Nat.eq_zero_or_pos (hi - 0) with g7 | g7
                  · exact .inl g7
                  · have hne : ∃ x, x ∈ l := ⟨l[0], by simp⟩
                    obtain ⟨x, hx⟩ := hne
                    exact .inr ((hz' x hx).symm.trans g6)
            · split at hk <;> cases hk
          · cases hk
        | some m =>
          simp only at hk
          split at hk <;> cases hk
  · cases h

end
end Go.Proofs.Ytihbdelgoapeoaa.K
