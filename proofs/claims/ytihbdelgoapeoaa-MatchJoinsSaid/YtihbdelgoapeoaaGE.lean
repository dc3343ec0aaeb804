/- How the program's types are laid. Printed. -/
import Derived.Test.YtihbdelgoapeoaaKKG
import Derived.Test.YtihbdelgoapeoaaProg
import Derived.KernelRfl
import Derived.Test.YtihbdelgoapeoaaGP
namespace Go.Proofs.Ytihbdelgoapeoaa.K
open Go Go.RowKit F
set_option maxRecDepth 100000
set_option maxHeartbeats 4000000
set_option linter.unusedVariables false
set_option linter.unusedSimpArgs false
def e_match_Span : Enc match_Span := ⟨fun v x => v = .agg [.int .i64 (x.From), .int .i64 (x.To), .int .i64 (x.Part), .int .i64 (x.Weight)], 4, by rintro _ _ rfl; rfl, by rintro _ _ rfl; exact (ones_cons rfl (ones_cons rfl (ones_cons rfl (ones_cons rfl ones_nil))))⟩
def e_match_Match : Enc match_Match := ⟨fun v x => ∃ a0 a1, v = .agg [a0, a1] ∧ RS e_match_Span a0 x.In ∧ RS e_match_Span a1 x.Out, 2, by rintro _ _ ⟨a0, a1, rfl, h0, h1⟩; rfl, by rintro _ _ ⟨a0, a1, rfl, h0, h1⟩; exact (ones_cons (RS.one1 h0) (ones_cons (RS.one1 h1) ones_nil))⟩
theorem seqr_match_Span (a b : match_Span) : pureRun Try.prog (Op.equalIn Op.maxDepth 29 (.agg #[.int .i64 a.From, .int .i64 a.To, .int .i64 a.Part, .int .i64 a.Weight]) (.agg #[.int .i64 b.From, .int .i64 b.To, .int .i64 b.Part, .int .i64 b.Weight])) = some (decide (a = b)) := by
  have e : decide (a = b) = ((a.From == b.From) && ((a.To == b.To) && ((a.Part == b.Part) && ((a.Weight == b.Weight) && true)))) := by cases a; cases b; rw [Bool.eq_iff_iff]; simp
  rw [e]
  refine pureRun_equal_struct (d := 9999) (show Try.prog.underlying 29 = some (.struct _) by with_unfolding_all rfl) (by kernel_rfl) ?_
  exact ⟨by decide, _, _, _, _, by with_unfolding_all rfl, by with_unfolding_all rfl, eq_int (by with_unfolding_all rfl), ⟨by decide, _, _, _, _, by with_unfolding_all rfl, by with_unfolding_all rfl, eq_int (by with_unfolding_all rfl), ⟨by decide, _, _, _, _, by with_unfolding_all rfl, by with_unfolding_all rfl, eq_int (by with_unfolding_all rfl), ⟨by decide, _, _, _, _, by with_unfolding_all rfl, by with_unfolding_all rfl, eq_int (by with_unfolding_all rfl), rfl, rfl⟩, rfl⟩, rfl⟩, rfl⟩
theorem seq_eql_match_Span (a b : match_Span) {n : Nat} {S : List (Nat × AV)} {σ : Mem} {x y : Operand} {yt ty : TypeId} (hx : evS n S x = some (.agg [.int .i64 (a.From), .int .i64 (a.To), .int .i64 (a.Part), .int .i64 (a.Weight)])) (hy : evS n S y = some (.agg [.int .i64 (b.From), .int .i64 (b.To), .int .i64 (b.Part), .int .i64 (b.Weight)])) : plainOp Try.prog (fr n S) σ (.binOp .eql 29 x y yt) ty = some (.bool (decide (a = b)), σ) := (seq_of (by kernel_rfl) (seqr_match_Span a b) hx hy rfl rfl).1
theorem seq_neq_match_Span (a b : match_Span) {n : Nat} {S : List (Nat × AV)} {σ : Mem} {x y : Operand} {yt ty : TypeId} (hx : evS n S x = some (.agg [.int .i64 (a.From), .int .i64 (a.To), .int .i64 (a.Part), .int .i64 (a.Weight)])) (hy : evS n S y = some (.agg [.int .i64 (b.From), .int .i64 (b.To), .int .i64 (b.Part), .int .i64 (b.Weight)])) : plainOp Try.prog (fr n S) σ (.binOp .neq 29 x y yt) ty = some (.bool (!decide (a = b)), σ) := (seq_of (by kernel_rfl) (seqr_match_Span a b) hx hy rfl rfl).2
theorem appT22_22 : AppT Try.prog e_match_Match 22 22 := ⟨_, _, _, _, by with_unfolding_all rfl, by with_unfolding_all rfl, .inl ⟨_, rfl⟩, by with_unfolding_all rfl, by with_unfolding_all rfl, by with_unfolding_all rfl, by decide, by with_unfolding_all rfl, by with_unfolding_all exact Nat.le_of_ble_eq_true rfl⟩
theorem appT25_25 : AppT Try.prog e_match_Span 25 25 := ⟨_, _, _, _, by with_unfolding_all rfl, by with_unfolding_all rfl, .inl ⟨_, rfl⟩, by with_unfolding_all rfl, by with_unfolding_all rfl, by with_unfolding_all rfl, by decide, by with_unfolding_all rfl, by with_unfolding_all exact Nat.le_of_ble_eq_true rfl⟩
theorem en14 : enters Try.prog 14 = true := by kernel_rfl
theorem en15 : enters Try.prog 15 = true := by kernel_rfl
theorem en16 : enters Try.prog 16 = true := by kernel_rfl
theorem en17 : enters Try.prog 17 = true := by kernel_rfl
theorem en18 : enters Try.prog 18 = true := by kernel_rfl
theorem en19 : enters Try.prog 19 = true := by kernel_rfl
theorem en20 : enters Try.prog 20 = true := by kernel_rfl
theorem en21 : enters Try.prog 21 = true := by kernel_rfl
theorem en22 : enters Try.prog 22 = true := by kernel_rfl
theorem en23 : enters Try.prog 23 = true := by kernel_rfl
theorem en24 : enters Try.prog 24 = true := by kernel_rfl
theorem en25 : enters Try.prog 25 = true := by kernel_rfl
theorem en26 : enters Try.prog 26 = true := by kernel_rfl
theorem en40 : enters Try.prog 40 = true := by kernel_rfl
theorem en53 : enters Try.prog 53 = true := by kernel_rfl
theorem en54 : enters Try.prog 54 = true := by kernel_rfl
theorem en55 : enters Try.prog 55 = true := by kernel_rfl
theorem en56 : enters Try.prog 56 = true := by kernel_rfl
theorem en57 : enters Try.prog 57 = true := by kernel_rfl
theorem en58 : enters Try.prog 58 = true := by kernel_rfl
theorem en59 : enters Try.prog 59 = true := by kernel_rfl
theorem en60 : enters Try.prog 60 = true := by kernel_rfl
theorem en61 : enters Try.prog 61 = true := by kernel_rfl
theorem en62 : enters Try.prog 62 = true := by kernel_rfl
theorem en63 : enters Try.prog 63 = true := by kernel_rfl
theorem en64 : enters Try.prog 64 = true := by kernel_rfl
theorem en65 : enters Try.prog 65 = true := by kernel_rfl
theorem en77 : enters Try.prog 77 = true := by kernel_rfl
theorem en93 : enters Try.prog 93 = true := by kernel_rfl
theorem en94 : enters Try.prog 94 = true := by kernel_rfl
theorem en95 : enters Try.prog 95 = true := by kernel_rfl
theorem en96 : enters Try.prog 96 = true := by kernel_rfl
theorem en101 : enters Try.prog 101 = true := by kernel_rfl
end Go.Proofs.Ytihbdelgoapeoaa.K
