/- How arguments open. Printed. -/
import Derived.Test.YtihbdelgoapeoaaKKG
import Derived.Test.YtihbdelgoapeoaaGQ
import Derived.Test.YtihbdelgoapeoaaGW10
namespace Go.Proofs.Ytihbdelgoapeoaa.K
open Go Go.RowKit F
set_option maxRecDepth 100000
set_option maxHeartbeats 4000000
set_option linter.unusedVariables false
set_option linter.unusedSimpArgs false
theorem opens_match_Span : Opens Try.prog 29 e_match_Span F.q_match_Span := fun {H enc w base spare held fuel cs x} h => by
  obtain ⟨xs, n, _, _, hlen, hl2, hf⟩ := DataW.trod_struct (fs := _) (show Try.prog.underlying 29 = some (.struct _) by with_unfolding_all rfl) h
  have hlen' : cs.length = 4 := hlen.trans (by with_unfolding_all rfl)
  have hl3 : xs.length = 4 := hl2.trans (by with_unfolding_all rfl)
  have f0 : DataW.trod enc Try.prog w base spare held n 3 ((cs.drop 0).take 1) = some xs[0] := (hf 0 _ (by with_unfolding_all rfl)).trans (List.getElem?_eq_getElem (by omega))
  obtain ⟨v0, a0, r0, q0, c0⟩ := (opens_i64 (by with_unfolding_all rfl)) f0
  obtain rfl := r0
  have f1 : DataW.trod enc Try.prog w base spare held n 3 ((cs.drop 1).take 1) = some xs[1] := (hf 1 _ (by with_unfolding_all rfl)).trans (List.getElem?_eq_getElem (by omega))
  obtain ⟨v1, a1, r1, q1, c1⟩ := (opens_i64 (by with_unfolding_all rfl)) f1
  obtain rfl := r1
  have f2 : DataW.trod enc Try.prog w base spare held n 3 ((cs.drop 2).take 1) = some xs[2] := (hf 2 _ (by with_unfolding_all rfl)).trans (List.getElem?_eq_getElem (by omega))
  obtain ⟨v2, a2, r2, q2, c2⟩ := (opens_i64 (by with_unfolding_all rfl)) f2
  obtain rfl := r2
  have f3 : DataW.trod enc Try.prog w base spare held n 3 ((cs.drop 3).take 1) = some xs[3] := (hf 3 _ (by with_unfolding_all rfl)).trans (List.getElem?_eq_getElem (by omega))
  obtain ⟨v3, a3, r3, q3, c3⟩ := (opens_i64 (by with_unfolding_all rfl)) f3
  obtain rfl := r3
  exact ⟨.agg [.int .i64 (a0), .int .i64 (a1), .int .i64 (a2), .int .i64 (a3)], F.match_Span.mk a0 a1 a2 a3, rfl, ⟨q0, q1, q2, q3⟩, CR.agg (CR.cons (k := 1) (off2 := 1) (vc := [.int .i64 (a0)]) c0 rfl rfl rfl (CR.cons (k := 1) (off2 := 2) (vc := [.int .i64 (a1)]) c1 rfl rfl rfl (CR.cons (k := 1) (off2 := 3) (vc := [.int .i64 (a2)]) c2 rfl rfl rfl (CR.cons (k := 1) (off2 := 4) (vc := [.int .i64 (a3)]) c3 rfl rfl rfl (CR.nil hlen'.symm)))))⟩
theorem opens_match_Match : Opens Try.prog 27 e_match_Match F.q_match_Match := fun {H enc w base spare held fuel cs x} h => by
  obtain ⟨xs, n, _, _, hlen, hl2, hf⟩ := DataW.trod_struct (fs := _) (show Try.prog.underlying 27 = some (.struct _) by with_unfolding_all rfl) h
  have hlen' : cs.length = 2 := hlen.trans (by with_unfolding_all rfl)
  have hl3 : xs.length = 2 := hl2.trans (by with_unfolding_all rfl)
  have f0 : DataW.trod enc Try.prog w base spare held n 25 ((cs.drop 0).take 1) = some xs[0] := (hf 0 _ (by with_unfolding_all rfl)).trans (List.getElem?_eq_getElem (by omega))
  obtain ⟨v0, a0, r0, q0, c0⟩ := (opens_slice (by with_unfolding_all rfl) (by with_unfolding_all rfl) opens_match_Span) f0
  have f1 : DataW.trod enc Try.prog w base spare held n 25 ((cs.drop 1).take 1) = some xs[1] := (hf 1 _ (by with_unfolding_all rfl)).trans (List.getElem?_eq_getElem (by omega))
  obtain ⟨v1, a1, r1, q1, c1⟩ := (opens_slice (by with_unfolding_all rfl) (by with_unfolding_all rfl) opens_match_Span) f1
  exact ⟨.agg [v0, v1], F.match_Match.mk a0 a1, ⟨v0, v1, rfl, r0, r1⟩, ⟨q0, q1⟩, CR.agg (CR.cons (k := 1) (off2 := 1) (vc := [v0]) c0 (RS.cells r0) rfl rfl (CR.cons (k := 1) (off2 := 2) (vc := [v1]) c1 (RS.cells r1) rfl rfl (CR.nil hlen'.symm)))⟩
end Go.Proofs.Ytihbdelgoapeoaa.K
