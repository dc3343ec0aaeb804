/- What is known of arguments. Printed. -/
import Derived.Test.YtihbdelgoapeoaaGP
namespace Go.Proofs.Ytihbdelgoapeoaa.F
def q_match_Span (x : match_Span) : Prop := (-9223372036854775808 ≤ x.From ∧ x.From ≤ 9223372036854775807) ∧ (-9223372036854775808 ≤ x.To ∧ x.To ≤ 9223372036854775807) ∧ (-9223372036854775808 ≤ x.Part ∧ x.Part ≤ 9223372036854775807) ∧ (-9223372036854775808 ≤ x.Weight ∧ x.Weight ≤ 9223372036854775807)
def q_match_Match (x : match_Match) : Prop := (x.In.length ≤ 9223372036854775807 ∧ ∀ a ∈ x.In, F.q_match_Span a) ∧ (x.Out.length ≤ 9223372036854775807 ∧ ∀ a ∈ x.Out, F.q_match_Span a)
end Go.Proofs.Ytihbdelgoapeoaa.F
