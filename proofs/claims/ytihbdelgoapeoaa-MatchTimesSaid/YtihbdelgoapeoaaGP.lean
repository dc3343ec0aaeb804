/- The program, pure. Printed. -/
import Derived.Test.YtihbdelgoapeoaaF0
namespace Go.Proofs.Ytihbdelgoapeoaa.F
open Go
set_option linter.unusedVariables false
structure match_Span where
  From : Int
  To : Int
  Part : Int
  Weight : Int
  deriving DecidableEq
structure match_Match where
  In : (List match_Span)
  Out : (List match_Span)
  deriving DecidableEq
structure match_way where
  m_ : match_Match
  next_ : Int
  deriving DecidableEq
structure api_Range where
  Lo : Int
  Hi : Int
  deriving DecidableEq
noncomputable section
def match_Of_s1 (x0_ : (List match_Span)) (q4 : ((List match_Match) × Int)) : Option (((List match_Match) × Int) ⊕ (List match_Match)) :=
  if (decide (q4.2 < (x0_.length : Int))) then
    (lidx x0_ q4.2).bind fun x21 =>
    (lapp q4.1 [(F.match_Match.mk [x21] [])]).bind fun x33 =>
    some (.inl (x33, (IntKind.wrap .i64 (q4.2 + 1))))
  else
    some (.inr q4.1)
def match_Of_l1 (x0_ : (List match_Span)) (q4 : ((List match_Match) × Int)) : Option (List match_Match) := iter (match_Of_s1 x0_) q4
def match_Of (x0_ : (List match_Span)) : Option (List match_Match) :=
  (F.match_Of_l1 x0_ ([], 0)).bind fun (p10 : (List match_Match)) =>
  some p10

def slices_Concat_match_Span_match_Span (x0_ : List (List match_Span)) : Option (List match_Span) := lcat x0_
def match_join (x0_ : match_Match) (x1_ : match_Match) : Option match_Match :=
  (F.slices_Concat_match_Span_match_Span [x0_.In, x1_.In]).bind fun x22 =>
  (F.slices_Concat_match_Span_match_Span [x0_.Out, x1_.Out]).bind fun x24 =>
  some (F.match_Match.mk x22 x24)
def match_And_s2 (x1_ : (List match_Match)) (x33 : match_Match) (q54 : ((List match_Match) × Int)) : Option (((List match_Match) × Int) ⊕ (List match_Match)) :=
  if (decide (q54.2 < (x1_.length : Int))) then
    (lidx x1_ q54.2).bind fun x71 =>
    (F.match_join x33 x71).bind fun x91 =>
    (lapp q54.1 [x91]).bind fun x93 =>
    some (.inl (x93, (IntKind.wrap .i64 (q54.2 + 1))))
  else
    some (.inr q54.1)
def match_And_l2 (x1_ : (List match_Match)) (x33 : match_Match) (q54 : ((List match_Match) × Int)) : Option (List match_Match) := iter (match_And_s2 x1_ x33) q54
def match_And_s1 (x0_ : (List match_Match)) (x1_ : (List match_Match)) (q16 : ((List match_Match) × Int)) : Option (((List match_Match) × Int) ⊕ (List match_Match)) :=
  if (decide (q16.2 < (x0_.length : Int))) then
    (lidx x0_ q16.2).bind fun x33 =>
    (F.match_And_l2 x1_ x33 (q16.1, 0)).bind fun (p60 : (List match_Match)) =>
    some (.inl (p60, (IntKind.wrap .i64 (q16.2 + 1))))
  else
    some (.inr q16.1)
def match_And_l1 (x0_ : (List match_Match)) (x1_ : (List match_Match)) (q16 : ((List match_Match) × Int)) : Option (List match_Match) := iter (match_And_s1 x0_ x1_) q16
def match_And (x0_ : (List match_Match)) (x1_ : (List match_Match)) : Option ((List match_Match) × Int) :=
  (if (decide ((x0_.length : Int) > 0)) then ((nz (x0_.length : Int)).bind fun x2 => some (decide ((x1_.length : Int) > (IntKind.wrap .i64 (Int.tdiv 400 (x0_.length : Int)))))) else some false).bind fun r4 =>
  if r4 then
    some ([], 23)
  else
    (F.match_And_l1 x0_ x1_ ([], 0)).bind fun (p22 : (List match_Match)) =>
    some (p22, 0)
def match_Not_s2 (x23 : match_Match) (q45 : ((List match_Match) × Int)) : Option (((List match_Match) × Int) ⊕ (List match_Match)) :=
  if (decide (q45.2 < (x23.In.length : Int))) then
    (lidx x23.In q45.2).bind fun x64 =>
    (lapp q45.1 [(F.match_Match.mk [] [x64])]).bind fun x76 =>
    some (.inl (x76, (IntKind.wrap .i64 (q45.2 + 1))))
  else
    some (.inr q45.1)
def match_Not_l2 (x23 : match_Match) (q45 : ((List match_Match) × Int)) : Option (List match_Match) := iter (match_Not_s2 x23) q45
def match_Not_s3 (x23 : match_Match) (q96 : ((List match_Match) × Int)) : Option (((List match_Match) × Int) ⊕ (List match_Match)) :=
  if (decide (q96.2 < (x23.Out.length : Int))) then
    (lidx x23.Out q96.2).bind fun x114 =>
    (lapp q96.1 [(F.match_Match.mk [x114] [])]).bind fun x126 =>
    some (.inl (x126, (IntKind.wrap .i64 (q96.2 + 1))))
  else
    some (.inr q96.1)
def match_Not_l3 (x23 : match_Match) (q96 : ((List match_Match) × Int)) : Option (List match_Match) := iter (match_Not_s3 x23) q96
def match_Not_s1 (x0_ : (List match_Match)) (q6 : ((List match_Match) × Int)) : Option (((List match_Match) × Int) ⊕ ((List match_Match) ⊕ ((List match_Match) × Int))) :=
  if (decide (q6.2 < (x0_.length : Int))) then
    (lidx x0_ q6.2).bind fun x23 =>
    (F.match_Not_l2 x23 ([], 0)).bind fun (p51 : (List match_Match)) =>
    (F.match_Not_l3 x23 (p51, 0)).bind fun (p102 : (List match_Match)) =>
    (F.match_And q6.1 p102).bind fun x146 =>
    if (x146.2 != 0) then
      some (.inr (.inr (([], x146.2))))
    else
      some (.inl (x146.1, (IntKind.wrap .i64 (q6.2 + 1))))
  else
    some (.inr (.inl q6.1))
def match_Not_l1 (x0_ : (List match_Match)) (q6 : ((List match_Match) × Int)) : Option ((List match_Match) ⊕ ((List match_Match) × Int)) := iter (match_Not_s1 x0_) q6
def match_Not (x0_ : (List match_Match)) : Option ((List match_Match) × Int) :=
  (F.match_Not_l1 x0_ (([(F.match_Match.mk [] [])] : (List match_Match)), 0)).bind fun a18 => match a18 with
    | .inl p12 =>
      some (p12, 0)
    | .inr (p17) =>
      some p17
def slices_IndexFunc_match_Match_match_Match_s1 (x0_ : (List match_Match)) (x1_ : (match_Match → Option Bool)) (q9 : Int) : Option (Int ⊕ (Unit ⊕ Int)) :=
  if (decide (q9 < (x0_.length : Int))) then
    (lidx x0_ q9).bind fun x23 =>
    (x1_ x23).bind fun x29 =>
    if x29 then
      some (.inr (.inr (q9)))
    else
      some (.inl (IntKind.wrap .i64 (q9 + 1)))
  else
    some (.inr (.inl ()))
def slices_IndexFunc_match_Match_match_Match_l1 (x0_ : (List match_Match)) (x1_ : (match_Match → Option Bool)) (q9 : Int) : Option (Unit ⊕ Int) := iter (slices_IndexFunc_match_Match_match_Match_s1 x0_ x1_) q9
def slices_IndexFunc_match_Match_match_Match (x0_ : (List match_Match)) (x1_ : (match_Match → Option Bool)) : Option Int :=
  (F.slices_IndexFunc_match_Match_match_Match_l1 x0_ x1_ 0).bind fun a17 => match a17 with
    | .inl p13 =>
      some (-1)
    | .inr (p16) =>
      some p16
def slices_ContainsFunc_match_Match_match_Match (x0_ : (List match_Match)) (x1_ : (match_Match → Option Bool)) : Option Bool :=
  (F.slices_IndexFunc_match_Match_match_Match x0_ x1_).bind fun x8 =>
  some (decide (x8 ≥ 0))
def match_Holds_1 (x0_ : match_Match) : Option Bool :=
  some ((x0_.Out.length : Int) == 0)
def match_Holds (x0_ : (List match_Match)) : Option Bool :=
  (F.slices_ContainsFunc_match_Match_match_Match x0_ (fun z0 => F.match_Holds_1 z0)).bind fun x2 =>
  some x2
def law12_head  : Option Bool :=
  (F.match_Of [(F.match_Span.mk 1 1 0 0), (F.match_Span.mk 2 3 0 0)]).bind fun x2 =>
  (F.match_Not x2).bind fun x14 =>
  (some ((x14.2 == 0) && ((x14.1.length : Int) == 1))).bind fun r28 =>
  (if r28 then ((lidx x14.1 0).bind fun x30 => some ((x30.In.length : Int) == 0)) else some false).bind fun r36 =>
  (if r36 then ((lidx x14.1 0).bind fun x38 => some ((x38.Out.length : Int) == 2)) else some false).bind fun r44 =>
  (if r44 then ((lidx x14.1 0).bind fun x46 => (lidx x46.Out 1).bind fun x52 => some (x52.To == 3)) else some false).bind fun r54 =>
  (if r54 then ((F.match_Holds x14.1).bind fun x56 => some (!x56)) else some false).bind fun r58 =>
  (if r58 then ((F.match_Holds x2).bind fun x60 => some x60) else some false).bind fun r62 =>
  some r62
def law12_Good_s2 (x48 : (List match_Span)) (q65 : Int) : Option (Int ⊕ (Unit ⊕ Bool)) :=
  if (decide (q65 < (x48.length : Int))) then
    (lidx x48 q65).bind fun x80 =>
    (some ((decide (x80.From < 0)) || (decide (x80.To < x80.From)))).bind fun r92 =>
    (some (r92 || (decide (x80.To > 1000)))).bind fun r94 =>
    if r94 then
      some (.inr (.inr (false)))
    else
      some (.inl (IntKind.wrap .i64 (q65 + 1)))
  else
    some (.inr (.inl ()))
def law12_Good_l2 (x48 : (List match_Span)) (q65 : Int) : Option (Unit ⊕ Bool) := iter (law12_Good_s2 x48) q65
def law12_Good_s1 (x0_ : (List match_Match)) (q3 : Int) : Option (Int ⊕ (Unit ⊕ Bool)) :=
  if (decide (q3 < (x0_.length : Int))) then
    (lidx x0_ q3).bind fun x16 =>
    (some ((decide ((x16.In.length : Int) > 5)) || (decide ((x16.Out.length : Int) > 5)))).bind fun r36 =>
    if r36 then
      some (.inr (.inr (false)))
    else
      (lapp [] x16.In).bind fun x46 =>
      (lapp x46 x16.Out).bind fun x48 =>
      (F.law12_Good_l2 x48 0).bind fun a73 => match a73 with
        | .inl p69 =>
          some (.inl (IntKind.wrap .i64 (q3 + 1)))
        | .inr (p72) =>
          some (.inr (.inr (p72)))
  else
    some (.inr (.inl ()))
def law12_Good_l1 (x0_ : (List match_Match)) (q3 : Int) : Option (Unit ⊕ Bool) := iter (law12_Good_s1 x0_) q3
def law12_Good (x0_ : (List match_Match)) (x1_ : Int) : Option Bool :=
  (F.law12_Good_l1 x0_ 0).bind fun a11 => match a11 with
    | .inl p7 =>
      some (decide ((x0_.length : Int) ≤ x1_))
    | .inr (p10) =>
      some p10

def slices_Concat_match_Match_match_Match (x0_ : List (List match_Match)) : Option (List match_Match) := lcat x0_
def slices_Clone_match_Span_match_Span (x0_ : (List match_Span)) : Option (List match_Span) := lapp [] x0_
def match_keep_s1 (x0_ : (List match_Match)) (x1_ : (match_Match → Option (match_Match × Bool))) (q10 : ((List match_Match) × Int)) : Option (((List match_Match) × Int) ⊕ (List match_Match)) :=
  if (decide (q10.2 < (x0_.length : Int))) then
    (lidx x0_ q10.2).bind fun x27 =>
    (x1_ x27).bind fun x47 =>
    if x47.2 then
      (F.slices_Clone_match_Span_match_Span x47.1.In).bind fun x74 =>
      (F.slices_Clone_match_Span_match_Span x47.1.Out).bind fun x76 =>
      (lapp q10.1 [(F.match_Match.mk x74 x76)]).bind fun x78 =>
      some (.inl (x78, (IntKind.wrap .i64 (q10.2 + 1))))
    else
      some (.inl (q10.1, (IntKind.wrap .i64 (q10.2 + 1))))
  else
    some (.inr q10.1)
def match_keep_l1 (x0_ : (List match_Match)) (x1_ : (match_Match → Option (match_Match × Bool))) (q10 : ((List match_Match) × Int)) : Option (List match_Match) := iter (match_keep_s1 x0_ x1_) q10
def match_keep (x0_ : (List match_Match)) (x1_ : (match_Match → Option (match_Match × Bool))) : Option (List match_Match) :=
  (F.match_keep_l1 x0_ x1_ ([], 0)).bind fun (p16 : (List match_Match)) =>
  some p16
def match_Or_1 (x0_ : match_Match) : Option (match_Match × Bool) :=
  some (x0_, true)
def match_few (x0_ : (List match_Match)) : Option ((List match_Match) × Int) :=
  if (decide ((x0_.length : Int) > 400)) then
    some ([], 23)
  else
    some (x0_, 0)
def match_Or (x0_ : (List match_Match)) (x1_ : (List match_Match)) : Option ((List match_Match) × Int) :=
  (F.slices_Concat_match_Match_match_Match [x0_, x1_]).bind fun x2 =>
  (F.match_keep x2 (fun z0 => F.match_Or_1 z0)).bind fun x4 =>
  (F.match_few x4).bind fun x6 =>
  some (x6.1, x6.2)
def law12_both (x0_ : (List match_Span)) (x1_ : (List match_Span)) : Option (List match_Span) :=
  (lapp [] x0_).bind fun x2 =>
  (lapp x2 x1_).bind fun x4 =>
  some x4
def law12_and_s2 (x1_ : (List match_Match)) (x23 : match_Match) (q44 : ((List match_Match) × Int)) : Option (((List match_Match) × Int) ⊕ (List match_Match)) :=
  if (decide (q44.2 < (x1_.length : Int))) then
    (lidx x1_ q44.2).bind fun x61 =>
    (F.law12_both x23.In x61.In).bind fun x81 =>
    (F.law12_both x23.Out x61.Out).bind fun x83 =>
    (lapp q44.1 [(F.match_Match.mk x81 x83)]).bind fun x85 =>
    some (.inl (x85, (IntKind.wrap .i64 (q44.2 + 1))))
  else
    some (.inr q44.1)
def law12_and_l2 (x1_ : (List match_Match)) (x23 : match_Match) (q44 : ((List match_Match) × Int)) : Option (List match_Match) := iter (law12_and_s2 x1_ x23) q44
def law12_and_s1 (x0_ : (List match_Match)) (x1_ : (List match_Match)) (q6 : ((List match_Match) × Int)) : Option (((List match_Match) × Int) ⊕ (List match_Match)) :=
  if (decide (q6.2 < (x0_.length : Int))) then
    (lidx x0_ q6.2).bind fun x23 =>
    (F.law12_and_l2 x1_ x23 (q6.1, 0)).bind fun (p50 : (List match_Match)) =>
    some (.inl (p50, (IntKind.wrap .i64 (q6.2 + 1))))
  else
    some (.inr q6.1)
def law12_and_l1 (x0_ : (List match_Match)) (x1_ : (List match_Match)) (q6 : ((List match_Match) × Int)) : Option (List match_Match) := iter (law12_and_s1 x0_ x1_) q6
def law12_and (x0_ : (List match_Match)) (x1_ : (List match_Match)) : Option ((List match_Match) × Bool) :=
  (F.law12_and_l1 x0_ x1_ (([] : (List match_Match)), 0)).bind fun (p12 : (List match_Match)) =>
  some (p12, (decide ((IntKind.wrap .i64 ((x0_.length : Int) * (x1_.length : Int))) ≤ 400)))
def law12_not_s2 (x23 : match_Match) (q47 : ((List match_Match) × Int)) : Option (((List match_Match) × Int) ⊕ (List match_Match)) :=
  if (decide (q47.2 < (x23.In.length : Int))) then
    (lidx x23.In q47.2).bind fun x66 =>
    (lapp q47.1 [(F.match_Match.mk [] [x66])]).bind fun x78 =>
    some (.inl (x78, (IntKind.wrap .i64 (q47.2 + 1))))
  else
    some (.inr q47.1)
def law12_not_l2 (x23 : match_Match) (q47 : ((List match_Match) × Int)) : Option (List match_Match) := iter (law12_not_s2 x23) q47
def law12_not_s3 (x23 : match_Match) (q98 : ((List match_Match) × Int)) : Option (((List match_Match) × Int) ⊕ (List match_Match)) :=
  if (decide (q98.2 < (x23.Out.length : Int))) then
    (lidx x23.Out q98.2).bind fun x116 =>
    (lapp q98.1 [(F.match_Match.mk [x116] [])]).bind fun x128 =>
    some (.inl (x128, (IntKind.wrap .i64 (q98.2 + 1))))
  else
    some (.inr q98.1)
def law12_not_l3 (x23 : match_Match) (q98 : ((List match_Match) × Int)) : Option (List match_Match) := iter (law12_not_s3 x23) q98
def law12_not_s1 (x0_ : (List match_Match)) (q6 : ((List match_Match) × Int)) : Option (((List match_Match) × Int) ⊕ ((List match_Match) ⊕ ((List match_Match) × Bool))) :=
  if (decide (q6.2 < (x0_.length : Int))) then
    (lidx x0_ q6.2).bind fun x23 =>
    (F.law12_not_l2 x23 (([] : (List match_Match)), 0)).bind fun (p53 : (List match_Match)) =>
    (F.law12_not_l3 x23 (p53, 0)).bind fun (p104 : (List match_Match)) =>
    (F.law12_and q6.1 p104).bind fun x147 =>
    if (!x147.2) then
      some (.inr (.inr (([], false))))
    else
      some (.inl (x147.1, (IntKind.wrap .i64 (q6.2 + 1))))
  else
    some (.inr (.inl q6.1))
def law12_not_l1 (x0_ : (List match_Match)) (q6 : ((List match_Match) × Int)) : Option ((List match_Match) ⊕ ((List match_Match) × Bool)) := iter (law12_not_s1 x0_) q6
def law12_not (x0_ : (List match_Match)) : Option ((List match_Match) × Bool) :=
  (F.law12_not_l1 x0_ (([(F.match_Match.mk [] [])] : (List match_Match)), 0)).bind fun a18 => match a18 with
    | .inl p12 =>
      some (p12, true)
    | .inr (p17) =>
      some p17
def law12_MatchJoins_1_s1 (x0_ : (List match_Match)) (q3 : Int) : Option (Int ⊕ (Unit ⊕ Bool)) :=
  if (decide (q3 < (x0_.length : Int))) then
    (lidx x0_ q3).bind fun x16 =>
    if ((x16.Out.length : Int) == 0) then
      some (.inr (.inr (true)))
    else
      some (.inl (IntKind.wrap .i64 (q3 + 1)))
  else
    some (.inr (.inl ()))
def law12_MatchJoins_1_l1 (x0_ : (List match_Match)) (q3 : Int) : Option (Unit ⊕ Bool) := iter (law12_MatchJoins_1_s1 x0_) q3
def law12_MatchJoins_1 (x0_ : (List match_Match)) : Option Bool :=
  (F.law12_MatchJoins_1_l1 x0_ 0).bind fun a11 => match a11 with
    | .inl p7 =>
      some false
    | .inr (p10) =>
      some p10
def law12_spans_s1 (x0_ : (List match_Span)) (x1_ : (List match_Span)) (q6 : Int) : Option (Int ⊕ (Unit ⊕ Bool)) :=
  if (decide (q6 < (x0_.length : Int))) then
    (lidx x0_ q6).bind fun x20 =>
    (lidx x1_ q6).bind fun x22 =>
    if (!decide (x20 = x22)) then
      some (.inr (.inr (false)))
    else
      some (.inl (IntKind.wrap .i64 (q6 + 1)))
  else
    some (.inr (.inl ()))
def law12_spans_l1 (x0_ : (List match_Span)) (x1_ : (List match_Span)) (q6 : Int) : Option (Unit ⊕ Bool) := iter (law12_spans_s1 x0_ x1_) q6
def law12_spans (x0_ : (List match_Span)) (x1_ : (List match_Span)) : Option Bool :=
  if ((x0_.length : Int) != (x1_.length : Int)) then
    some false
  else
    (F.law12_spans_l1 x0_ x1_ 0).bind fun a14 => match a14 with
      | .inl p10 =>
        some true
      | .inr (p13) =>
        some p13
def law12_Same_s1 (x0_ : (List match_Match)) (x1_ : (List match_Match)) (q6 : Int) : Option (Int ⊕ (Unit ⊕ Bool)) :=
  if (decide (q6 < (x0_.length : Int))) then
    (lidx x0_ q6).bind fun x20 =>
    (lidx x1_ q6).bind fun x26 =>
    (F.law12_spans x20.In x26.In).bind fun x32 =>
    (if (!x32) then some true else ((lidx x0_ q6).bind fun x34 => (lidx x1_ q6).bind fun x40 => (F.law12_spans x34.Out x40.Out).bind fun x46 => some (!x46))).bind fun r48 =>
    if r48 then
      some (.inr (.inr (false)))
    else
      some (.inl (IntKind.wrap .i64 (q6 + 1)))
  else
    some (.inr (.inl ()))
def law12_Same_l1 (x0_ : (List match_Match)) (x1_ : (List match_Match)) (q6 : Int) : Option (Unit ⊕ Bool) := iter (law12_Same_s1 x0_ x1_) q6
def law12_Same (x0_ : (List match_Match)) (x1_ : (List match_Match)) : Option Bool :=
  if ((x0_.length : Int) != (x1_.length : Int)) then
    some false
  else
    (F.law12_Same_l1 x0_ x1_ 0).bind fun a14 => match a14 with
      | .inl p10 =>
        some true
      | .inr (p13) =>
        some p13
def law12_MatchJoins (x0_ : (List match_Match)) (x1_ : (List match_Match)) : Option Bool :=
  (F.law12_head).bind fun x2 =>
  if (!x2) then
    some false
  else
    (F.law12_Good x0_ 25).bind fun x14 =>
    (if (!x14) then some true else ((F.law12_Good x1_ 25).bind fun x16 => some (!x16))).bind fun r18 =>
    if r18 then
      some true
    else
      (F.match_Or x0_ x1_).bind fun x42 =>
      (F.match_And x0_ x1_).bind fun x56 =>
      (F.match_Not x0_).bind fun x70 =>
      (F.law12_and x0_ x1_).bind fun x84 =>
      (F.law12_not x0_).bind fun x98 =>
      (F.match_Holds x0_).bind fun x113 =>
      (F.law12_MatchJoins_1 x0_).bind fun x115 =>
      (some ((x113 != x115) || (x42.2 != 0))).bind fun r117 =>
      (if r117 then some true else ((lapp [] x0_).bind fun x119 => (lapp x119 x1_).bind fun x121 => (F.law12_Same x42.1 x121).bind fun x123 => some (!x123))).bind fun r125 =>
      (if r125 then some true else ((F.match_Holds x42.1).bind fun x127 => (F.law12_MatchJoins_1 x0_).bind fun x129 => (if x129 then some true else ((F.law12_MatchJoins_1 x1_).bind fun x131 => some x131)).bind fun r133 => some (x127 != r133))).bind fun r135 =>
      if r135 then
        some false
      else
        (if x84.2 then ((if (x56.2 != 0) then some true else ((F.law12_Same x56.1 x84.1).bind fun x203 => some (!x203))).bind fun r205 => (if r205 then some true else ((F.match_Holds x56.1).bind fun x207 => (F.law12_MatchJoins_1 x0_).bind fun x209 => (if x209 then ((F.law12_MatchJoins_1 x1_).bind fun x211 => some x211) else some false).bind fun r213 => some (x207 != r213))).bind fun r215 => some r215) else some false).bind fun r217 =>
        (if r217 then some true else ((if (!x84.2) then ((some ((x56.2 != 23) || ((x56.1.length : Int) != 0))).bind fun r219 => some r219) else some false).bind fun r221 => some r221)).bind fun r223 =>
        if r223 then
          some false
        else
          (some (x98.2 && (x70.2 == 0))).bind fun r272 =>
          (if r272 then ((F.law12_Same x70.1 x98.1).bind fun x274 => some x274) else some false).bind fun r276 =>
          (if r276 then ((F.match_Holds x70.1).bind fun x278 => (F.law12_MatchJoins_1 x0_).bind fun x280 => some (x278 == (!x280))) else some false).bind fun r282 =>
          (if r282 then some true else ((some ((!x98.2) && (x70.2 == 23))).bind fun r284 => (some (r284 && ((x70.1.length : Int) == 0))).bind fun r286 => some r286)).bind fun r288 =>
          some r288
def law12_MatchOrders_1 (x0_ : match_Span) (x1_ : match_Span) : Option Bool :=
  (
    if (decide (x0_.Part > x1_.Part)) then
      some (x0_, x1_)
    else
      some (x1_, x0_)).bind fun (j11 : (match_Span × match_Span)) =>
  (some ((j11.2.Part == j11.1.Part) || (decide (j11.2.From ≤ j11.1.From)))).bind fun r30 =>
  some r30
def law12_MatchOrders_2_s1 (x0_ : (List match_Span)) (x1_ : match_Span) (c0_ : (match_Span → match_Span → Option Bool)) (q13 : Int) : Option (Int ⊕ (Unit ⊕ Bool)) :=
  if (decide (q13 < (x0_.length : Int))) then
    (lidx x0_ q13).bind fun x26 =>
    (c0_ x26 x1_).bind fun x38 =>
    if (!x38) then
      some (.inr (.inr (false)))
    else
      some (.inl (IntKind.wrap .i64 (q13 + 1)))
  else
    some (.inr (.inl ()))
def law12_MatchOrders_2_l1 (x0_ : (List match_Span)) (x1_ : match_Span) (c0_ : (match_Span → match_Span → Option Bool)) (q13 : Int) : Option (Unit ⊕ Bool) := iter (law12_MatchOrders_2_s1 x0_ x1_ c0_) q13
def law12_MatchOrders_2 (x0_ : (List match_Span)) (x1_ : match_Span) (c0_ : (match_Span → match_Span → Option Bool)) : Option Bool :=
  (F.law12_MatchOrders_2_l1 x0_ x1_ c0_ 0).bind fun a21 => match a21 with
    | .inl p17 =>
      some true
    | .inr (p20) =>
      some p20
def law12_MatchOrders_3_s1 (x0_ : (List match_Span)) (c0_ : ((List match_Span) → match_Span → Option Bool)) (q9 : Int) : Option (Int ⊕ (Unit ⊕ Bool)) :=
  if (decide (q9 < (x0_.length : Int))) then
    (lidx x0_ q9).bind fun x22 =>
    (c0_ x0_ x22).bind fun x34 =>
    if (!x34) then
      some (.inr (.inr (false)))
    else
      some (.inl (IntKind.wrap .i64 (q9 + 1)))
  else
    some (.inr (.inl ()))
def law12_MatchOrders_3_l1 (x0_ : (List match_Span)) (c0_ : ((List match_Span) → match_Span → Option Bool)) (q9 : Int) : Option (Unit ⊕ Bool) := iter (law12_MatchOrders_3_s1 x0_ c0_) q9
def law12_MatchOrders_3 (x0_ : (List match_Span)) (c0_ : ((List match_Span) → match_Span → Option Bool)) : Option Bool :=
  (F.law12_MatchOrders_3_l1 x0_ c0_ 0).bind fun a17 => match a17 with
    | .inl p13 =>
      some true
    | .inr (p16) =>
      some p16
def law12_filter_s2 (x2_ : ((List match_Span) → match_Span → Option Bool)) (x35 : match_Match) (q77 : (Int × match_Match)) : Option ((Int × match_Match) ⊕ match_Match) :=
  if (decide (q77.1 < (x35.Out.length : Int))) then
    (lidx x35.Out q77.1).bind fun x102 =>
    (x2_ x35.In x102).bind fun x114 =>
    if x114 then
      (lapp q77.2.Out [x102]).bind fun x125 =>
      some (.inl ((IntKind.wrap .i64 (q77.1 + 1)), (F.match_Match.mk q77.2.In x125)))
    else
      some (.inl ((IntKind.wrap .i64 (q77.1 + 1)), q77.2))
  else
    some (.inr q77.2)
def law12_filter_l2 (x2_ : ((List match_Span) → match_Span → Option Bool)) (x35 : match_Match) (q77 : (Int × match_Match)) : Option match_Match := iter (law12_filter_s2 x2_ x35) q77
def law12_filter_s1 (x0_ : (List match_Match)) (x1_ : ((List match_Span) → Option Bool)) (x2_ : ((List match_Span) → match_Span → Option Bool)) (q18 : ((List match_Match) × Int)) : Option (((List match_Match) × Int) ⊕ (List match_Match)) :=
  if (decide (q18.2 < (x0_.length : Int))) then
    (lidx x0_ q18.2).bind fun x35 =>
    (x1_ x35.In).bind fun x55 =>
    if (!x55) then
      some (.inl (q18.1, (IntKind.wrap .i64 (q18.2 + 1))))
    else
      (F.law12_filter_l2 x2_ x35 (0, (F.match_Match.mk x35.In []))).bind fun (p85 : match_Match) =>
      (lapp q18.1 [p85]).bind fun x155 =>
      some (.inl (x155, (IntKind.wrap .i64 (q18.2 + 1))))
  else
    some (.inr q18.1)
def law12_filter_l1 (x0_ : (List match_Match)) (x1_ : ((List match_Span) → Option Bool)) (x2_ : ((List match_Span) → match_Span → Option Bool)) (q18 : ((List match_Match) × Int)) : Option (List match_Match) := iter (law12_filter_s1 x0_ x1_ x2_) q18
def law12_filter (x0_ : (List match_Match)) (x1_ : ((List match_Span) → Option Bool)) (x2_ : ((List match_Span) → match_Span → Option Bool)) : Option (List match_Match) :=
  (F.law12_filter_l1 x0_ x1_ x2_ (([] : (List match_Match)), 0)).bind fun (p24 : (List match_Match)) =>
  some p24
def match_inOrder (x0_ : match_Span) (x1_ : match_Span) : Option Bool :=
  (some ((x0_.Part == x1_.Part) || ((decide (x0_.Part < x1_.Part)) == (decide (x0_.From < x1_.From))))).bind fun r10 =>
  (some (r10 || (x0_.From == x1_.From))).bind fun r12 =>
  some r12
def match_Ordered_1_1_1 (x0_ : match_Span) (c0_ : match_Span) : Option Bool :=
  (F.match_inOrder x0_ c0_).bind fun x6 =>
  some (!x6)
def slices_IndexFunc_match_Span_match_Span_s1 (x0_ : (List match_Span)) (x1_ : (match_Span → Option Bool)) (q9 : Int) : Option (Int ⊕ (Unit ⊕ Int)) :=
  if (decide (q9 < (x0_.length : Int))) then
    (lidx x0_ q9).bind fun x23 =>
    (x1_ x23).bind fun x25 =>
    if x25 then
      some (.inr (.inr (q9)))
    else
      some (.inl (IntKind.wrap .i64 (q9 + 1)))
  else
    some (.inr (.inl ()))
def slices_IndexFunc_match_Span_match_Span_l1 (x0_ : (List match_Span)) (x1_ : (match_Span → Option Bool)) (q9 : Int) : Option (Unit ⊕ Int) := iter (slices_IndexFunc_match_Span_match_Span_s1 x0_ x1_) q9
def slices_IndexFunc_match_Span_match_Span (x0_ : (List match_Span)) (x1_ : (match_Span → Option Bool)) : Option Int :=
  (F.slices_IndexFunc_match_Span_match_Span_l1 x0_ x1_ 0).bind fun a17 => match a17 with
    | .inl p13 =>
      some (-1)
    | .inr (p16) =>
      some p16
def slices_ContainsFunc_match_Span_match_Span (x0_ : (List match_Span)) (x1_ : (match_Span → Option Bool)) : Option Bool :=
  (F.slices_IndexFunc_match_Span_match_Span x0_ x1_).bind fun x8 =>
  some (decide (x8 ≥ 0))
def match_Ordered_1_1 (x0_ : match_Span) (c0_ : match_Match) : Option Bool :=
  (F.slices_ContainsFunc_match_Span_match_Span c0_.In (fun z0 => F.match_Ordered_1_1_1 z0 x0_)).bind fun x10 =>
  some (!x10)
def match_outs_s1 (x0_ : match_Match) (x1_ : (match_Span → Option Bool)) (q22 : ((List match_Span) × Int)) : Option (((List match_Span) × Int) ⊕ (List match_Span)) :=
  if (decide (q22.2 < (x0_.Out.length : Int))) then
    (lidx x0_.Out q22.2).bind fun x42 =>
    (x1_ x42).bind fun x54 =>
    if x54 then
      (lapp q22.1 [x42]).bind fun x65 =>
      some (.inl (x65, (IntKind.wrap .i64 (q22.2 + 1))))
    else
      some (.inl (q22.1, (IntKind.wrap .i64 (q22.2 + 1))))
  else
    some (.inr q22.1)
def match_outs_l1 (x0_ : match_Match) (x1_ : (match_Span → Option Bool)) (q22 : ((List match_Span) × Int)) : Option (List match_Span) := iter (match_outs_s1 x0_ x1_) q22
def match_outs (x0_ : match_Match) (x1_ : (match_Span → Option Bool)) : Option match_Match :=
  (F.match_outs_l1 x0_ x1_ ([], 0)).bind fun (p28 : (List match_Span)) =>
  some (F.match_Match.mk x0_.In p28)
def match_Ordered_1_2 (x0_ : match_Span) (c0_ : (match_Span → Option Bool)) : Option Bool :=
  (c0_ x0_).bind fun x12 =>
  some (!x12)
def match_Ordered_1 (x0_ : match_Match) : Option (match_Match × Bool) :=
  (F.match_outs x0_ (fun z0 => F.match_Ordered_1_1 z0 x0_)).bind fun x22 =>
  (F.slices_ContainsFunc_match_Span_match_Span x0_.In (fun z0 => F.match_Ordered_1_2 z0 (fun z0 => F.match_Ordered_1_1 z0 x0_))).bind fun x24 =>
  some (x22, (!x24))
def match_Ordered (x0_ : (List match_Match)) : Option (List match_Match) :=
  (F.match_keep x0_ (fun z0 => F.match_Ordered_1 z0)).bind fun x2 =>
  some x2
def law12_MatchOrders (x0_ : (List match_Match)) : Option Bool :=
  (F.law12_head).bind fun x2 =>
  if (!x2) then
    some false
  else
    (F.law12_Good x0_ 30).bind fun x14 =>
    if (!x14) then
      some true
    else
      (F.law12_filter x0_ (fun z0 => F.law12_MatchOrders_3 z0 (fun z0 z1 => F.law12_MatchOrders_2 z0 z1 (fun z0 z1 => F.law12_MatchOrders_1 z0 z1))) (fun z0 z1 => F.law12_MatchOrders_2 z0 z1 (fun z0 z1 => F.law12_MatchOrders_1 z0 z1))).bind fun x42 =>
      (F.match_Ordered x0_).bind fun x94 =>
      (F.law12_Same x94 x42).bind fun x96 =>
      some x96
def match_some_s3 (x0_ : (List match_Match)) (x1_ : Int) (q6 : ((List match_way) × Int)) (x47 : match_way) (q68 : ((List match_way) × Int)) : Option (((List match_way) × Int) ⊕ ((List match_way) ⊕ ((List match_Match) × Int))) :=
  if (decide (q68.2 < (IntKind.wrap .i64 ((x0_.length : Int) - (IntKind.wrap .i64 ((IntKind.wrap .i64 (x1_ - q6.2)) - 1)))))) then
    (lidx x0_ q68.2).bind fun x88 =>
    (F.match_join x47.m_ x88).bind fun x94 =>
    (lapp q68.1 [(F.match_way.mk x94 (IntKind.wrap .i64 (q68.2 + 1)))]).bind fun x96 =>
    if (decide ((x96.length : Int) > 400)) then
      some (.inr (.inr (([], 23))))
    else
      some (.inl (x96, (IntKind.wrap .i64 (q68.2 + 1))))
  else
    some (.inr (.inl q68.1))
def match_some_l3 (x0_ : (List match_Match)) (x1_ : Int) (q6 : ((List match_way) × Int)) (x47 : match_way) (q68 : ((List match_way) × Int)) : Option ((List match_way) ⊕ ((List match_Match) × Int)) := iter (match_some_s3 x0_ x1_ q6 x47) q68
def match_some_s2 (x0_ : (List match_Match)) (x1_ : Int) (q6 : ((List match_way) × Int)) (q27 : ((List match_way) × Int)) : Option (((List match_way) × Int) ⊕ ((List match_way) ⊕ ((List match_Match) × Int))) :=
  if (decide (q27.2 < (q6.1.length : Int))) then
    (lidx q6.1 q27.2).bind fun x47 =>
    (F.match_some_l3 x0_ x1_ q6 x47 (q27.1, x47.next_)).bind fun a80 => match a80 with
      | .inl p74 =>
        some (.inl (p74, (IntKind.wrap .i64 (q27.2 + 1))))
      | .inr (p79) =>
        some (.inr (.inr (p79)))
  else
    some (.inr (.inl q27.1))
def match_some_l2 (x0_ : (List match_Match)) (x1_ : Int) (q6 : ((List match_way) × Int)) (q27 : ((List match_way) × Int)) : Option ((List match_way) ⊕ ((List match_Match) × Int)) := iter (match_some_s2 x0_ x1_ q6) q27
def match_some_s1 (x0_ : (List match_Match)) (x1_ : Int) (q6 : ((List match_way) × Int)) : Option (((List match_way) × Int) ⊕ ((List match_way) ⊕ ((List match_Match) × Int))) :=
  if (decide (q6.2 < x1_)) then
    (F.match_some_l2 x0_ x1_ q6 ([], 0)).bind fun a39 => match a39 with
      | .inl p33 =>
        if ((p33.length : Int) == 0) then
          some (.inr (.inr (([], 0))))
        else
          some (.inl (p33, (IntKind.wrap .i64 (q6.2 + 1))))
      | .inr (p38) =>
        some (.inr (.inr (p38)))
  else
    some (.inr (.inl q6.1))
def match_some_l1 (x0_ : (List match_Match)) (x1_ : Int) (q6 : ((List match_way) × Int)) : Option ((List match_way) ⊕ ((List match_Match) × Int)) := iter (match_some_s1 x0_ x1_) q6
def match_some_s4 (p12 : (List match_way)) (q149 : ((List match_Match) × Int)) : Option (((List match_Match) × Int) ⊕ (List match_Match)) :=
  if (decide (q149.2 < (p12.length : Int))) then
    (lidx p12 q149.2).bind fun x168 =>
    (lapp q149.1 [x168.m_]).bind fun x188 =>
    some (.inl (x188, (IntKind.wrap .i64 (q149.2 + 1))))
  else
    some (.inr q149.1)
def match_some_l4 (p12 : (List match_way)) (q149 : ((List match_Match) × Int)) : Option (List match_Match) := iter (match_some_s4 p12) q149
def match_some (x0_ : (List match_Match)) (x1_ : Int) : Option ((List match_Match) × Int) :=
  (F.match_some_l1 x0_ x1_ (([(F.match_way.mk (F.match_Match.mk [] []) 0)] : (List match_way)), 0)).bind fun a18 => match a18 with
    | .inl p12 =>
      (F.match_some_l4 p12 ([], 0)).bind fun (p155 : (List match_Match)) =>
      some (p155, 0)
    | .inr (p17) =>
      some p17
def match_Times (x0_ : (List match_Match)) (x1_ : api_Range) : Option ((List match_Match) × Int) :=
  (F.match_some x0_ (max 0 x1_.Lo)).bind fun x6 =>
  (some ((x6.2 != 0) || (decide (x1_.Hi ≥ (x0_.length : Int))))).bind fun r20 =>
  if r20 then
    some (x6.1, x6.2)
  else
    if (decide (x1_.Hi < 0)) then
      some ([], 0)
    else
      (F.match_some x0_ (IntKind.wrap .i64 (x1_.Hi + 1))).bind fun x33 =>
      if (x33.2 != 0) then
        some ([], x33.2)
      else
        (F.match_Not x33.1).bind fun x50 =>
        if (x50.2 != 0) then
          some ([], x50.2)
        else
          (F.match_And x6.1 x50.1).bind fun x67 =>
          some (x67.1, x67.2)
def law12_choose_s1 (self_ : (List match_Match) → Int → Int → match_Match → (List match_Match) → Option (List match_Match)) (x0_ : (List match_Match)) (x2_ : Int) (x3_ : match_Match) (q24 : ((List match_Match) × Int)) : Option (((List match_Match) × Int) ⊕ (List match_Match)) :=
  if (decide (q24.2 < (x0_.length : Int))) then
    (lidx x0_ q24.2).bind fun x41 =>
    (F.law12_both x3_.In x41.In).bind fun x47 =>
    (lidx x0_ q24.2).bind fun x49 =>
    (F.law12_both x3_.Out x49.Out).bind fun x55 =>
    (self_ x0_ (IntKind.wrap .i64 (q24.2 + 1)) (IntKind.wrap .i64 (x2_ - 1)) (F.match_Match.mk x47 x55) q24.1).bind fun x57 =>
    some (.inl (x57, (IntKind.wrap .i64 (q24.2 + 1))))
  else
    some (.inr q24.1)
def law12_choose_l1 (self_ : (List match_Match) → Int → Int → match_Match → (List match_Match) → Option (List match_Match)) (x0_ : (List match_Match)) (x2_ : Int) (x3_ : match_Match) (q24 : ((List match_Match) × Int)) : Option (List match_Match) := iter (law12_choose_s1 self_ x0_ x2_ x3_) q24
def law12_choose_fu : Nat → (List match_Match) → Int → Int → match_Match → (List match_Match) → Option (List match_Match)
  | 0, _, _, _, _, _ => none
  | fu + 1, x0_, x1_, x2_, x3_, x4_ =>
    if (x2_ == 0) then
      (lapp x4_ [x3_]).bind fun x12 =>
      some x12
    else
      (F.law12_choose_l1 (law12_choose_fu fu) x0_ x2_ x3_ (x4_, x1_)).bind fun (p30 : (List match_Match)) =>
      some p30
def law12_choose (x0_ : (List match_Match)) (x1_ : Int) (x2_ : Int) (x3_ : match_Match) (x4_ : (List match_Match)) : Option (List match_Match) := F.law12_choose_fu 1000 x0_ x1_ x2_ x3_ x4_
def law12_MatchTimes (x0_ : (List match_Match)) (x1_ : Int) (x2_ : Int) : Option Bool :=
  (F.law12_head).bind fun x2 =>
  if (!x2) then
    some false
  else
    (F.law12_Good x0_ 7).bind fun x14 =>
    if (!x14) then
      some true
    else
      (F.match_Times x0_ (F.api_Range.mk (band .i64 x1_ 7) (IntKind.wrap .i64 ((band .i64 x2_ 15) - 1)))).bind fun x28 =>
      (F.law12_choose x0_ 0 (band .i64 x1_ 7) (F.match_Match.mk [] []) []).bind fun x42 =>
      if (decide ((IntKind.wrap .i64 ((band .i64 x2_ 15) - 1)) < (x0_.length : Int))) then
        if (decide ((IntKind.wrap .i64 ((band .i64 x2_ 15) - 1)) < 0)) then
          (some ((x28.2 == 0) && ((x28.1.length : Int) == 0))).bind fun r57 =>
          some r57
        else
          (F.law12_choose x0_ 0 (IntKind.wrap .i64 ((IntKind.wrap .i64 ((band .i64 x2_ 15) - 1)) + 1)) (F.match_Match.mk [] []) []).bind fun x61 =>
          (F.law12_not x61).bind fun x63 =>
          if (!x63.2) then
            (some ((x28.2 == 23) && ((x28.1.length : Int) == 0))).bind fun r87 =>
            some r87
          else
            (F.law12_and x42 x63.1).bind fun x91 =>
            if (!x91.2) then
              (some ((x28.2 == 23) && ((x28.1.length : Int) == 0))).bind fun r107 =>
              some r107
            else
              (if (x28.2 == 0) then ((F.law12_Same x28.1 x91.1).bind fun x111 => some x111) else some false).bind fun r113 =>
              some r113
      else
        (if (x28.2 == 0) then ((F.law12_Same x28.1 x42).bind fun x124 => some x124) else some false).bind fun r126 =>
        some r126
def law12_MatchCounts_s1 (x0_ : Int) (q21 : ((List match_Span) × Int)) : Option (((List match_Span) × Int) ⊕ (List match_Span)) :=
  if (decide (q21.2 < (band .i64 x0_ 7))) then
    (lapp q21.1 [(F.match_Span.mk q21.2 q21.2 0 0)]).bind fun x38 =>
    some (.inl (x38, (IntKind.wrap .i64 (q21.2 + 1))))
  else
    some (.inr q21.1)
def law12_MatchCounts_l1 (x0_ : Int) (q21 : ((List match_Span) × Int)) : Option (List match_Span) := iter (law12_MatchCounts_s1 x0_) q21
def law12_MatchCounts (x0_ : Int) (x1_ : Int) (x2_ : Int) : Option Bool :=
  (F.law12_head).bind fun x2 =>
  if (!x2) then
    some false
  else
    (F.law12_MatchCounts_l1 x0_ (([] : (List match_Span)), 0)).bind fun (p27 : (List match_Span)) =>
    (F.match_Of p27).bind fun x50 =>
    (F.match_Times x50 (F.api_Range.mk (band .i64 x1_ 7) (IntKind.wrap .i64 ((band .i64 x1_ 7) + (band .i64 x2_ 7))))).bind fun x52 =>
    (if (x52.2 == 23) then some true else ((if (x52.2 == 0) then ((F.match_Holds x52.1).bind fun x73 => (some ((decide ((band .i64 x0_ 7) ≥ (band .i64 x1_ 7))) && (decide ((band .i64 x0_ 7) ≤ (IntKind.wrap .i64 ((band .i64 x1_ 7) + (band .i64 x2_ 7))))))).bind fun r75 => some (x73 == r75)) else some false).bind fun r77 => some r77)).bind fun r79 =>
    some r79
def law12_MatchEmpty (x0_ : (List match_Match)) (x1_ : Int) (x2_ : Int) : Option Bool :=
  (F.law12_head).bind fun x2 =>
  if (!x2) then
    some false
  else
    (F.law12_Good x0_ 20).bind fun x14 =>
    if (!x14) then
      some true
    else
      (F.match_Or [] x0_).bind fun x26 =>
      (F.match_And [] x0_).bind fun x40 =>
      (F.match_Not []).bind fun x54 =>
      (F.match_Times [] (F.api_Range.mk (band .i64 x1_ 7) (band .i64 x2_ 7))).bind fun x68 =>
      (some ((x26.2 == 0) && (x40.2 == 0))).bind fun r82 =>
      (some (r82 && (x54.2 == 0))).bind fun r84 =>
      (some (r84 && (x68.2 == 0))).bind fun r86 =>
      (if r86 then ((F.law12_Same x26.1 x0_).bind fun x88 => some x88) else some false).bind fun r90 =>
      (some (r90 && ((x40.1.length : Int) == 0))).bind fun r92 =>
      (some (r92 && ((x54.1.length : Int) == 1))).bind fun r94 =>
      (if r94 then ((F.match_Holds x54.1).bind fun x96 => some x96) else some false).bind fun r98 =>
      (if r98 then ((F.match_Holds x68.1).bind fun x100 => some (x100 == ((band .i64 x1_ 7) == 0))) else some false).bind fun r102 =>
      (if r102 then ((F.match_Of []).bind fun x104 => some ((x104.length : Int) == 0)) else some false).bind fun r106 =>
      (if r106 then ((F.match_Holds []).bind fun x108 => some (!x108)) else some false).bind fun r110 =>
      some r110
end
end Go.Proofs.Ytihbdelgoapeoaa.F
