/- The program, pure. Printed. -/
import Derived.Test.YtihbdelgoapeoaaF0
namespace Go.Proofs.Ytihbdelgoapeoaa.F
open Go
set_option linter.unusedVariables false
structure match_Span where
  From : Int
  To : Int
  Part : Int
  Weight : Int
  deriving DecidableEq
structure match_Match where
  In : (List match_Span)
  Out : (List match_Span)
  deriving DecidableEq
noncomputable section
def match_Of_s1 (x0_ : (List match_Span)) (q4 : ((List match_Match) × Int)) : Option (((List match_Match) × Int) ⊕ (List match_Match)) :=
  if (decide (q4.2 < (x0_.length : Int))) then
    (lidx x0_ q4.2).bind fun x21 =>
    (lapp q4.1 [(F.match_Match.mk [x21] [])]).bind fun x33 =>
    some (.inl (x33, (IntKind.wrap .i64 (q4.2 + 1))))
  else
    some (.inr q4.1)
def match_Of_l1 (x0_ : (List match_Span)) (q4 : ((List match_Match) × Int)) : Option (List match_Match) := iter (match_Of_s1 x0_) q4
def match_Of (x0_ : (List match_Span)) : Option (List match_Match) :=
  (F.match_Of_l1 x0_ ([], 0)).bind fun (p10 : (List match_Match)) =>
  some p10

def slices_Concat_match_Span_match_Span (x0_ : List (List match_Span)) : Option (List match_Span) := lcat x0_
def match_join (x0_ : match_Match) (x1_ : match_Match) : Option match_Match :=
  (F.slices_Concat_match_Span_match_Span [x0_.In, x1_.In]).bind fun x22 =>
  (F.slices_Concat_match_Span_match_Span [x0_.Out, x1_.Out]).bind fun x24 =>
  some (F.match_Match.mk x22 x24)
def match_And_s2 (x1_ : (List match_Match)) (x33 : match_Match) (q54 : ((List match_Match) × Int)) : Option (((List match_Match) × Int) ⊕ (List match_Match)) :=
  if (decide (q54.2 < (x1_.length : Int))) then
    (lidx x1_ q54.2).bind fun x71 =>
    (F.match_join x33 x71).bind fun x91 =>
    (lapp q54.1 [x91]).bind fun x93 =>
    some (.inl (x93, (IntKind.wrap .i64 (q54.2 + 1))))
  else
    some (.inr q54.1)
def match_And_l2 (x1_ : (List match_Match)) (x33 : match_Match) (q54 : ((List match_Match) × Int)) : Option (List match_Match) := iter (match_And_s2 x1_ x33) q54
def match_And_s1 (x0_ : (List match_Match)) (x1_ : (List match_Match)) (q16 : ((List match_Match) × Int)) : Option (((List match_Match) × Int) ⊕ (List match_Match)) :=
  if (decide (q16.2 < (x0_.length : Int))) then
    (lidx x0_ q16.2).bind fun x33 =>
    (F.match_And_l2 x1_ x33 (q16.1, 0)).bind fun (p60 : (List match_Match)) =>
    some (.inl (p60, (IntKind.wrap .i64 (q16.2 + 1))))
  else
    some (.inr q16.1)
def match_And_l1 (x0_ : (List match_Match)) (x1_ : (List match_Match)) (q16 : ((List match_Match) × Int)) : Option (List match_Match) := iter (match_And_s1 x0_ x1_) q16
def match_And (x0_ : (List match_Match)) (x1_ : (List match_Match)) : Option ((List match_Match) × Int) :=
  (if (decide ((x0_.length : Int) > 0)) then ((nz (x0_.length : Int)).bind fun x2 => some (decide ((x1_.length : Int) > (IntKind.wrap .i64 (Int.tdiv 400 (x0_.length : Int)))))) else some false).bind fun r4 =>
  if r4 then
    some ([], 23)
  else
    (F.match_And_l1 x0_ x1_ ([], 0)).bind fun (p22 : (List match_Match)) =>
    some (p22, 0)
def match_Not_s2 (x23 : match_Match) (q45 : ((List match_Match) × Int)) : Option (((List match_Match) × Int) ⊕ (List match_Match)) :=
  if (decide (q45.2 < (x23.In.length : Int))) then
    (lidx x23.In q45.2).bind fun x64 =>
    (lapp q45.1 [(F.match_Match.mk [] [x64])]).bind fun x76 =>
    some (.inl (x76, (IntKind.wrap .i64 (q45.2 + 1))))
  else
    some (.inr q45.1)
def match_Not_l2 (x23 : match_Match) (q45 : ((List match_Match) × Int)) : Option (List match_Match) := iter (match_Not_s2 x23) q45
def match_Not_s3 (x23 : match_Match) (q96 : ((List match_Match) × Int)) : Option (((List match_Match) × Int) ⊕ (List match_Match)) :=
  if (decide (q96.2 < (x23.Out.length : Int))) then
    (lidx x23.Out q96.2).bind fun x114 =>
    (lapp q96.1 [(F.match_Match.mk [x114] [])]).bind fun x126 =>
    some (.inl (x126, (IntKind.wrap .i64 (q96.2 + 1))))
  else
    some (.inr q96.1)
def match_Not_l3 (x23 : match_Match) (q96 : ((List match_Match) × Int)) : Option (List match_Match) := iter (match_Not_s3 x23) q96
def match_Not_s1 (x0_ : (List match_Match)) (q6 : ((List match_Match) × Int)) : Option (((List match_Match) × Int) ⊕ ((List match_Match) ⊕ ((List match_Match) × Int))) :=
  if (decide (q6.2 < (x0_.length : Int))) then
    (lidx x0_ q6.2).bind fun x23 =>
    (F.match_Not_l2 x23 ([], 0)).bind fun (p51 : (List match_Match)) =>
    (F.match_Not_l3 x23 (p51, 0)).bind fun (p102 : (List match_Match)) =>
    (F.match_And q6.1 p102).bind fun x146 =>
    if (x146.2 != 0) then
      some (.inr (.inr (([], x146.2))))
    else
      some (.inl (x146.1, (IntKind.wrap .i64 (q6.2 + 1))))
  else
    some (.inr (.inl q6.1))
def match_Not_l1 (x0_ : (List match_Match)) (q6 : ((List match_Match) × Int)) : Option ((List match_Match) ⊕ ((List match_Match) × Int)) := iter (match_Not_s1 x0_) q6
def match_Not (x0_ : (List match_Match)) : Option ((List match_Match) × Int) :=
  (F.match_Not_l1 x0_ (([(F.match_Match.mk [] [])] : (List match_Match)), 0)).bind fun a18 => match a18 with
    | .inl p12 =>
      some (p12, 0)
    | .inr (p17) =>
      some p17
def slices_IndexFunc_match_Match_match_Match_s1 (x0_ : (List match_Match)) (x1_ : (match_Match → Option Bool)) (q9 : Int) : Option (Int ⊕ (Unit ⊕ Int)) :=
  if (decide (q9 < (x0_.length : Int))) then
    (lidx x0_ q9).bind fun x23 =>
    (x1_ x23).bind fun x29 =>
    if x29 then
      some (.inr (.inr (q9)))
    else
      some (.inl (IntKind.wrap .i64 (q9 + 1)))
  else
    some (.inr (.inl ()))
def slices_IndexFunc_match_Match_match_Match_l1 (x0_ : (List match_Match)) (x1_ : (match_Match → Option Bool)) (q9 : Int) : Option (Unit ⊕ Int) := iter (slices_IndexFunc_match_Match_match_Match_s1 x0_ x1_) q9
def slices_IndexFunc_match_Match_match_Match (x0_ : (List match_Match)) (x1_ : (match_Match → Option Bool)) : Option Int :=
  (F.slices_IndexFunc_match_Match_match_Match_l1 x0_ x1_ 0).bind fun a17 => match a17 with
    | .inl p13 =>
      some (-1)
    | .inr (p16) =>
      some p16
def slices_ContainsFunc_match_Match_match_Match (x0_ : (List match_Match)) (x1_ : (match_Match → Option Bool)) : Option Bool :=
  (F.slices_IndexFunc_match_Match_match_Match x0_ x1_).bind fun x8 =>
  some (decide (x8 ≥ 0))
def match_Holds_1 (x0_ : match_Match) : Option Bool :=
  some ((x0_.Out.length : Int) == 0)
def match_Holds (x0_ : (List match_Match)) : Option Bool :=
  (F.slices_ContainsFunc_match_Match_match_Match x0_ (fun z0 => F.match_Holds_1 z0)).bind fun x2 =>
  some x2
def law12_head  : Option Bool :=
  (F.match_Of [(F.match_Span.mk 1 1 0 0), (F.match_Span.mk 2 3 0 0)]).bind fun x2 =>
  (F.match_Not x2).bind fun x14 =>
  (some ((x14.2 == 0) && ((x14.1.length : Int) == 1))).bind fun r28 =>
  (if r28 then ((lidx x14.1 0).bind fun x30 => some ((x30.In.length : Int) == 0)) else some false).bind fun r36 =>
  (if r36 then ((lidx x14.1 0).bind fun x38 => some ((x38.Out.length : Int) == 2)) else some false).bind fun r44 =>
  (if r44 then ((lidx x14.1 0).bind fun x46 => (lidx x46.Out 1).bind fun x52 => some (x52.To == 3)) else some false).bind fun r54 =>
  (if r54 then ((F.match_Holds x14.1).bind fun x56 => some (!x56)) else some false).bind fun r58 =>
  (if r58 then ((F.match_Holds x2).bind fun x60 => some x60) else some false).bind fun r62 =>
  some r62
def law12_Good_s2 (x48 : (List match_Span)) (q65 : Int) : Option (Int ⊕ (Unit ⊕ Bool)) :=
  if (decide (q65 < (x48.length : Int))) then
    (lidx x48 q65).bind fun x80 =>
    (some ((decide (x80.From < 0)) || (decide (x80.To < x80.From)))).bind fun r92 =>
    (some (r92 || (decide (x80.To > 1000)))).bind fun r94 =>
    if r94 then
      some (.inr (.inr (false)))
    else
      some (.inl (IntKind.wrap .i64 (q65 + 1)))
  else
    some (.inr (.inl ()))
def law12_Good_l2 (x48 : (List match_Span)) (q65 : Int) : Option (Unit ⊕ Bool) := iter (law12_Good_s2 x48) q65
def law12_Good_s1 (x0_ : (List match_Match)) (q3 : Int) : Option (Int ⊕ (Unit ⊕ Bool)) :=
  if (decide (q3 < (x0_.length : Int))) then
    (lidx x0_ q3).bind fun x16 =>
    (some ((decide ((x16.In.length : Int) > 5)) || (decide ((x16.Out.length : Int) > 5)))).bind fun r36 =>
    if r36 then
      some (.inr (.inr (false)))
    else
      (lapp [] x16.In).bind fun x46 =>
      (lapp x46 x16.Out).bind fun x48 =>
      (F.law12_Good_l2 x48 0).bind fun a73 => match a73 with
        | .inl p69 =>
          some (.inl (IntKind.wrap .i64 (q3 + 1)))
        | .inr (p72) =>
          some (.inr (.inr (p72)))
  else
    some (.inr (.inl ()))
def law12_Good_l1 (x0_ : (List match_Match)) (q3 : Int) : Option (Unit ⊕ Bool) := iter (law12_Good_s1 x0_) q3
def law12_Good (x0_ : (List match_Match)) (x1_ : Int) : Option Bool :=
  (F.law12_Good_l1 x0_ 0).bind fun a11 => match a11 with
    | .inl p7 =>
      some (decide ((x0_.length : Int) ≤ x1_))
    | .inr (p10) =>
      some p10
def match_Mild_1_1_1 (x0_ : match_Span) (c0_ : match_Span) : Option Bool :=
  (some ((decide (x0_.From ≤ c0_.From)) && (decide (c0_.To ≤ x0_.To)))).bind fun r6 =>
  some r6
def slices_IndexFunc_match_Span_match_Span_s1 (x0_ : (List match_Span)) (x1_ : (match_Span → Option Bool)) (q9 : Int) : Option (Int ⊕ (Unit ⊕ Int)) :=
  if (decide (q9 < (x0_.length : Int))) then
    (lidx x0_ q9).bind fun x23 =>
    (x1_ x23).bind fun x25 =>
    if x25 then
      some (.inr (.inr (q9)))
    else
      some (.inl (IntKind.wrap .i64 (q9 + 1)))
  else
    some (.inr (.inl ()))
def slices_IndexFunc_match_Span_match_Span_l1 (x0_ : (List match_Span)) (x1_ : (match_Span → Option Bool)) (q9 : Int) : Option (Unit ⊕ Int) := iter (slices_IndexFunc_match_Span_match_Span_s1 x0_ x1_) q9
def slices_IndexFunc_match_Span_match_Span (x0_ : (List match_Span)) (x1_ : (match_Span → Option Bool)) : Option Int :=
  (F.slices_IndexFunc_match_Span_match_Span_l1 x0_ x1_ 0).bind fun a17 => match a17 with
    | .inl p13 =>
      some (-1)
    | .inr (p16) =>
      some p16
def slices_ContainsFunc_match_Span_match_Span (x0_ : (List match_Span)) (x1_ : (match_Span → Option Bool)) : Option Bool :=
  (F.slices_IndexFunc_match_Span_match_Span x0_ x1_).bind fun x8 =>
  some (decide (x8 ≥ 0))
def match_Mild_1_1 (x0_ : match_Match) (c0_ : match_Span) : Option Bool :=
  (F.slices_ContainsFunc_match_Span_match_Span x0_.In (fun z0 => F.match_Mild_1_1_1 z0 c0_)).bind fun x10 =>
  some x10
def match_Mild_1 (x0_ : match_Span) (c0_ : (List match_Match)) : Option Bool :=
  (F.slices_ContainsFunc_match_Match_match_Match c0_ (fun z0 => F.match_Mild_1_1 z0 x0_)).bind fun x6 =>
  some x6
def match_Mild_2 (x0_ : match_Match) (c0_ : (match_Span → Option Bool)) : Option (match_Match × Bool) :=
  (F.slices_ContainsFunc_match_Span_match_Span x0_.In c0_).bind fun x20 =>
  some (x0_, (!x20))
def slices_Clone_match_Span_match_Span (x0_ : (List match_Span)) : Option (List match_Span) := lapp [] x0_
def match_keep_s1 (x0_ : (List match_Match)) (x1_ : (match_Match → Option (match_Match × Bool))) (q10 : ((List match_Match) × Int)) : Option (((List match_Match) × Int) ⊕ (List match_Match)) :=
  if (decide (q10.2 < (x0_.length : Int))) then
    (lidx x0_ q10.2).bind fun x27 =>
    (x1_ x27).bind fun x47 =>
    if x47.2 then
      (F.slices_Clone_match_Span_match_Span x47.1.In).bind fun x74 =>
      (F.slices_Clone_match_Span_match_Span x47.1.Out).bind fun x76 =>
      (lapp q10.1 [(F.match_Match.mk x74 x76)]).bind fun x78 =>
      some (.inl (x78, (IntKind.wrap .i64 (q10.2 + 1))))
    else
      some (.inl (q10.1, (IntKind.wrap .i64 (q10.2 + 1))))
  else
    some (.inr q10.1)
def match_keep_l1 (x0_ : (List match_Match)) (x1_ : (match_Match → Option (match_Match × Bool))) (q10 : ((List match_Match) × Int)) : Option (List match_Match) := iter (match_keep_s1 x0_ x1_) q10
def match_keep (x0_ : (List match_Match)) (x1_ : (match_Match → Option (match_Match × Bool))) : Option (List match_Match) :=
  (F.match_keep_l1 x0_ x1_ ([], 0)).bind fun (p16 : (List match_Match)) =>
  some p16
def match_Mild (x0_ : (List match_Match)) (x1_ : (List match_Match)) : Option (List match_Match) :=
  (F.match_keep x0_ (fun z0 => F.match_Mild_2 z0 (fun z0 => F.match_Mild_1 z0 x1_))).bind fun x14 =>
  some x14
def law12_spans_s1 (x0_ : (List match_Span)) (x1_ : (List match_Span)) (q6 : Int) : Option (Int ⊕ (Unit ⊕ Bool)) :=
  if (decide (q6 < (x0_.length : Int))) then
    (lidx x0_ q6).bind fun x20 =>
    (lidx x1_ q6).bind fun x22 =>
    if (!decide (x20 = x22)) then
      some (.inr (.inr (false)))
    else
      some (.inl (IntKind.wrap .i64 (q6 + 1)))
  else
    some (.inr (.inl ()))
def law12_spans_l1 (x0_ : (List match_Span)) (x1_ : (List match_Span)) (q6 : Int) : Option (Unit ⊕ Bool) := iter (law12_spans_s1 x0_ x1_) q6
def law12_spans (x0_ : (List match_Span)) (x1_ : (List match_Span)) : Option Bool :=
  if ((x0_.length : Int) != (x1_.length : Int)) then
    some false
  else
    (F.law12_spans_l1 x0_ x1_ 0).bind fun a14 => match a14 with
      | .inl p10 =>
        some true
      | .inr (p13) =>
        some p13
def law12_Same_s1 (x0_ : (List match_Match)) (x1_ : (List match_Match)) (q6 : Int) : Option (Int ⊕ (Unit ⊕ Bool)) :=
  if (decide (q6 < (x0_.length : Int))) then
    (lidx x0_ q6).bind fun x20 =>
    (lidx x1_ q6).bind fun x26 =>
    (F.law12_spans x20.In x26.In).bind fun x32 =>
    (if (!x32) then some true else ((lidx x0_ q6).bind fun x34 => (lidx x1_ q6).bind fun x40 => (F.law12_spans x34.Out x40.Out).bind fun x46 => some (!x46))).bind fun r48 =>
    if r48 then
      some (.inr (.inr (false)))
    else
      some (.inl (IntKind.wrap .i64 (q6 + 1)))
  else
    some (.inr (.inl ()))
def law12_Same_l1 (x0_ : (List match_Match)) (x1_ : (List match_Match)) (q6 : Int) : Option (Unit ⊕ Bool) := iter (law12_Same_s1 x0_ x1_) q6
def law12_Same (x0_ : (List match_Match)) (x1_ : (List match_Match)) : Option Bool :=
  if ((x0_.length : Int) != (x1_.length : Int)) then
    some false
  else
    (F.law12_Same_l1 x0_ x1_ 0).bind fun a14 => match a14 with
      | .inl p10 =>
        some true
      | .inr (p13) =>
        some p13
def law12_MatchMild_s4 (x99 : match_Span) (x127 : match_Match) (q148 : (Bool × Int)) : Option ((Bool × Int) ⊕ Bool) :=
  if (decide (q148.2 < (x127.In.length : Int))) then
    (lidx x127.In q148.2).bind fun x164 =>
    (if q148.1 then ((some ((decide (x99.From < x164.From)) || (decide (x99.To > x164.To)))).bind fun r176 => some r176) else some false).bind fun r178 =>
    some (.inl (r178, (IntKind.wrap .i64 (q148.2 + 1))))
  else
    some (.inr q148.1)
def law12_MatchMild_l4 (x99 : match_Span) (x127 : match_Match) (q148 : (Bool × Int)) : Option Bool := iter (law12_MatchMild_s4 x99 x127) q148
def law12_MatchMild_s3 (x1_ : (List match_Match)) (x99 : match_Span) (q112 : (Bool × Int)) : Option ((Bool × Int) ⊕ Bool) :=
  if (decide (q112.2 < (x1_.length : Int))) then
    (lidx x1_ q112.2).bind fun x127 =>
    (F.law12_MatchMild_l4 x99 x127 (q112.1, 0)).bind fun (p152 : Bool) =>
    some (.inl (p152, (IntKind.wrap .i64 (q112.2 + 1))))
  else
    some (.inr q112.1)
def law12_MatchMild_l3 (x1_ : (List match_Match)) (x99 : match_Span) (q112 : (Bool × Int)) : Option Bool := iter (law12_MatchMild_s3 x1_ x99) q112
def law12_MatchMild_s2 (x1_ : (List match_Match)) (x63 : match_Match) (q85 : (Bool × Int)) : Option ((Bool × Int) ⊕ Bool) :=
  if (decide (q85.2 < (x63.In.length : Int))) then
    (lidx x63.In q85.2).bind fun x99 =>
    (F.law12_MatchMild_l3 x1_ x99 (q85.1, 0)).bind fun (p116 : Bool) =>
    some (.inl (p116, (IntKind.wrap .i64 (q85.2 + 1))))
  else
    some (.inr q85.1)
def law12_MatchMild_l2 (x1_ : (List match_Match)) (x63 : match_Match) (q85 : (Bool × Int)) : Option Bool := iter (law12_MatchMild_s2 x1_ x63) q85
def law12_MatchMild_s1 (x0_ : (List match_Match)) (x1_ : (List match_Match)) (q46 : ((List match_Match) × Int)) : Option (((List match_Match) × Int) ⊕ (List match_Match)) :=
  if (decide (q46.2 < (x0_.length : Int))) then
    (lidx x0_ q46.2).bind fun x63 =>
    (F.law12_MatchMild_l2 x1_ x63 (true, 0)).bind fun (p89 : Bool) =>
    if p89 then
      (lapp q46.1 [x63]).bind fun x228 =>
      some (.inl (x228, (IntKind.wrap .i64 (q46.2 + 1))))
    else
      some (.inl (q46.1, (IntKind.wrap .i64 (q46.2 + 1))))
  else
    some (.inr q46.1)
def law12_MatchMild_l1 (x0_ : (List match_Match)) (x1_ : (List match_Match)) (q46 : ((List match_Match) × Int)) : Option (List match_Match) := iter (law12_MatchMild_s1 x0_ x1_) q46
def law12_MatchMild (x0_ : (List match_Match)) (x1_ : (List match_Match)) : Option Bool :=
  (F.law12_head).bind fun x2 =>
  if (!x2) then
    some false
  else
    (F.law12_Good x0_ 30).bind fun x14 =>
    (if (!x14) then some true else ((F.law12_Good x1_ 30).bind fun x16 => some (!x16))).bind fun r18 =>
    if r18 then
      some true
    else
      (F.law12_MatchMild_l1 x0_ x1_ (([] : (List match_Match)), 0)).bind fun (p52 : (List match_Match)) =>
      (F.match_Mild x0_ x1_).bind fun x243 =>
      (F.law12_Same x243 p52).bind fun x245 =>
      some x245

def slices_Concat_match_Match_match_Match (x0_ : List (List match_Match)) : Option (List match_Match) := lcat x0_
def match_Or_1 (x0_ : match_Match) : Option (match_Match × Bool) :=
  some (x0_, true)
def match_few (x0_ : (List match_Match)) : Option ((List match_Match) × Int) :=
  if (decide ((x0_.length : Int) > 400)) then
    some ([], 23)
  else
    some (x0_, 0)
def match_Or (x0_ : (List match_Match)) (x1_ : (List match_Match)) : Option ((List match_Match) × Int) :=
  (F.slices_Concat_match_Match_match_Match [x0_, x1_]).bind fun x2 =>
  (F.match_keep x2 (fun z0 => F.match_Or_1 z0)).bind fun x4 =>
  (F.match_few x4).bind fun x6 =>
  some (x6.1, x6.2)
def law12_both (x0_ : (List match_Span)) (x1_ : (List match_Span)) : Option (List match_Span) :=
  (lapp [] x0_).bind fun x2 =>
  (lapp x2 x1_).bind fun x4 =>
  some x4
def law12_and_s2 (x1_ : (List match_Match)) (x23 : match_Match) (q44 : ((List match_Match) × Int)) : Option (((List match_Match) × Int) ⊕ (List match_Match)) :=
  if (decide (q44.2 < (x1_.length : Int))) then
    (lidx x1_ q44.2).bind fun x61 =>
    (F.law12_both x23.In x61.In).bind fun x81 =>
    (F.law12_both x23.Out x61.Out).bind fun x83 =>
    (lapp q44.1 [(F.match_Match.mk x81 x83)]).bind fun x85 =>
    some (.inl (x85, (IntKind.wrap .i64 (q44.2 + 1))))
  else
    some (.inr q44.1)
def law12_and_l2 (x1_ : (List match_Match)) (x23 : match_Match) (q44 : ((List match_Match) × Int)) : Option (List match_Match) := iter (law12_and_s2 x1_ x23) q44
def law12_and_s1 (x0_ : (List match_Match)) (x1_ : (List match_Match)) (q6 : ((List match_Match) × Int)) : Option (((List match_Match) × Int) ⊕ (List match_Match)) :=
  if (decide (q6.2 < (x0_.length : Int))) then
    (lidx x0_ q6.2).bind fun x23 =>
    (F.law12_and_l2 x1_ x23 (q6.1, 0)).bind fun (p50 : (List match_Match)) =>
    some (.inl (p50, (IntKind.wrap .i64 (q6.2 + 1))))
  else
    some (.inr q6.1)
def law12_and_l1 (x0_ : (List match_Match)) (x1_ : (List match_Match)) (q6 : ((List match_Match) × Int)) : Option (List match_Match) := iter (law12_and_s1 x0_ x1_) q6
def law12_and (x0_ : (List match_Match)) (x1_ : (List match_Match)) : Option ((List match_Match) × Bool) :=
  (F.law12_and_l1 x0_ x1_ (([] : (List match_Match)), 0)).bind fun (p12 : (List match_Match)) =>
  some (p12, (decide ((IntKind.wrap .i64 ((x0_.length : Int) * (x1_.length : Int))) ≤ 400)))
def law12_not_s2 (x23 : match_Match) (q47 : ((List match_Match) × Int)) : Option (((List match_Match) × Int) ⊕ (List match_Match)) :=
  if (decide (q47.2 < (x23.In.length : Int))) then
    (lidx x23.In q47.2).bind fun x66 =>
    (lapp q47.1 [(F.match_Match.mk [] [x66])]).bind fun x78 =>
    some (.inl (x78, (IntKind.wrap .i64 (q47.2 + 1))))
  else
    some (.inr q47.1)
def law12_not_l2 (x23 : match_Match) (q47 : ((List match_Match) × Int)) : Option (List match_Match) := iter (law12_not_s2 x23) q47
def law12_not_s3 (x23 : match_Match) (q98 : ((List match_Match) × Int)) : Option (((List match_Match) × Int) ⊕ (List match_Match)) :=
  if (decide (q98.2 < (x23.Out.length : Int))) then
    (lidx x23.Out q98.2).bind fun x116 =>
    (lapp q98.1 [(F.match_Match.mk [x116] [])]).bind fun x128 =>
    some (.inl (x128, (IntKind.wrap .i64 (q98.2 + 1))))
  else
    some (.inr q98.1)
def law12_not_l3 (x23 : match_Match) (q98 : ((List match_Match) × Int)) : Option (List match_Match) := iter (law12_not_s3 x23) q98
def law12_not_s1 (x0_ : (List match_Match)) (q6 : ((List match_Match) × Int)) : Option (((List match_Match) × Int) ⊕ ((List match_Match) ⊕ ((List match_Match) × Bool))) :=
  if (decide (q6.2 < (x0_.length : Int))) then
    (lidx x0_ q6.2).bind fun x23 =>
    (F.law12_not_l2 x23 (([] : (List match_Match)), 0)).bind fun (p53 : (List match_Match)) =>
    (F.law12_not_l3 x23 (p53, 0)).bind fun (p104 : (List match_Match)) =>
    (F.law12_and q6.1 p104).bind fun x147 =>
    if (!x147.2) then
      some (.inr (.inr (([], false))))
    else
      some (.inl (x147.1, (IntKind.wrap .i64 (q6.2 + 1))))
  else
    some (.inr (.inl q6.1))
def law12_not_l1 (x0_ : (List match_Match)) (q6 : ((List match_Match) × Int)) : Option ((List match_Match) ⊕ ((List match_Match) × Bool)) := iter (law12_not_s1 x0_) q6
def law12_not (x0_ : (List match_Match)) : Option ((List match_Match) × Bool) :=
  (F.law12_not_l1 x0_ (([(F.match_Match.mk [] [])] : (List match_Match)), 0)).bind fun a18 => match a18 with
    | .inl p12 =>
      some (p12, true)
    | .inr (p17) =>
      some p17
def law12_MatchJoins_1_s1 (x0_ : (List match_Match)) (q3 : Int) : Option (Int ⊕ (Unit ⊕ Bool)) :=
  if (decide (q3 < (x0_.length : Int))) then
    (lidx x0_ q3).bind fun x16 =>
    if ((x16.Out.length : Int) == 0) then
      some (.inr (.inr (true)))
    else
      some (.inl (IntKind.wrap .i64 (q3 + 1)))
  else
    some (.inr (.inl ()))
def law12_MatchJoins_1_l1 (x0_ : (List match_Match)) (q3 : Int) : Option (Unit ⊕ Bool) := iter (law12_MatchJoins_1_s1 x0_) q3
def law12_MatchJoins_1 (x0_ : (List match_Match)) : Option Bool :=
  (F.law12_MatchJoins_1_l1 x0_ 0).bind fun a11 => match a11 with
    | .inl p7 =>
      some false
    | .inr (p10) =>
      some p10
def law12_MatchJoins (x0_ : (List match_Match)) (x1_ : (List match_Match)) : Option Bool :=
  (F.law12_head).bind fun x2 =>
  if (!x2) then
    some false
  else
    (F.law12_Good x0_ 25).bind fun x14 =>
    (if (!x14) then some true else ((F.law12_Good x1_ 25).bind fun x16 => some (!x16))).bind fun r18 =>
    if r18 then
      some true
    else
      (F.match_Or x0_ x1_).bind fun x42 =>
      (F.match_And x0_ x1_).bind fun x56 =>
      (F.match_Not x0_).bind fun x70 =>
      (F.law12_and x0_ x1_).bind fun x84 =>
      (F.law12_not x0_).bind fun x98 =>
      (F.match_Holds x0_).bind fun x113 =>
      (F.law12_MatchJoins_1 x0_).bind fun x115 =>
      (some ((x113 != x115) || (x42.2 != 0))).bind fun r117 =>
      (if r117 then some true else ((lapp [] x0_).bind fun x119 => (lapp x119 x1_).bind fun x121 => (F.law12_Same x42.1 x121).bind fun x123 => some (!x123))).bind fun r125 =>
      (if r125 then some true else ((F.match_Holds x42.1).bind fun x127 => (F.law12_MatchJoins_1 x0_).bind fun x129 => (if x129 then some true else ((F.law12_MatchJoins_1 x1_).bind fun x131 => some x131)).bind fun r133 => some (x127 != r133))).bind fun r135 =>
      if r135 then
        some false
      else
        (if x84.2 then ((if (x56.2 != 0) then some true else ((F.law12_Same x56.1 x84.1).bind fun x203 => some (!x203))).bind fun r205 => (if r205 then some true else ((F.match_Holds x56.1).bind fun x207 => (F.law12_MatchJoins_1 x0_).bind fun x209 => (if x209 then ((F.law12_MatchJoins_1 x1_).bind fun x211 => some x211) else some false).bind fun r213 => some (x207 != r213))).bind fun r215 => some r215) else some false).bind fun r217 =>
        (if r217 then some true else ((if (!x84.2) then ((some ((x56.2 != 23) || ((x56.1.length : Int) != 0))).bind fun r219 => some r219) else some false).bind fun r221 => some r221)).bind fun r223 =>
        if r223 then
          some false
        else
          (some (x98.2 && (x70.2 == 0))).bind fun r272 =>
          (if r272 then ((F.law12_Same x70.1 x98.1).bind fun x274 => some x274) else some false).bind fun r276 =>
          (if r276 then ((F.match_Holds x70.1).bind fun x278 => (F.law12_MatchJoins_1 x0_).bind fun x280 => some (x278 == (!x280))) else some false).bind fun r282 =>
          (if r282 then some true else ((some ((!x98.2) && (x70.2 == 23))).bind fun r284 => (some (r284 && ((x70.1.length : Int) == 0))).bind fun r286 => some r286)).bind fun r288 =>
          some r288
def law12_MatchLimits_1_s1 (x0_ : Int) (q6 : ((List match_Span) × Int)) : Option (((List match_Span) × Int) ⊕ (List match_Span)) :=
  if (decide (q6.2 < x0_)) then
    (lapp q6.1 [(F.match_Span.mk q6.2 q6.2 0 0)]).bind fun x23 =>
    some (.inl (x23, (IntKind.wrap .i64 (q6.2 + 1))))
  else
    some (.inr q6.1)
def law12_MatchLimits_1_l1 (x0_ : Int) (q6 : ((List match_Span) × Int)) : Option (List match_Span) := iter (law12_MatchLimits_1_s1 x0_) q6
def law12_MatchLimits_1 (x0_ : Int) : Option (List match_Match) :=
  (F.law12_MatchLimits_1_l1 x0_ (([] : (List match_Span)), 0)).bind fun (p12 : (List match_Span)) =>
  (F.match_Of p12).bind fun x35 =>
  some x35
def law12_MatchLimits (x0_ : Int) (x1_ : Int) : Option Bool :=
  (F.law12_head).bind fun x2 =>
  if (!x2) then
    some false
  else
    (F.law12_MatchLimits_1 (band .i64 x0_ 511)).bind fun x17 =>
    (F.law12_MatchLimits_1 (band .i64 x1_ 31)).bind fun x19 =>
    (F.match_Or x17 x19).bind fun x21 =>
    (F.law12_MatchLimits_1 (band .i64 x0_ 511)).bind fun x49 =>
    (F.law12_MatchLimits_1 (band .i64 x1_ 31)).bind fun x51 =>
    (F.match_And x49 x51).bind fun x53 =>
    (lmake (F.match_Span.mk 0 0 0 0) (band .i64 x0_ 511)).bind fun x81 =>
    (lmake (F.match_Span.mk 0 0 0 0) (band .i64 x1_ 31)).bind fun x83 =>
    (F.match_Not [(F.match_Match.mk x81 []), (F.match_Match.mk x83 [])]).bind fun x85 =>
    (if ((x21.2 == 0) != (decide ((IntKind.wrap .i64 ((band .i64 x0_ 511) + (band .i64 x1_ 31))) ≤ 400))) then some true else ((some ((x21.2 == 0) && ((x21.1.length : Int) != (IntKind.wrap .i64 ((band .i64 x0_ 511) + (band .i64 x1_ 31)))))).bind fun r106 => some r106)).bind fun r108 =>
    (if r108 then some true else ((some ((x21.2 != 0) && (x21.2 != 23))).bind fun r110 => some r110)).bind fun r112 =>
    if r112 then
      some false
    else
      (if ((x53.2 == 0) != (decide ((IntKind.wrap .i64 ((band .i64 x0_ 511) * (band .i64 x1_ 31))) ≤ 400))) then some true else ((some ((x53.2 == 0) && ((x53.1.length : Int) != (IntKind.wrap .i64 ((band .i64 x0_ 511) * (band .i64 x1_ 31)))))).bind fun r126 => some r126)).bind fun r128 =>
      (if r128 then some true else ((some ((x53.2 != 0) && (x53.2 != 23))).bind fun r130 => some r130)).bind fun r132 =>
      if r132 then
        some false
      else
        (some ((decide ((band .i64 x0_ 511) ≤ 400)) && (decide ((IntKind.wrap .i64 ((band .i64 x0_ 511) * (band .i64 x1_ 31))) ≤ 400)))).bind fun r146 =>
        (if ((x85.2 == 0) == r146) then ((some ((x85.2 != 0) && (x85.2 == 23))).bind fun r148 => (if r148 then some true else ((some ((x85.2 == 0) && ((x85.1.length : Int) == (IntKind.wrap .i64 ((band .i64 x0_ 511) * (band .i64 x1_ 31)))))).bind fun r150 => some r150)).bind fun r152 => some r152) else some false).bind fun r154 =>
        some r154
end
end Go.Proofs.Ytihbdelgoapeoaa.F
