/- The program, pure. Printed. -/
import Derived.Test.YtihbdelgoapeoaaF0
namespace Go.Proofs.Ytihbdelgoapeoaa.F
open Go
set_option linter.unusedVariables false
structure match_Span where
  From : Int
  To : Int
  Part : Int
  Weight : Int
  deriving DecidableEq
structure match_Match where
  In : (List match_Span)
  Out : (List match_Span)
  deriving DecidableEq
structure match_Text where
  From : Int
  To : Int
  Sentences : (List Int)
  Paragraphs : (List Int)
  deriving DecidableEq
noncomputable section
def match_Of_s1 (x0_ : (List match_Span)) (q4 : ((List match_Match) × Int)) : Option (((List match_Match) × Int) ⊕ (List match_Match)) :=
  if (decide (q4.2 < (x0_.length : Int))) then
    (lidx x0_ q4.2).bind fun x21 =>
    (lapp q4.1 [(F.match_Match.mk [x21] [])]).bind fun x33 =>
    some (.inl (x33, (IntKind.wrap .i64 (q4.2 + 1))))
  else
    some (.inr q4.1)
def match_Of_l1 (x0_ : (List match_Span)) (q4 : ((List match_Match) × Int)) : Option (List match_Match) := iter (match_Of_s1 x0_) q4
def match_Of (x0_ : (List match_Span)) : Option (List match_Match) :=
  (F.match_Of_l1 x0_ ([], 0)).bind fun (p10 : (List match_Match)) =>
  some p10

def slices_Concat_match_Span_match_Span (x0_ : List (List match_Span)) : Option (List match_Span) := lcat x0_
def match_join (x0_ : match_Match) (x1_ : match_Match) : Option match_Match :=
  (F.slices_Concat_match_Span_match_Span [x0_.In, x1_.In]).bind fun x22 =>
  (F.slices_Concat_match_Span_match_Span [x0_.Out, x1_.Out]).bind fun x24 =>
  some (F.match_Match.mk x22 x24)
def match_And_s2 (x1_ : (List match_Match)) (x33 : match_Match) (q54 : ((List match_Match) × Int)) : Option (((List match_Match) × Int) ⊕ (List match_Match)) :=
  if (decide (q54.2 < (x1_.length : Int))) then
    (lidx x1_ q54.2).bind fun x71 =>
    (F.match_join x33 x71).bind fun x91 =>
    (lapp q54.1 [x91]).bind fun x93 =>
    some (.inl (x93, (IntKind.wrap .i64 (q54.2 + 1))))
  else
    some (.inr q54.1)
def match_And_l2 (x1_ : (List match_Match)) (x33 : match_Match) (q54 : ((List match_Match) × Int)) : Option (List match_Match) := iter (match_And_s2 x1_ x33) q54
def match_And_s1 (x0_ : (List match_Match)) (x1_ : (List match_Match)) (q16 : ((List match_Match) × Int)) : Option (((List match_Match) × Int) ⊕ (List match_Match)) :=
  if (decide (q16.2 < (x0_.length : Int))) then
    (lidx x0_ q16.2).bind fun x33 =>
    (F.match_And_l2 x1_ x33 (q16.1, 0)).bind fun (p60 : (List match_Match)) =>
    some (.inl (p60, (IntKind.wrap .i64 (q16.2 + 1))))
  else
    some (.inr q16.1)
def match_And_l1 (x0_ : (List match_Match)) (x1_ : (List match_Match)) (q16 : ((List match_Match) × Int)) : Option (List match_Match) := iter (match_And_s1 x0_ x1_) q16
def match_And (x0_ : (List match_Match)) (x1_ : (List match_Match)) : Option ((List match_Match) × Int) :=
  (if (decide ((x0_.length : Int) > 0)) then ((nz (x0_.length : Int)).bind fun x2 => some (decide ((x1_.length : Int) > (IntKind.wrap .i64 (Int.tdiv 400 (x0_.length : Int)))))) else some false).bind fun r4 =>
  if r4 then
    some ([], 23)
  else
    (F.match_And_l1 x0_ x1_ ([], 0)).bind fun (p22 : (List match_Match)) =>
    some (p22, 0)
def match_Not_s2 (x23 : match_Match) (q45 : ((List match_Match) × Int)) : Option (((List match_Match) × Int) ⊕ (List match_Match)) :=
  if (decide (q45.2 < (x23.In.length : Int))) then
    (lidx x23.In q45.2).bind fun x64 =>
    (lapp q45.1 [(F.match_Match.mk [] [x64])]).bind fun x76 =>
    some (.inl (x76, (IntKind.wrap .i64 (q45.2 + 1))))
  else
    some (.inr q45.1)
def match_Not_l2 (x23 : match_Match) (q45 : ((List match_Match) × Int)) : Option (List match_Match) := iter (match_Not_s2 x23) q45
def match_Not_s3 (x23 : match_Match) (q96 : ((List match_Match) × Int)) : Option (((List match_Match) × Int) ⊕ (List match_Match)) :=
  if (decide (q96.2 < (x23.Out.length : Int))) then
    (lidx x23.Out q96.2).bind fun x114 =>
    (lapp q96.1 [(F.match_Match.mk [x114] [])]).bind fun x126 =>
    some (.inl (x126, (IntKind.wrap .i64 (q96.2 + 1))))
  else
    some (.inr q96.1)
def match_Not_l3 (x23 : match_Match) (q96 : ((List match_Match) × Int)) : Option (List match_Match) := iter (match_Not_s3 x23) q96
def match_Not_s1 (x0_ : (List match_Match)) (q6 : ((List match_Match) × Int)) : Option (((List match_Match) × Int) ⊕ ((List match_Match) ⊕ ((List match_Match) × Int))) :=
  if (decide (q6.2 < (x0_.length : Int))) then
    (lidx x0_ q6.2).bind fun x23 =>
    (F.match_Not_l2 x23 ([], 0)).bind fun (p51 : (List match_Match)) =>
    (F.match_Not_l3 x23 (p51, 0)).bind fun (p102 : (List match_Match)) =>
    (F.match_And q6.1 p102).bind fun x146 =>
    if (x146.2 != 0) then
      some (.inr (.inr (([], x146.2))))
    else
      some (.inl (x146.1, (IntKind.wrap .i64 (q6.2 + 1))))
  else
    some (.inr (.inl q6.1))
def match_Not_l1 (x0_ : (List match_Match)) (q6 : ((List match_Match) × Int)) : Option ((List match_Match) ⊕ ((List match_Match) × Int)) := iter (match_Not_s1 x0_) q6
def match_Not (x0_ : (List match_Match)) : Option ((List match_Match) × Int) :=
  (F.match_Not_l1 x0_ (([(F.match_Match.mk [] [])] : (List match_Match)), 0)).bind fun a18 => match a18 with
    | .inl p12 =>
      some (p12, 0)
    | .inr (p17) =>
      some p17
def slices_IndexFunc_match_Match_match_Match_s1 (x0_ : (List match_Match)) (x1_ : (match_Match → Option Bool)) (q9 : Int) : Option (Int ⊕ (Unit ⊕ Int)) :=
  if (decide (q9 < (x0_.length : Int))) then
    (lidx x0_ q9).bind fun x23 =>
    (x1_ x23).bind fun x29 =>
    if x29 then
      some (.inr (.inr (q9)))
    else
      some (.inl (IntKind.wrap .i64 (q9 + 1)))
  else
    some (.inr (.inl ()))
def slices_IndexFunc_match_Match_match_Match_l1 (x0_ : (List match_Match)) (x1_ : (match_Match → Option Bool)) (q9 : Int) : Option (Unit ⊕ Int) := iter (slices_IndexFunc_match_Match_match_Match_s1 x0_ x1_) q9
def slices_IndexFunc_match_Match_match_Match (x0_ : (List match_Match)) (x1_ : (match_Match → Option Bool)) : Option Int :=
  (F.slices_IndexFunc_match_Match_match_Match_l1 x0_ x1_ 0).bind fun a17 => match a17 with
    | .inl p13 =>
      some (-1)
    | .inr (p16) =>
      some p16
def slices_ContainsFunc_match_Match_match_Match (x0_ : (List match_Match)) (x1_ : (match_Match → Option Bool)) : Option Bool :=
  (F.slices_IndexFunc_match_Match_match_Match x0_ x1_).bind fun x8 =>
  some (decide (x8 ≥ 0))
def match_Holds_1 (x0_ : match_Match) : Option Bool :=
  some ((x0_.Out.length : Int) == 0)
def match_Holds (x0_ : (List match_Match)) : Option Bool :=
  (F.slices_ContainsFunc_match_Match_match_Match x0_ (fun z0 => F.match_Holds_1 z0)).bind fun x2 =>
  some x2
def law12_head  : Option Bool :=
  (F.match_Of [(F.match_Span.mk 1 1 0 0), (F.match_Span.mk 2 3 0 0)]).bind fun x2 =>
  (F.match_Not x2).bind fun x14 =>
  (some ((x14.2 == 0) && ((x14.1.length : Int) == 1))).bind fun r28 =>
  (if r28 then ((lidx x14.1 0).bind fun x30 => some ((x30.In.length : Int) == 0)) else some false).bind fun r36 =>
  (if r36 then ((lidx x14.1 0).bind fun x38 => some ((x38.Out.length : Int) == 2)) else some false).bind fun r44 =>
  (if r44 then ((lidx x14.1 0).bind fun x46 => (lidx x46.Out 1).bind fun x52 => some (x52.To == 3)) else some false).bind fun r54 =>
  (if r54 then ((F.match_Holds x14.1).bind fun x56 => some (!x56)) else some false).bind fun r58 =>
  (if r58 then ((F.match_Holds x2).bind fun x60 => some x60) else some false).bind fun r62 =>
  some r62
def law12_Good_s2 (x48 : (List match_Span)) (q65 : Int) : Option (Int ⊕ (Unit ⊕ Bool)) :=
  if (decide (q65 < (x48.length : Int))) then
    (lidx x48 q65).bind fun x80 =>
    (some ((decide (x80.From < 0)) || (decide (x80.To < x80.From)))).bind fun r92 =>
    (some (r92 || (decide (x80.To > 1000)))).bind fun r94 =>
    if r94 then
      some (.inr (.inr (false)))
    else
      some (.inl (IntKind.wrap .i64 (q65 + 1)))
  else
    some (.inr (.inl ()))
def law12_Good_l2 (x48 : (List match_Span)) (q65 : Int) : Option (Unit ⊕ Bool) := iter (law12_Good_s2 x48) q65
def law12_Good_s1 (x0_ : (List match_Match)) (q3 : Int) : Option (Int ⊕ (Unit ⊕ Bool)) :=
  if (decide (q3 < (x0_.length : Int))) then
    (lidx x0_ q3).bind fun x16 =>
    (some ((decide ((x16.In.length : Int) > 5)) || (decide ((x16.Out.length : Int) > 5)))).bind fun r36 =>
    if r36 then
      some (.inr (.inr (false)))
    else
      (lapp [] x16.In).bind fun x46 =>
      (lapp x46 x16.Out).bind fun x48 =>
      (F.law12_Good_l2 x48 0).bind fun a73 => match a73 with
        | .inl p69 =>
          some (.inl (IntKind.wrap .i64 (q3 + 1)))
        | .inr (p72) =>
          some (.inr (.inr (p72)))
  else
    some (.inr (.inl ()))
def law12_Good_l1 (x0_ : (List match_Match)) (q3 : Int) : Option (Unit ⊕ Bool) := iter (law12_Good_s1 x0_) q3
def law12_Good (x0_ : (List match_Match)) (x1_ : Int) : Option Bool :=
  (F.law12_Good_l1 x0_ 0).bind fun a11 => match a11 with
    | .inl p7 =>
      some (decide ((x0_.length : Int) ≤ x1_))
    | .inr (p10) =>
      some p10
def match_Mild_1_1_1 (x0_ : match_Span) (c0_ : match_Span) : Option Bool :=
  (some ((decide (x0_.From ≤ c0_.From)) && (decide (c0_.To ≤ x0_.To)))).bind fun r6 =>
  some r6
def slices_IndexFunc_match_Span_match_Span_s1 (x0_ : (List match_Span)) (x1_ : (match_Span → Option Bool)) (q9 : Int) : Option (Int ⊕ (Unit ⊕ Int)) :=
  if (decide (q9 < (x0_.length : Int))) then
    (lidx x0_ q9).bind fun x23 =>
    (x1_ x23).bind fun x25 =>
    if x25 then
      some (.inr (.inr (q9)))
    else
      some (.inl (IntKind.wrap .i64 (q9 + 1)))
  else
    some (.inr (.inl ()))
def slices_IndexFunc_match_Span_match_Span_l1 (x0_ : (List match_Span)) (x1_ : (match_Span → Option Bool)) (q9 : Int) : Option (Unit ⊕ Int) := iter (slices_IndexFunc_match_Span_match_Span_s1 x0_ x1_) q9
def slices_IndexFunc_match_Span_match_Span (x0_ : (List match_Span)) (x1_ : (match_Span → Option Bool)) : Option Int :=
  (F.slices_IndexFunc_match_Span_match_Span_l1 x0_ x1_ 0).bind fun a17 => match a17 with
    | .inl p13 =>
      some (-1)
    | .inr (p16) =>
      some p16
def slices_ContainsFunc_match_Span_match_Span (x0_ : (List match_Span)) (x1_ : (match_Span → Option Bool)) : Option Bool :=
  (F.slices_IndexFunc_match_Span_match_Span x0_ x1_).bind fun x8 =>
  some (decide (x8 ≥ 0))
def match_Mild_1_1 (x0_ : match_Match) (c0_ : match_Span) : Option Bool :=
  (F.slices_ContainsFunc_match_Span_match_Span x0_.In (fun z0 => F.match_Mild_1_1_1 z0 c0_)).bind fun x10 =>
  some x10
def match_Mild_1 (x0_ : match_Span) (c0_ : (List match_Match)) : Option Bool :=
  (F.slices_ContainsFunc_match_Match_match_Match c0_ (fun z0 => F.match_Mild_1_1 z0 x0_)).bind fun x6 =>
  some x6
def match_Mild_2 (x0_ : match_Match) (c0_ : (match_Span → Option Bool)) : Option (match_Match × Bool) :=
  (F.slices_ContainsFunc_match_Span_match_Span x0_.In c0_).bind fun x20 =>
  some (x0_, (!x20))
def slices_Clone_match_Span_match_Span (x0_ : (List match_Span)) : Option (List match_Span) := lapp [] x0_
def match_keep_s1 (x0_ : (List match_Match)) (x1_ : (match_Match → Option (match_Match × Bool))) (q10 : ((List match_Match) × Int)) : Option (((List match_Match) × Int) ⊕ (List match_Match)) :=
  if (decide (q10.2 < (x0_.length : Int))) then
    (lidx x0_ q10.2).bind fun x27 =>
    (x1_ x27).bind fun x47 =>
    if x47.2 then
      (F.slices_Clone_match_Span_match_Span x47.1.In).bind fun x74 =>
      (F.slices_Clone_match_Span_match_Span x47.1.Out).bind fun x76 =>
      (lapp q10.1 [(F.match_Match.mk x74 x76)]).bind fun x78 =>
      some (.inl (x78, (IntKind.wrap .i64 (q10.2 + 1))))
    else
      some (.inl (q10.1, (IntKind.wrap .i64 (q10.2 + 1))))
  else
    some (.inr q10.1)
def match_keep_l1 (x0_ : (List match_Match)) (x1_ : (match_Match → Option (match_Match × Bool))) (q10 : ((List match_Match) × Int)) : Option (List match_Match) := iter (match_keep_s1 x0_ x1_) q10
def match_keep (x0_ : (List match_Match)) (x1_ : (match_Match → Option (match_Match × Bool))) : Option (List match_Match) :=
  (F.match_keep_l1 x0_ x1_ ([], 0)).bind fun (p16 : (List match_Match)) =>
  some p16
def match_Mild (x0_ : (List match_Match)) (x1_ : (List match_Match)) : Option (List match_Match) :=
  (F.match_keep x0_ (fun z0 => F.match_Mild_2 z0 (fun z0 => F.match_Mild_1 z0 x1_))).bind fun x14 =>
  some x14
def law12_spans_s1 (x0_ : (List match_Span)) (x1_ : (List match_Span)) (q6 : Int) : Option (Int ⊕ (Unit ⊕ Bool)) :=
  if (decide (q6 < (x0_.length : Int))) then
    (lidx x0_ q6).bind fun x20 =>
    (lidx x1_ q6).bind fun x22 =>
    if (!decide (x20 = x22)) then
      some (.inr (.inr (false)))
    else
      some (.inl (IntKind.wrap .i64 (q6 + 1)))
  else
    some (.inr (.inl ()))
def law12_spans_l1 (x0_ : (List match_Span)) (x1_ : (List match_Span)) (q6 : Int) : Option (Unit ⊕ Bool) := iter (law12_spans_s1 x0_ x1_) q6
def law12_spans (x0_ : (List match_Span)) (x1_ : (List match_Span)) : Option Bool :=
  if ((x0_.length : Int) != (x1_.length : Int)) then
    some false
  else
    (F.law12_spans_l1 x0_ x1_ 0).bind fun a14 => match a14 with
      | .inl p10 =>
        some true
      | .inr (p13) =>
        some p13
def law12_Same_s1 (x0_ : (List match_Match)) (x1_ : (List match_Match)) (q6 : Int) : Option (Int ⊕ (Unit ⊕ Bool)) :=
  if (decide (q6 < (x0_.length : Int))) then
    (lidx x0_ q6).bind fun x20 =>
    (lidx x1_ q6).bind fun x26 =>
    (F.law12_spans x20.In x26.In).bind fun x32 =>
    (if (!x32) then some true else ((lidx x0_ q6).bind fun x34 => (lidx x1_ q6).bind fun x40 => (F.law12_spans x34.Out x40.Out).bind fun x46 => some (!x46))).bind fun r48 =>
    if r48 then
      some (.inr (.inr (false)))
    else
      some (.inl (IntKind.wrap .i64 (q6 + 1)))
  else
    some (.inr (.inl ()))
def law12_Same_l1 (x0_ : (List match_Match)) (x1_ : (List match_Match)) (q6 : Int) : Option (Unit ⊕ Bool) := iter (law12_Same_s1 x0_ x1_) q6
def law12_Same (x0_ : (List match_Match)) (x1_ : (List match_Match)) : Option Bool :=
  if ((x0_.length : Int) != (x1_.length : Int)) then
    some false
  else
    (F.law12_Same_l1 x0_ x1_ 0).bind fun a14 => match a14 with
      | .inl p10 =>
        some true
      | .inr (p13) =>
        some p13
def law12_MatchMild_s4 (x99 : match_Span) (x127 : match_Match) (q148 : (Bool × Int)) : Option ((Bool × Int) ⊕ Bool) :=
  if (decide (q148.2 < (x127.In.length : Int))) then
    (lidx x127.In q148.2).bind fun x164 =>
    (if q148.1 then ((some ((decide (x99.From < x164.From)) || (decide (x99.To > x164.To)))).bind fun r176 => some r176) else some false).bind fun r178 =>
    some (.inl (r178, (IntKind.wrap .i64 (q148.2 + 1))))
  else
    some (.inr q148.1)
def law12_MatchMild_l4 (x99 : match_Span) (x127 : match_Match) (q148 : (Bool × Int)) : Option Bool := iter (law12_MatchMild_s4 x99 x127) q148
def law12_MatchMild_s3 (x1_ : (List match_Match)) (x99 : match_Span) (q112 : (Bool × Int)) : Option ((Bool × Int) ⊕ Bool) :=
  if (decide (q112.2 < (x1_.length : Int))) then
    (lidx x1_ q112.2).bind fun x127 =>
    (F.law12_MatchMild_l4 x99 x127 (q112.1, 0)).bind fun (p152 : Bool) =>
    some (.inl (p152, (IntKind.wrap .i64 (q112.2 + 1))))
  else
    some (.inr q112.1)
def law12_MatchMild_l3 (x1_ : (List match_Match)) (x99 : match_Span) (q112 : (Bool × Int)) : Option Bool := iter (law12_MatchMild_s3 x1_ x99) q112
def law12_MatchMild_s2 (x1_ : (List match_Match)) (x63 : match_Match) (q85 : (Bool × Int)) : Option ((Bool × Int) ⊕ Bool) :=
  if (decide (q85.2 < (x63.In.length : Int))) then
    (lidx x63.In q85.2).bind fun x99 =>
    (F.law12_MatchMild_l3 x1_ x99 (q85.1, 0)).bind fun (p116 : Bool) =>
    some (.inl (p116, (IntKind.wrap .i64 (q85.2 + 1))))
  else
    some (.inr q85.1)
def law12_MatchMild_l2 (x1_ : (List match_Match)) (x63 : match_Match) (q85 : (Bool × Int)) : Option Bool := iter (law12_MatchMild_s2 x1_ x63) q85
def law12_MatchMild_s1 (x0_ : (List match_Match)) (x1_ : (List match_Match)) (q46 : ((List match_Match) × Int)) : Option (((List match_Match) × Int) ⊕ (List match_Match)) :=
  if (decide (q46.2 < (x0_.length : Int))) then
    (lidx x0_ q46.2).bind fun x63 =>
    (F.law12_MatchMild_l2 x1_ x63 (true, 0)).bind fun (p89 : Bool) =>
    if p89 then
      (lapp q46.1 [x63]).bind fun x228 =>
      some (.inl (x228, (IntKind.wrap .i64 (q46.2 + 1))))
    else
      some (.inl (q46.1, (IntKind.wrap .i64 (q46.2 + 1))))
  else
    some (.inr q46.1)
def law12_MatchMild_l1 (x0_ : (List match_Match)) (x1_ : (List match_Match)) (q46 : ((List match_Match) × Int)) : Option (List match_Match) := iter (law12_MatchMild_s1 x0_ x1_) q46
def law12_MatchMild (x0_ : (List match_Match)) (x1_ : (List match_Match)) : Option Bool :=
  (F.law12_head).bind fun x2 =>
  if (!x2) then
    some false
  else
    (F.law12_Good x0_ 30).bind fun x14 =>
    (if (!x14) then some true else ((F.law12_Good x1_ 30).bind fun x16 => some (!x16))).bind fun r18 =>
    if r18 then
      some true
    else
      (F.law12_MatchMild_l1 x0_ x1_ (([] : (List match_Match)), 0)).bind fun (p52 : (List match_Match)) =>
      (F.match_Mild x0_ x1_).bind fun x243 =>
      (F.law12_Same x243 p52).bind fun x245 =>
      some x245

def slices_Concat_match_Match_match_Match (x0_ : List (List match_Match)) : Option (List match_Match) := lcat x0_
def match_Or_1 (x0_ : match_Match) : Option (match_Match × Bool) :=
  some (x0_, true)
def match_few (x0_ : (List match_Match)) : Option ((List match_Match) × Int) :=
  if (decide ((x0_.length : Int) > 400)) then
    some ([], 23)
  else
    some (x0_, 0)
def match_Or (x0_ : (List match_Match)) (x1_ : (List match_Match)) : Option ((List match_Match) × Int) :=
  (F.slices_Concat_match_Match_match_Match [x0_, x1_]).bind fun x2 =>
  (F.match_keep x2 (fun z0 => F.match_Or_1 z0)).bind fun x4 =>
  (F.match_few x4).bind fun x6 =>
  some (x6.1, x6.2)
def law12_both (x0_ : (List match_Span)) (x1_ : (List match_Span)) : Option (List match_Span) :=
  (lapp [] x0_).bind fun x2 =>
  (lapp x2 x1_).bind fun x4 =>
  some x4
def law12_and_s2 (x1_ : (List match_Match)) (x23 : match_Match) (q44 : ((List match_Match) × Int)) : Option (((List match_Match) × Int) ⊕ (List match_Match)) :=
  if (decide (q44.2 < (x1_.length : Int))) then
    (lidx x1_ q44.2).bind fun x61 =>
    (F.law12_both x23.In x61.In).bind fun x81 =>
    (F.law12_both x23.Out x61.Out).bind fun x83 =>
    (lapp q44.1 [(F.match_Match.mk x81 x83)]).bind fun x85 =>
    some (.inl (x85, (IntKind.wrap .i64 (q44.2 + 1))))
  else
    some (.inr q44.1)
def law12_and_l2 (x1_ : (List match_Match)) (x23 : match_Match) (q44 : ((List match_Match) × Int)) : Option (List match_Match) := iter (law12_and_s2 x1_ x23) q44
def law12_and_s1 (x0_ : (List match_Match)) (x1_ : (List match_Match)) (q6 : ((List match_Match) × Int)) : Option (((List match_Match) × Int) ⊕ (List match_Match)) :=
  if (decide (q6.2 < (x0_.length : Int))) then
    (lidx x0_ q6.2).bind fun x23 =>
    (F.law12_and_l2 x1_ x23 (q6.1, 0)).bind fun (p50 : (List match_Match)) =>
    some (.inl (p50, (IntKind.wrap .i64 (q6.2 + 1))))
  else
    some (.inr q6.1)
def law12_and_l1 (x0_ : (List match_Match)) (x1_ : (List match_Match)) (q6 : ((List match_Match) × Int)) : Option (List match_Match) := iter (law12_and_s1 x0_ x1_) q6
def law12_and (x0_ : (List match_Match)) (x1_ : (List match_Match)) : Option ((List match_Match) × Bool) :=
  (F.law12_and_l1 x0_ x1_ (([] : (List match_Match)), 0)).bind fun (p12 : (List match_Match)) =>
  some (p12, (decide ((IntKind.wrap .i64 ((x0_.length : Int) * (x1_.length : Int))) ≤ 400)))
def law12_not_s2 (x23 : match_Match) (q47 : ((List match_Match) × Int)) : Option (((List match_Match) × Int) ⊕ (List match_Match)) :=
  if (decide (q47.2 < (x23.In.length : Int))) then
    (lidx x23.In q47.2).bind fun x66 =>
    (lapp q47.1 [(F.match_Match.mk [] [x66])]).bind fun x78 =>
    some (.inl (x78, (IntKind.wrap .i64 (q47.2 + 1))))
  else
    some (.inr q47.1)
def law12_not_l2 (x23 : match_Match) (q47 : ((List match_Match) × Int)) : Option (List match_Match) := iter (law12_not_s2 x23) q47
def law12_not_s3 (x23 : match_Match) (q98 : ((List match_Match) × Int)) : Option (((List match_Match) × Int) ⊕ (List match_Match)) :=
  if (decide (q98.2 < (x23.Out.length : Int))) then
    (lidx x23.Out q98.2).bind fun x116 =>
    (lapp q98.1 [(F.match_Match.mk [x116] [])]).bind fun x128 =>
    some (.inl (x128, (IntKind.wrap .i64 (q98.2 + 1))))
  else
    some (.inr q98.1)
def law12_not_l3 (x23 : match_Match) (q98 : ((List match_Match) × Int)) : Option (List match_Match) := iter (law12_not_s3 x23) q98
def law12_not_s1 (x0_ : (List match_Match)) (q6 : ((List match_Match) × Int)) : Option (((List match_Match) × Int) ⊕ ((List match_Match) ⊕ ((List match_Match) × Bool))) :=
  if (decide (q6.2 < (x0_.length : Int))) then
    (lidx x0_ q6.2).bind fun x23 =>
    (F.law12_not_l2 x23 (([] : (List match_Match)), 0)).bind fun (p53 : (List match_Match)) =>
    (F.law12_not_l3 x23 (p53, 0)).bind fun (p104 : (List match_Match)) =>
    (F.law12_and q6.1 p104).bind fun x147 =>
    if (!x147.2) then
      some (.inr (.inr (([], false))))
    else
      some (.inl (x147.1, (IntKind.wrap .i64 (q6.2 + 1))))
  else
    some (.inr (.inl q6.1))
def law12_not_l1 (x0_ : (List match_Match)) (q6 : ((List match_Match) × Int)) : Option ((List match_Match) ⊕ ((List match_Match) × Bool)) := iter (law12_not_s1 x0_) q6
def law12_not (x0_ : (List match_Match)) : Option ((List match_Match) × Bool) :=
  (F.law12_not_l1 x0_ (([(F.match_Match.mk [] [])] : (List match_Match)), 0)).bind fun a18 => match a18 with
    | .inl p12 =>
      some (p12, true)
    | .inr (p17) =>
      some p17
def law12_MatchJoins_1_s1 (x0_ : (List match_Match)) (q3 : Int) : Option (Int ⊕ (Unit ⊕ Bool)) :=
  if (decide (q3 < (x0_.length : Int))) then
    (lidx x0_ q3).bind fun x16 =>
    if ((x16.Out.length : Int) == 0) then
      some (.inr (.inr (true)))
    else
      some (.inl (IntKind.wrap .i64 (q3 + 1)))
  else
    some (.inr (.inl ()))
def law12_MatchJoins_1_l1 (x0_ : (List match_Match)) (q3 : Int) : Option (Unit ⊕ Bool) := iter (law12_MatchJoins_1_s1 x0_) q3
def law12_MatchJoins_1 (x0_ : (List match_Match)) : Option Bool :=
  (F.law12_MatchJoins_1_l1 x0_ 0).bind fun a11 => match a11 with
    | .inl p7 =>
      some false
    | .inr (p10) =>
      some p10
def law12_MatchJoins (x0_ : (List match_Match)) (x1_ : (List match_Match)) : Option Bool :=
  (F.law12_head).bind fun x2 =>
  if (!x2) then
    some false
  else
    (F.law12_Good x0_ 25).bind fun x14 =>
    (if (!x14) then some true else ((F.law12_Good x1_ 25).bind fun x16 => some (!x16))).bind fun r18 =>
    if r18 then
      some true
    else
      (F.match_Or x0_ x1_).bind fun x42 =>
      (F.match_And x0_ x1_).bind fun x56 =>
      (F.match_Not x0_).bind fun x70 =>
      (F.law12_and x0_ x1_).bind fun x84 =>
      (F.law12_not x0_).bind fun x98 =>
      (F.match_Holds x0_).bind fun x113 =>
      (F.law12_MatchJoins_1 x0_).bind fun x115 =>
      (some ((x113 != x115) || (x42.2 != 0))).bind fun r117 =>
      (if r117 then some true else ((lapp [] x0_).bind fun x119 => (lapp x119 x1_).bind fun x121 => (F.law12_Same x42.1 x121).bind fun x123 => some (!x123))).bind fun r125 =>
      (if r125 then some true else ((F.match_Holds x42.1).bind fun x127 => (F.law12_MatchJoins_1 x0_).bind fun x129 => (if x129 then some true else ((F.law12_MatchJoins_1 x1_).bind fun x131 => some x131)).bind fun r133 => some (x127 != r133))).bind fun r135 =>
      if r135 then
        some false
      else
        (if x84.2 then ((if (x56.2 != 0) then some true else ((F.law12_Same x56.1 x84.1).bind fun x203 => some (!x203))).bind fun r205 => (if r205 then some true else ((F.match_Holds x56.1).bind fun x207 => (F.law12_MatchJoins_1 x0_).bind fun x209 => (if x209 then ((F.law12_MatchJoins_1 x1_).bind fun x211 => some x211) else some false).bind fun r213 => some (x207 != r213))).bind fun r215 => some r215) else some false).bind fun r217 =>
        (if r217 then some true else ((if (!x84.2) then ((some ((x56.2 != 23) || ((x56.1.length : Int) != 0))).bind fun r219 => some r219) else some false).bind fun r221 => some r221)).bind fun r223 =>
        if r223 then
          some false
        else
          (some (x98.2 && (x70.2 == 0))).bind fun r272 =>
          (if r272 then ((F.law12_Same x70.1 x98.1).bind fun x274 => some x274) else some false).bind fun r276 =>
          (if r276 then ((F.match_Holds x70.1).bind fun x278 => (F.law12_MatchJoins_1 x0_).bind fun x280 => some (x278 == (!x280))) else some false).bind fun r282 =>
          (if r282 then some true else ((some ((!x98.2) && (x70.2 == 23))).bind fun r284 => (some (r284 && ((x70.1.length : Int) == 0))).bind fun r286 => some r286)).bind fun r288 =>
          some r288
def law12_MatchOrders_1 (x0_ : match_Span) (x1_ : match_Span) : Option Bool :=
  (
    if (decide (x0_.Part > x1_.Part)) then
      some (x0_, x1_)
    else
      some (x1_, x0_)).bind fun (j11 : (match_Span × match_Span)) =>
  (some ((j11.2.Part == j11.1.Part) || (decide (j11.2.From ≤ j11.1.From)))).bind fun r30 =>
  some r30
def law12_MatchOrders_2_s1 (x0_ : (List match_Span)) (x1_ : match_Span) (c0_ : (match_Span → match_Span → Option Bool)) (q13 : Int) : Option (Int ⊕ (Unit ⊕ Bool)) :=
  if (decide (q13 < (x0_.length : Int))) then
    (lidx x0_ q13).bind fun x26 =>
    (c0_ x26 x1_).bind fun x38 =>
    if (!x38) then
      some (.inr (.inr (false)))
    else
      some (.inl (IntKind.wrap .i64 (q13 + 1)))
  else
    some (.inr (.inl ()))
def law12_MatchOrders_2_l1 (x0_ : (List match_Span)) (x1_ : match_Span) (c0_ : (match_Span → match_Span → Option Bool)) (q13 : Int) : Option (Unit ⊕ Bool) := iter (law12_MatchOrders_2_s1 x0_ x1_ c0_) q13
def law12_MatchOrders_2 (x0_ : (List match_Span)) (x1_ : match_Span) (c0_ : (match_Span → match_Span → Option Bool)) : Option Bool :=
  (F.law12_MatchOrders_2_l1 x0_ x1_ c0_ 0).bind fun a21 => match a21 with
    | .inl p17 =>
      some true
    | .inr (p20) =>
      some p20
def law12_MatchOrders_3_s1 (x0_ : (List match_Span)) (c0_ : ((List match_Span) → match_Span → Option Bool)) (q9 : Int) : Option (Int ⊕ (Unit ⊕ Bool)) :=
  if (decide (q9 < (x0_.length : Int))) then
    (lidx x0_ q9).bind fun x22 =>
    (c0_ x0_ x22).bind fun x34 =>
    if (!x34) then
      some (.inr (.inr (false)))
    else
      some (.inl (IntKind.wrap .i64 (q9 + 1)))
  else
    some (.inr (.inl ()))
def law12_MatchOrders_3_l1 (x0_ : (List match_Span)) (c0_ : ((List match_Span) → match_Span → Option Bool)) (q9 : Int) : Option (Unit ⊕ Bool) := iter (law12_MatchOrders_3_s1 x0_ c0_) q9
def law12_MatchOrders_3 (x0_ : (List match_Span)) (c0_ : ((List match_Span) → match_Span → Option Bool)) : Option Bool :=
  (F.law12_MatchOrders_3_l1 x0_ c0_ 0).bind fun a17 => match a17 with
    | .inl p13 =>
      some true
    | .inr (p16) =>
      some p16
def law12_filter_s2 (x2_ : ((List match_Span) → match_Span → Option Bool)) (x35 : match_Match) (q77 : (Int × match_Match)) : Option ((Int × match_Match) ⊕ match_Match) :=
  if (decide (q77.1 < (x35.Out.length : Int))) then
    (lidx x35.Out q77.1).bind fun x102 =>
    (x2_ x35.In x102).bind fun x114 =>
    if x114 then
      (lapp q77.2.Out [x102]).bind fun x125 =>
      some (.inl ((IntKind.wrap .i64 (q77.1 + 1)), (F.match_Match.mk q77.2.In x125)))
    else
      some (.inl ((IntKind.wrap .i64 (q77.1 + 1)), q77.2))
  else
    some (.inr q77.2)
def law12_filter_l2 (x2_ : ((List match_Span) → match_Span → Option Bool)) (x35 : match_Match) (q77 : (Int × match_Match)) : Option match_Match := iter (law12_filter_s2 x2_ x35) q77
def law12_filter_s1 (x0_ : (List match_Match)) (x1_ : ((List match_Span) → Option Bool)) (x2_ : ((List match_Span) → match_Span → Option Bool)) (q18 : ((List match_Match) × Int)) : Option (((List match_Match) × Int) ⊕ (List match_Match)) :=
  if (decide (q18.2 < (x0_.length : Int))) then
    (lidx x0_ q18.2).bind fun x35 =>
    (x1_ x35.In).bind fun x55 =>
    if (!x55) then
      some (.inl (q18.1, (IntKind.wrap .i64 (q18.2 + 1))))
    else
      (F.law12_filter_l2 x2_ x35 (0, (F.match_Match.mk x35.In []))).bind fun (p85 : match_Match) =>
      (lapp q18.1 [p85]).bind fun x155 =>
      some (.inl (x155, (IntKind.wrap .i64 (q18.2 + 1))))
  else
    some (.inr q18.1)
def law12_filter_l1 (x0_ : (List match_Match)) (x1_ : ((List match_Span) → Option Bool)) (x2_ : ((List match_Span) → match_Span → Option Bool)) (q18 : ((List match_Match) × Int)) : Option (List match_Match) := iter (law12_filter_s1 x0_ x1_ x2_) q18
def law12_filter (x0_ : (List match_Match)) (x1_ : ((List match_Span) → Option Bool)) (x2_ : ((List match_Span) → match_Span → Option Bool)) : Option (List match_Match) :=
  (F.law12_filter_l1 x0_ x1_ x2_ (([] : (List match_Match)), 0)).bind fun (p24 : (List match_Match)) =>
  some p24
def match_inOrder (x0_ : match_Span) (x1_ : match_Span) : Option Bool :=
  (some ((x0_.Part == x1_.Part) || ((decide (x0_.Part < x1_.Part)) == (decide (x0_.From < x1_.From))))).bind fun r10 =>
  (some (r10 || (x0_.From == x1_.From))).bind fun r12 =>
  some r12
def match_Ordered_1_1_1 (x0_ : match_Span) (c0_ : match_Span) : Option Bool :=
  (F.match_inOrder x0_ c0_).bind fun x6 =>
  some (!x6)
def match_Ordered_1_1 (x0_ : match_Span) (c0_ : match_Match) : Option Bool :=
  (F.slices_ContainsFunc_match_Span_match_Span c0_.In (fun z0 => F.match_Ordered_1_1_1 z0 x0_)).bind fun x10 =>
  some (!x10)
def match_outs_s1 (x0_ : match_Match) (x1_ : (match_Span → Option Bool)) (q22 : ((List match_Span) × Int)) : Option (((List match_Span) × Int) ⊕ (List match_Span)) :=
  if (decide (q22.2 < (x0_.Out.length : Int))) then
    (lidx x0_.Out q22.2).bind fun x42 =>
    (x1_ x42).bind fun x54 =>
    if x54 then
      (lapp q22.1 [x42]).bind fun x65 =>
      some (.inl (x65, (IntKind.wrap .i64 (q22.2 + 1))))
    else
      some (.inl (q22.1, (IntKind.wrap .i64 (q22.2 + 1))))
  else
    some (.inr q22.1)
def match_outs_l1 (x0_ : match_Match) (x1_ : (match_Span → Option Bool)) (q22 : ((List match_Span) × Int)) : Option (List match_Span) := iter (match_outs_s1 x0_ x1_) q22
def match_outs (x0_ : match_Match) (x1_ : (match_Span → Option Bool)) : Option match_Match :=
  (F.match_outs_l1 x0_ x1_ ([], 0)).bind fun (p28 : (List match_Span)) =>
  some (F.match_Match.mk x0_.In p28)
def match_Ordered_1_2 (x0_ : match_Span) (c0_ : (match_Span → Option Bool)) : Option Bool :=
  (c0_ x0_).bind fun x12 =>
  some (!x12)
def match_Ordered_1 (x0_ : match_Match) : Option (match_Match × Bool) :=
  (F.match_outs x0_ (fun z0 => F.match_Ordered_1_1 z0 x0_)).bind fun x22 =>
  (F.slices_ContainsFunc_match_Span_match_Span x0_.In (fun z0 => F.match_Ordered_1_2 z0 (fun z0 => F.match_Ordered_1_1 z0 x0_))).bind fun x24 =>
  some (x22, (!x24))
def match_Ordered (x0_ : (List match_Match)) : Option (List match_Match) :=
  (F.match_keep x0_ (fun z0 => F.match_Ordered_1 z0)).bind fun x2 =>
  some x2
def law12_MatchOrders (x0_ : (List match_Match)) : Option Bool :=
  (F.law12_head).bind fun x2 =>
  if (!x2) then
    some false
  else
    (F.law12_Good x0_ 30).bind fun x14 =>
    if (!x14) then
      some true
    else
      (F.law12_filter x0_ (fun z0 => F.law12_MatchOrders_3 z0 (fun z0 z1 => F.law12_MatchOrders_2 z0 z1 (fun z0 z1 => F.law12_MatchOrders_1 z0 z1))) (fun z0 z1 => F.law12_MatchOrders_2 z0 z1 (fun z0 z1 => F.law12_MatchOrders_1 z0 z1))).bind fun x42 =>
      (F.match_Ordered x0_).bind fun x94 =>
      (F.law12_Same x94 x42).bind fun x96 =>
      some x96
def law12_up_s1 (x0_ : (List Int)) (q7 : ((List Int) × Int × Int)) : Option (((List Int) × Int × Int) ⊕ (List Int)) :=
  (some ((decide (q7.2.2 < (x0_.length : Int))) && (decide (q7.2.2 < 50)))).bind fun r22 =>
  if r22 then
    (lidx x0_ q7.2.2).bind fun x31 =>
    (lapp q7.1 [(IntKind.wrap .i64 (q7.2.1 + (IntKind.wrap .i64 (1 + (band .i64 x31 15)))))]).bind fun x36 =>
    some (.inl (x36, (IntKind.wrap .i64 (q7.2.1 + (IntKind.wrap .i64 (1 + (band .i64 x31 15))))), (IntKind.wrap .i64 (q7.2.2 + 1))))
  else
    some (.inr q7.1)
def law12_up_l1 (x0_ : (List Int)) (q7 : ((List Int) × Int × Int)) : Option (List Int) := iter (law12_up_s1 x0_) q7
def law12_up (x0_ : (List Int)) : Option (List Int) :=
  (F.law12_up_l1 x0_ (([] : (List Int)), 0, 0)).bind fun (p13 : (List Int)) =>
  some p13
def law12_rank_s2 (x2_ : Int) (j14 : (List Int)) (q29 : (Int × Int)) : Option ((Int × Int) ⊕ Int) :=
  if (decide (q29.2 < (j14.length : Int))) then
    (lidx j14 q29.2).bind fun x41 =>
    if (decide (x41 ≤ x2_)) then
      some (.inl ((IntKind.wrap .i64 (q29.1 + 1)), (IntKind.wrap .i64 (q29.2 + 1))))
    else
      some (.inl (q29.1, (IntKind.wrap .i64 (q29.2 + 1))))
  else
    some (.inr q29.1)
def law12_rank_l2 (x2_ : Int) (j14 : (List Int)) (q29 : (Int × Int)) : Option Int := iter (law12_rank_s2 x2_ j14) q29
def law12_rank_k1 (x2_ : Int) (j14 : (List Int)) : Option Int :=
  (F.law12_rank_l2 x2_ j14 (0, 0)).bind fun (p33 : Int) =>
  some p33
def law12_rank (x0_ : match_Text) (x1_ : Int) (x2_ : Int) : Option Int :=
  if (x1_ == 1) then
    F.law12_rank_k1 x2_ x0_.Sentences
  else
    if (x1_ == 2) then
      F.law12_rank_k1 x2_ x0_.Paragraphs
    else
      some x2_
def law12_MatchWindows_1_s1 (x0_ : (List match_Span)) (c0_ : match_Text) (c1_ : Int) (q12 : (Int × Int × Int)) : Option ((Int × Int × Int) ⊕ (Int × Int)) :=
  if (decide (q12.2.2 < (x0_.length : Int))) then
    (lidx x0_ q12.2.2).bind fun x24 =>
    (F.law12_rank c0_ c1_ x24.From).bind fun x36 =>
    (F.law12_rank c0_ c1_ x24.To).bind fun x46 =>
    some (.inl ((min q12.1 x36), (max q12.2.1 x46), (IntKind.wrap .i64 (q12.2.2 + 1))))
  else
    some (.inr (q12.1, q12.2.1))
def law12_MatchWindows_1_l1 (x0_ : (List match_Span)) (c0_ : match_Text) (c1_ : Int) (q12 : (Int × Int × Int)) : Option (Int × Int) := iter (law12_MatchWindows_1_s1 x0_ c0_ c1_) q12
def law12_MatchWindows_1 (x0_ : (List match_Span)) (c0_ : match_Text) (c1_ : Int) : Option Int :=
  if ((x0_.length : Int) == 0) then
    some 0
  else
    (F.law12_MatchWindows_1_l1 x0_ c0_ c1_ (1073741824, (-1), 0)).bind fun (p16 : (Int × Int)) =>
    some (IntKind.wrap .i64 ((IntKind.wrap .i64 (p16.2 - p16.1)) + 1))
def law12_MatchWindows_2_1 (x0_ : (List match_Span)) (c0_ : ((List match_Span) → Option Int)) (c1_ : Int) : Option Bool :=
  (c0_ x0_).bind fun x8 =>
  some (decide (x8 ≤ c1_))
def law12_MatchWindows_2_2 (x0_ : (List match_Span)) (x1_ : match_Span) (c0_ : ((List match_Span) → Option Int)) (c1_ : Int) : Option Bool :=
  (F.law12_both x0_ [x1_]).bind fun x12 =>
  (c0_ x12).bind fun x14 =>
  some (decide (x14 ≤ c1_))
def law12_MatchWindows_2 (x0_ : Int) (c0_ : (List match_Match)) (c1_ : ((List match_Span) → Option Int)) : Option (List match_Match) :=
  (F.law12_filter c0_ (fun z0 => F.law12_MatchWindows_2_1 z0 c1_ x0_) (fun z0 z1 => F.law12_MatchWindows_2_2 z0 z1 c1_ x0_)).bind fun x12 =>
  some x12
def law12_MatchWindows_3_s2 (x0_ : (List match_Span)) (c0_ : match_Text) (c1_ : Int) (q7 : Int) (x20 : match_Span) (q33 : Int) : Option (Int ⊕ (Unit ⊕ Bool)) :=
  if (decide (q33 < (x0_.length : Int))) then
    (lidx x0_ q33).bind fun x46 =>
    (if (q7 != q33) then ((F.law12_rank c0_ c1_ x20.From).bind fun x58 => (F.law12_rank c0_ c1_ x46.To).bind fun x60 => some (decide (x58 ≤ x60))) else some false).bind fun r62 =>
    (if r62 then ((F.law12_rank c0_ c1_ x46.From).bind fun x64 => (F.law12_rank c0_ c1_ x20.To).bind fun x66 => some (decide (x64 ≤ x66))) else some false).bind fun r68 =>
    if r68 then
      some (.inr (.inr (false)))
    else
      some (.inl (IntKind.wrap .i64 (q33 + 1)))
  else
    some (.inr (.inl ()))
def law12_MatchWindows_3_l2 (x0_ : (List match_Span)) (c0_ : match_Text) (c1_ : Int) (q7 : Int) (x20 : match_Span) (q33 : Int) : Option (Unit ⊕ Bool) := iter (law12_MatchWindows_3_s2 x0_ c0_ c1_ q7 x20) q33
def law12_MatchWindows_3_s1 (x0_ : (List match_Span)) (c0_ : match_Text) (c1_ : Int) (q7 : Int) : Option (Int ⊕ (Unit ⊕ Bool)) :=
  if (decide (q7 < (x0_.length : Int))) then
    (lidx x0_ q7).bind fun x20 =>
    (F.law12_MatchWindows_3_l2 x0_ c0_ c1_ q7 x20 0).bind fun a41 => match a41 with
      | .inl p37 =>
        some (.inl (IntKind.wrap .i64 (q7 + 1)))
      | .inr (p40) =>
        some (.inr (.inr (p40)))
  else
    some (.inr (.inl ()))
def law12_MatchWindows_3_l1 (x0_ : (List match_Span)) (c0_ : match_Text) (c1_ : Int) (q7 : Int) : Option (Unit ⊕ Bool) := iter (law12_MatchWindows_3_s1 x0_ c0_ c1_) q7
def law12_MatchWindows_3 (x0_ : (List match_Span)) (c0_ : match_Text) (c1_ : Int) : Option Bool :=
  (F.law12_MatchWindows_3_l1 x0_ c0_ c1_ 0).bind fun a15 => match a15 with
    | .inl p11 =>
      some true
    | .inr (p14) =>
      some p14
def law12_all (x0_ : (List match_Span)) (x1_ : match_Span) : Option Bool :=
  some true
def cmp_isNaN_int (x0_ : Int) : Option Bool :=
  some (x0_ != x0_)
def cmp_Less_int (x0_ : Int) (x1_ : Int) : Option Bool :=
  (F.cmp_isNaN_int x0_).bind fun x2 =>
  (if x2 then ((F.cmp_isNaN_int x1_).bind fun x4 => some (!x4)) else some false).bind fun r6 =>
  (some (r6 || (decide (x0_ < x1_)))).bind fun r8 =>
  some r8
def slices_isNaN_int (x0_ : Int) : Option Bool :=
  some (x0_ != x0_)
def slices_BinarySearch_int_int_s1 (x0_ : (List Int)) (x1_ : Int) (q4 : (Int × Int)) : Option ((Int × Int) ⊕ Int) :=
  if (decide (q4.1 < q4.2)) then
    (lidx x0_ (IntKind.wrap .i64 (bshr .u64 (IntKind.wrap .u64 (IntKind.wrap .i64 (q4.1 + q4.2))) 1))).bind fun x17 =>
    (F.cmp_Less_int x17 x1_).bind fun x19 =>
    if x19 then
      some (.inl ((IntKind.wrap .i64 ((IntKind.wrap .i64 (bshr .u64 (IntKind.wrap .u64 (IntKind.wrap .i64 (q4.1 + q4.2))) 1)) + 1)), q4.2))
    else
      some (.inl (q4.1, (IntKind.wrap .i64 (bshr .u64 (IntKind.wrap .u64 (IntKind.wrap .i64 (q4.1 + q4.2))) 1))))
  else
    some (.inr q4.1)
def slices_BinarySearch_int_int_l1 (x0_ : (List Int)) (x1_ : Int) (q4 : (Int × Int)) : Option Int := iter (slices_BinarySearch_int_int_s1 x0_ x1_) q4
def slices_BinarySearch_int_int (x0_ : (List Int)) (x1_ : Int) : Option (Int × Bool) :=
  (F.slices_BinarySearch_int_int_l1 x0_ x1_ (0, (x0_.length : Int))).bind fun (p8 : Int) =>
  (if (decide (p8 < (x0_.length : Int))) then ((lidx x0_ p8).bind fun x35 => (if (x35 == x1_) then some true else ((lidx x0_ p8).bind fun x37 => (F.slices_isNaN_int x37).bind fun x39 => (if x39 then ((F.slices_isNaN_int x1_).bind fun x41 => some x41) else some false).bind fun r43 => some r43)).bind fun r45 => some r45) else some false).bind fun r47 =>
  some (p8, r47)
def token_Rank (x0_ : (List Int)) (x1_ : Int) : Option Int :=
  (F.slices_BinarySearch_int_int x0_ x1_).bind fun x2 =>
  if x2.2 then
    some (IntKind.wrap .i64 (x2.1 + 1))
  else
    some x2.1
def match_Text_Rank (x0_ : match_Text) (x1_ : Int) (x2_ : Int) : Option Int :=
  if (x1_ == 1) then
    (F.token_Rank x0_.Sentences x2_).bind fun x13 =>
    some x13
  else
    if (x1_ == 2) then
      (F.token_Rank x0_.Paragraphs x2_).bind fun x25 =>
      some x25
    else
      some x2_
def match_Text_wide_s1 (x0_ : match_Text) (x1_ : Int) (x2_ : (List match_Span)) (q42 : (Int × Int × Int)) : Option ((Int × Int × Int) ⊕ (Int × Int)) :=
  if (decide (q42.2.2 < (x2_.length : Int))) then
    (lidx x2_ q42.2.2).bind fun x54 =>
    (F.match_Text_Rank x0_ x1_ x54.From).bind fun x66 =>
    (F.match_Text_Rank x0_ x1_ x54.To).bind fun x68 =>
    some (.inl ((min q42.1 x66), (max q42.2.1 x68), (IntKind.wrap .i64 (q42.2.2 + 1))))
  else
    some (.inr (q42.1, q42.2.1))
def match_Text_wide_l1 (x0_ : match_Text) (x1_ : Int) (x2_ : (List match_Span)) (q42 : (Int × Int × Int)) : Option (Int × Int) := iter (match_Text_wide_s1 x0_ x1_ x2_) q42
def match_Text_wide (x0_ : match_Text) (x1_ : Int) (x2_ : (List match_Span)) : Option Int :=
  if ((x2_.length : Int) == 0) then
    some 0
  else
    (lidx x2_ 0).bind fun x13 =>
    (F.match_Text_Rank x0_ x1_ x13.From).bind fun x15 =>
    (lidx x2_ 0).bind fun x17 =>
    (F.match_Text_Rank x0_ x1_ x17.To).bind fun x19 =>
    (F.match_Text_wide_l1 x0_ x1_ x2_ (x15, x19, 0)).bind fun (p46 : (Int × Int)) =>
    some (IntKind.wrap .i64 ((IntKind.wrap .i64 (p46.2 - p46.1)) + 1))
def match_Text_Window_1_1 (x0_ : match_Span) (c0_ : match_Text) (c1_ : Int) (c2_ : match_Match) (c3_ : Int) : Option Bool :=
  (F.slices_Clone_match_Span_match_Span c2_.In).bind fun x14 =>
  (lapp x14 [x0_]).bind fun x16 =>
  (F.match_Text_wide c0_ c1_ x16).bind fun x18 =>
  some (decide (x18 ≤ c3_))
def match_Text_Window_1 (x0_ : match_Match) (c0_ : match_Text) (c1_ : Int) (c2_ : Int) : Option (match_Match × Bool) :=
  (F.match_outs x0_ (fun z0 => F.match_Text_Window_1_1 z0 c0_ c1_ x0_ c2_)).bind fun x18 =>
  (F.match_Text_wide c0_ c1_ x0_.In).bind fun x20 =>
  some (x18, (decide (x20 ≤ c2_)))
def match_Text_Window (x0_ : match_Text) (x1_ : (List match_Match)) (x2_ : Int) (x3_ : Int) : Option (List match_Match) :=
  (F.match_keep x1_ (fun z0 => F.match_Text_Window_1 z0 x0_ x3_ x2_)).bind fun x18 =>
  some x18
def match_Text_Same_1_1 (x0_ : match_Span) (c0_ : match_Text) (c1_ : Int) (c2_ : match_Match) : Option Bool :=
  (F.slices_Clone_match_Span_match_Span c2_.In).bind fun x14 =>
  (lapp x14 [x0_]).bind fun x16 =>
  (F.match_Text_wide c0_ c1_ x16).bind fun x18 =>
  some (decide (x18 ≤ 1))
def match_Text_Same_1 (x0_ : match_Match) (c0_ : match_Text) (c1_ : Int) : Option (match_Match × Bool) :=
  (F.match_outs x0_ (fun z0 => F.match_Text_Same_1_1 z0 c0_ c1_ x0_)).bind fun x18 =>
  (F.match_Text_wide c0_ c1_ x0_.In).bind fun x20 =>
  some (x18, (decide (x20 ≤ 1)))
def match_Text_Same (x0_ : match_Text) (x1_ : (List match_Match)) (x2_ : Int) : Option (List match_Match) :=
  (F.match_keep x1_ (fun z0 => F.match_Text_Same_1 z0 x0_ x2_)).bind fun x14 =>
  some x14
def match_Text_Apart_1_s2 (x0_ : match_Match) (c0_ : match_Text) (c1_ : Int) (x34 : match_Span) (x46 : (List match_Span)) (q51 : Int) : Option (Int ⊕ (Unit ⊕ (match_Match × Bool))) :=
  if (decide (q51 < (x46.length : Int))) then
    (lidx x46 q51).bind fun x67 =>
    (F.match_Text_Rank c0_ c1_ x34.From).bind fun x79 =>
    (F.match_Text_Rank c0_ c1_ x67.To).bind fun x81 =>
    (if (decide (x79 ≤ x81)) then ((F.match_Text_Rank c0_ c1_ x67.From).bind fun x83 => (F.match_Text_Rank c0_ c1_ x34.To).bind fun x85 => some (decide (x83 ≤ x85))) else some false).bind fun r87 =>
    if r87 then
      some (.inr (.inr ((x0_, false))))
    else
      some (.inl (IntKind.wrap .i64 (q51 + 1)))
  else
    some (.inr (.inl ()))
def match_Text_Apart_1_l2 (x0_ : match_Match) (c0_ : match_Text) (c1_ : Int) (x34 : match_Span) (x46 : (List match_Span)) (q51 : Int) : Option (Unit ⊕ (match_Match × Bool)) := iter (match_Text_Apart_1_s2 x0_ c0_ c1_ x34 x46) q51
def match_Text_Apart_1_s1 (x0_ : match_Match) (c0_ : match_Text) (c1_ : Int) (q19 : Int) : Option (Int ⊕ (Unit ⊕ (match_Match × Bool))) :=
  if (decide (q19 < (x0_.In.length : Int))) then
    (lidx x0_.In q19).bind fun x34 =>
    (lsub x0_.In 0 q19).bind fun x46 =>
    (F.match_Text_Apart_1_l2 x0_ c0_ c1_ x34 x46 0).bind fun a59 => match a59 with
      | .inl p55 =>
        some (.inl (IntKind.wrap .i64 (q19 + 1)))
      | .inr (p58) =>
        some (.inr (.inr (p58)))
  else
    some (.inr (.inl ()))
def match_Text_Apart_1_l1 (x0_ : match_Match) (c0_ : match_Text) (c1_ : Int) (q19 : Int) : Option (Unit ⊕ (match_Match × Bool)) := iter (match_Text_Apart_1_s1 x0_ c0_ c1_) q19
def match_Text_Apart_1 (x0_ : match_Match) (c0_ : match_Text) (c1_ : Int) : Option (match_Match × Bool) :=
  (F.match_Text_Apart_1_l1 x0_ c0_ c1_ 0).bind fun a27 => match a27 with
    | .inl p23 =>
      some (x0_, true)
    | .inr (p26) =>
      some p26
def match_Text_Apart (x0_ : match_Text) (x1_ : (List match_Match)) (x2_ : Int) : Option (List match_Match) :=
  (F.match_keep x1_ (fun z0 => F.match_Text_Apart_1 z0 x0_ x2_)).bind fun x14 =>
  some x14
def law12_MatchWindows_s1 (x4_ : Int) (x30 : (List Int)) (x32 : (List Int)) (q99 : Int) : Option (Int ⊕ (Unit ⊕ Bool)) :=
  if (decide (q99 < 40)) then
    (F.match_Text_Rank (F.match_Text.mk 0 1000 x30 x32) (IntKind.wrap .i64 (Int.tmod (IntKind.wrap .u64 x4_) 3)) q99).bind fun x116 =>
    (F.law12_rank (F.match_Text.mk 0 1000 x30 x32) (IntKind.wrap .i64 (Int.tmod (IntKind.wrap .u64 x4_) 3)) q99).bind fun x118 =>
    if (x116 != x118) then
      some (.inr (.inr (false)))
    else
      some (.inl (IntKind.wrap .i64 (q99 + 1)))
  else
    some (.inr (.inl ()))
def law12_MatchWindows_l1 (x4_ : Int) (x30 : (List Int)) (x32 : (List Int)) (q99 : Int) : Option (Unit ⊕ Bool) := iter (law12_MatchWindows_s1 x4_ x30 x32) q99
def law12_MatchWindows (x0_ : (List match_Match)) (x1_ : (List Int)) (x2_ : (List Int)) (x3_ : Int) (x4_ : Int) : Option Bool :=
  (F.law12_head).bind fun x6 =>
  if (!x6) then
    some false
  else
    (F.law12_Good x0_ 30).bind fun x18 =>
    if (!x18) then
      some true
    else
      (F.law12_up x1_).bind fun x30 =>
      (F.law12_up x2_).bind fun x32 =>
      (F.law12_filter x0_ (fun z0 => F.law12_MatchWindows_3 z0 (F.match_Text.mk 0 1000 x30 x32) (IntKind.wrap .i64 (Int.tmod (IntKind.wrap .u64 x4_) 3))) (fun z0 z1 => F.law12_all z0 z1)).bind fun x73 =>
      (F.law12_MatchWindows_l1 x4_ x30 x32 0).bind fun a107 => match a107 with
        | .inl p103 =>
          (F.match_Text_Window (F.match_Text.mk 0 1000 x30 x32) x0_ x3_ (IntKind.wrap .i64 (Int.tmod (IntKind.wrap .u64 x4_) 3))).bind fun x148 =>
          (F.law12_MatchWindows_2 x3_ x0_ (fun z0 => F.law12_MatchWindows_1 z0 (F.match_Text.mk 0 1000 x30 x32) (IntKind.wrap .i64 (Int.tmod (IntKind.wrap .u64 x4_) 3)))).bind fun x150 =>
          (F.law12_Same x148 x150).bind fun x152 =>
          (if x152 then ((F.match_Text_Same (F.match_Text.mk 0 1000 x30 x32) x0_ (IntKind.wrap .i64 (Int.tmod (IntKind.wrap .u64 x4_) 3))).bind fun x154 => (F.law12_MatchWindows_2 1 x0_ (fun z0 => F.law12_MatchWindows_1 z0 (F.match_Text.mk 0 1000 x30 x32) (IntKind.wrap .i64 (Int.tmod (IntKind.wrap .u64 x4_) 3)))).bind fun x156 => (F.law12_Same x154 x156).bind fun x158 => some x158) else some false).bind fun r160 =>
          (if r160 then ((F.match_Text_Apart (F.match_Text.mk 0 1000 x30 x32) x0_ (IntKind.wrap .i64 (Int.tmod (IntKind.wrap .u64 x4_) 3))).bind fun x162 => (F.law12_Same x162 x73).bind fun x164 => some x164) else some false).bind fun r166 =>
          some r166
        | .inr (p106) =>
          some p106
def match_Text_First_1_1 (x0_ : match_Span) (c0_ : match_Text) : Option Bool :=
  some (x0_.From == c0_.From)
def match_Text_First_1 (x0_ : match_Match) (c0_ : match_Text) : Option (match_Match × Bool) :=
  (F.slices_ContainsFunc_match_Span_match_Span x0_.In (fun z0 => F.match_Text_First_1_1 z0 c0_)).bind fun x18 =>
  some (x0_, x18)
def match_Text_First (x0_ : match_Text) (x1_ : (List match_Match)) : Option (List match_Match) :=
  (F.match_keep x1_ (fun z0 => F.match_Text_First_1 z0 x0_)).bind fun x10 =>
  some x10
def law12_MatchAgain (x0_ : (List match_Match)) (x1_ : (List Int)) (x2_ : Int) (x3_ : Int) : Option Bool :=
  (F.law12_head).bind fun x2 =>
  if (!x2) then
    some false
  else
    (F.law12_Good x0_ 30).bind fun x14 =>
    if (!x14) then
      some true
    else
      (F.law12_up x1_).bind fun x26 =>
      (F.law12_up x1_).bind fun x28 =>
      (F.match_Ordered x0_).bind fun x54 =>
      (F.match_Text_Window (F.match_Text.mk 0 30 x26 x28) x0_ (band .i64 x2_ 31) (IntKind.wrap .i64 (Int.tmod (IntKind.wrap .u64 x3_) 3))).bind fun x64 =>
      (F.match_Text_Same (F.match_Text.mk 0 30 x26 x28) x0_ (IntKind.wrap .i64 (Int.tmod (IntKind.wrap .u64 x3_) 3))).bind fun x74 =>
      (F.match_Text_Apart (F.match_Text.mk 0 30 x26 x28) x0_ (IntKind.wrap .i64 (Int.tmod (IntKind.wrap .u64 x3_) 3))).bind fun x84 =>
      (F.match_Ordered x54).bind fun x94 =>
      (F.law12_Same x94 x54).bind fun x96 =>
      (if x96 then ((F.match_Text_Window (F.match_Text.mk 0 30 x26 x28) x64 (band .i64 x2_ 31) (IntKind.wrap .i64 (Int.tmod (IntKind.wrap .u64 x3_) 3))).bind fun x98 => (F.law12_Same x98 x64).bind fun x100 => some x100) else some false).bind fun r102 =>
      (if r102 then ((F.match_Text_Same (F.match_Text.mk 0 30 x26 x28) x74 (IntKind.wrap .i64 (Int.tmod (IntKind.wrap .u64 x3_) 3))).bind fun x104 => (F.law12_Same x104 x74).bind fun x106 => some x106) else some false).bind fun r108 =>
      (if r108 then ((F.match_Text_Apart (F.match_Text.mk 0 30 x26 x28) x84 (IntKind.wrap .i64 (Int.tmod (IntKind.wrap .u64 x3_) 3))).bind fun x110 => (F.law12_Same x110 x84).bind fun x112 => some x112) else some false).bind fun r114 =>
      (if r114 then ((F.match_Text_Window (F.match_Text.mk 0 30 x26 x28) x0_ (IntKind.wrap .i64 ((band .i64 x2_ 31) + 1)) (IntKind.wrap .i64 (Int.tmod (IntKind.wrap .u64 x3_) 3))).bind fun x116 => some (decide ((x116.length : Int) ≥ (x64.length : Int)))) else some false).bind fun r118 =>
      (if r118 then ((F.match_Text_Window (F.match_Text.mk 0 30 x26 x28) x0_ (IntKind.wrap .i64 ((band .i64 x2_ 31) + 1)) 0).bind fun x120 => (F.match_Text_Window (F.match_Text.mk 0 30 x26 x28) x0_ (band .i64 x2_ 31) 0).bind fun x122 => some (decide ((x120.length : Int) ≥ (x122.length : Int)))) else some false).bind fun r124 =>
      (if r124 then ((F.match_Mild x0_ []).bind fun x126 => some ((x126.length : Int) == (x0_.length : Int))) else some false).bind fun r128 =>
      (if r128 then ((F.match_Text_First (F.match_Text.mk 0 30 x26 x28) x0_).bind fun x130 => (F.match_Text_First (F.match_Text.mk 0 30 x26 x28) x130).bind fun x132 => (F.match_Text_First (F.match_Text.mk 0 30 x26 x28) x0_).bind fun x134 => some ((x132.length : Int) == (x134.length : Int))) else some false).bind fun r136 =>
      some r136
end
end Go.Proofs.Ytihbdelgoapeoaa.F
