/- The program, pure. Printed. -/
import Derived.Test.YtkhhmjikohonfaaF0
namespace Go.Proofs.Ytkhhmjikohonfaa.F
open Go
set_option linter.unusedVariables false

noncomputable section
def utf_Low (x0_ : Int) : Option Int :=
  (some ((decide (x0_ ≥ 65)) && (decide (x0_ ≤ 90)))).bind fun r2 =>
  (
    if r2 then
      some r2
    else
      (some ((decide (x0_ ≥ 192)) && (decide (x0_ ≤ 222)))).bind fun r16 =>
      (some (r16 && (x0_ != 215))).bind fun r18 =>
      some r18).bind fun (j10 : Bool) =>
  if j10 then
    some (IntKind.wrap .i32 (x0_ + 32))
  else
    (some ((decide (x0_ ≥ 256)) && (decide (x0_ ≤ 311)))).bind fun r25 =>
    (some (r25 && (x0_ != 304))).bind fun r27 =>
    (some (r27 && ((band .i32 x0_ 1) == 0))).bind fun r29 =>
    (
      if r29 then
        some r29
      else
        (some ((decide (x0_ ≥ 330)) && (decide (x0_ ≤ 375)))).bind fun r45 =>
        (some (r45 && ((band .i32 x0_ 1) == 0))).bind fun r47 =>
        some r47).bind fun (j39 : Bool) =>
    if j39 then
      some (IntKind.wrap .i32 (x0_ + 1))
    else
      (some ((decide (x0_ ≥ 313)) && (decide (x0_ ≤ 328)))).bind fun r54 =>
      (some (r54 && ((band .i32 x0_ 1) == 1))).bind fun r56 =>
      (
        if r56 then
          some r56
        else
          (some ((decide (x0_ ≥ 377)) && (decide (x0_ ≤ 382)))).bind fun r71 =>
          (some (r71 && ((band .i32 x0_ 1) == 1))).bind fun r73 =>
          some r73).bind fun (j65 : Bool) =>
      if j65 then
        some (IntKind.wrap .i32 (x0_ + 1))
      else
        if (x0_ == 376) then
          some 255
        else
          some x0_
def utf_Plain (x0_ : Int) : Option Int :=
  (some ((decide (x0_ < 192)) || (decide ((IntKind.wrap .i64 ((IntKind.wrap .i64 x0_) - 192)) ≥ 192)))).bind fun r3 =>
  (if r3 then some true else ((sget [65, 65, 65, 65, 65, 65, 45, 67, 69, 69, 69, 69, 73, 73, 73, 73, 45, 78, 79, 79, 79, 79, 79, 45, 45, 85, 85, 85, 85, 89, 45, 45, 97, 97, 97, 97, 97, 97, 45, 99, 101, 101, 101, 101, 105, 105, 105, 105, 45, 110, 111, 111, 111, 111, 111, 45, 45, 117, 117, 117, 117, 121, 45, 121, 65, 97, 65, 97, 65, 97, 67, 99, 67, 99, 67, 99, 67, 99, 68, 100, 45, 45, 69, 101, 69, 101, 69, 101, 69, 101, 69, 101, 71, 103, 71, 103, 71, 103, 71, 103, 72, 104, 45, 45, 73, 105, 73, 105, 73, 105, 73, 105, 45, 45, 45, 45, 74, 106, 75, 107, 45, 76, 108, 76, 108, 76, 108, 45, 45, 45, 45, 78, 110, 78, 110, 78, 110, 45, 45, 45, 79, 111, 79, 111, 79, 111, 45, 45, 82, 114, 82, 114, 82, 114, 83, 115, 83, 115, 83, 115, 83, 115, 84, 116, 84, 116, 45, 45, 85, 117, 85, 117, 85, 117, 85, 117, 85, 117, 85, 117, 87, 119, 89, 121, 89, 90, 122, 90, 122, 90, 122, 45] (IntKind.wrap .i64 ((IntKind.wrap .i64 x0_) - 192))).bind fun x5 => some (x5 == 45))).bind fun r7 =>
  if r7 then
    some x0_
  else
    (sget [65, 65, 65, 65, 65, 65, 45, 67, 69, 69, 69, 69, 73, 73, 73, 73, 45, 78, 79, 79, 79, 79, 79, 45, 45, 85, 85, 85, 85, 89, 45, 45, 97, 97, 97, 97, 97, 97, 45, 99, 101, 101, 101, 101, 105, 105, 105, 105, 45, 110, 111, 111, 111, 111, 111, 45, 45, 117, 117, 117, 117, 121, 45, 121, 65, 97, 65, 97, 65, 97, 67, 99, 67, 99, 67, 99, 67, 99, 68, 100, 45, 45, 69, 101, 69, 101, 69, 101, 69, 101, 69, 101, 71, 103, 71, 103, 71, 103, 71, 103, 72, 104, 45, 45, 73, 105, 73, 105, 73, 105, 73, 105, 45, 45, 45, 45, 74, 106, 75, 107, 45, 76, 108, 76, 108, 76, 108, 45, 45, 45, 45, 78, 110, 78, 110, 78, 110, 45, 45, 45, 79, 111, 79, 111, 79, 111, 45, 45, 82, 114, 82, 114, 82, 114, 83, 115, 83, 115, 83, 115, 83, 115, 84, 116, 84, 116, 45, 45, 85, 117, 85, 117, 85, 117, 85, 117, 85, 117, 85, 117, 87, 119, 89, 121, 89, 90, 122, 90, 122, 90, 122, 45] (IntKind.wrap .i64 ((IntKind.wrap .i64 x0_) - 192))).bind fun x18 =>
    some (IntKind.wrap .i32 x18)
def law02_head  : Option Bool :=
  (F.utf_Low 201).bind fun x2 =>
  (if (x2 == 233) then ((F.utf_Plain 233).bind fun x4 => some (x4 == 101)) else some false).bind fun r6 =>
  some r6
def utf_Next_s2 (x0_ : Str) (j9 : (Int × Int × Int)) (q57 : (Int × Int)) : Option ((Int × Int) ⊕ (Int ⊕ (Int × Int))) :=
  if (decide (q57.2 < j9.1)) then
    (sget x0_ q57.2).bind fun x70 =>
    if ((band .u8 x70 192) != 128) then
      some (.inr (.inr ((0, 0))))
    else
      (sget x0_ q57.2).bind fun x75 =>
      some (.inl ((bor .i32 (bshl .i32 q57.1 6) (IntKind.wrap .i32 (band .u8 x75 63))), (IntKind.wrap .i64 (q57.2 + 1))))
  else
    some (.inr (.inl q57.1))
def utf_Next_l2 (x0_ : Str) (j9 : (Int × Int × Int)) (q57 : (Int × Int)) : Option (Int ⊕ (Int × Int)) := iter (utf_Next_s2 x0_ j9) q57
def utf_Next_k1 (x0_ : Str) (j9 : (Int × Int × Int)) : Option (Int × Int) :=
  (some ((j9.1 == 0) || (decide ((x0_.length : Int) < j9.1)))).bind fun r46 =>
  if r46 then
    some (0, 0)
  else
    (F.utf_Next_l2 x0_ j9 (j9.2.2, 1)).bind fun a65 => match a65 with
      | .inl p61 =>
        (if (decide (p61 < j9.2.1)) then some true else ((some ((decide (p61 ≥ 55296)) && (decide (p61 ≤ 57343)))).bind fun r80 => some r80)).bind fun r82 =>
        (some (r82 || (decide (p61 > 1114111)))).bind fun r84 =>
        if r84 then
          some (0, 0)
        else
          some (p61, j9.1)
      | .inr (p64) =>
        some p64
def utf_Next (x0_ : Str) : Option (Int × Int) :=
  if (x0_ == []) then
    some (0, 0)
  else
    (sget x0_ 0).bind fun x5 =>
    if (decide (x5 < 128)) then
      some ((IntKind.wrap .i32 x5), 1)
    else
      (some ((decide (x5 ≥ 194)) && (decide (x5 ≤ 223)))).bind fun r16 =>
      if r16 then
        F.utf_Next_k1 x0_ (2, 128, (IntKind.wrap .i32 (band .u8 x5 31)))
      else
        (some ((decide (x5 ≥ 224)) && (decide (x5 ≤ 239)))).bind fun r26 =>
        if r26 then
          F.utf_Next_k1 x0_ (3, 2048, (IntKind.wrap .i32 (band .u8 x5 15)))
        else
          (some ((decide (x5 ≥ 240)) && (decide (x5 ≤ 244)))).bind fun r36 =>
          if r36 then
            F.utf_Next_k1 x0_ (4, 65536, (IntKind.wrap .i32 (band .u8 x5 7)))
          else
            F.utf_Next_k1 x0_ (0, 0, 0)
def law02_sign (x0_ : Int) : Option Bool :=
  (some ((decide (x0_ ≥ 0)) && (decide (x0_ ≤ 1114111)))).bind fun r2 =>
  (if r2 then ((some ((decide (x0_ < 55296)) || (decide (x0_ > 57343)))).bind fun r4 => some r4) else some false).bind fun r6 =>
  some r6
def law02_bytes_1 (x0_ : Int) (c0_ : Int) : Option Int :=
  (nz x0_).bind fun x2 =>
  some (IntKind.wrap .u8 (IntKind.wrap .i64 (128 + (Int.tmod (IntKind.wrap .i64 (Int.tdiv c0_ x0_)) 64))))
def law02_bytes (x0_ : Int) : Option Str :=
  if (decide ((IntKind.wrap .i64 x0_) < 128)) then
    some ([u8 (IntKind.wrap .u8 (IntKind.wrap .i64 x0_))] : Str)
  else
    if (decide ((IntKind.wrap .i64 x0_) < 2048)) then
      (F.law02_bytes_1 1 (IntKind.wrap .i64 x0_)).bind fun x18 =>
      some ([u8 (IntKind.wrap .u8 (IntKind.wrap .i64 (192 + (IntKind.wrap .i64 (Int.tdiv (IntKind.wrap .i64 x0_) 64))))), u8 x18] : Str)
    else
      if (decide ((IntKind.wrap .i64 x0_) < 65536)) then
        (F.law02_bytes_1 64 (IntKind.wrap .i64 x0_)).bind fun x34 =>
        (F.law02_bytes_1 1 (IntKind.wrap .i64 x0_)).bind fun x36 =>
        some ([u8 (IntKind.wrap .u8 (IntKind.wrap .i64 (224 + (IntKind.wrap .i64 (Int.tdiv (IntKind.wrap .i64 x0_) 4096))))), u8 x34, u8 x36] : Str)
      else
        (F.law02_bytes_1 4096 (IntKind.wrap .i64 x0_)).bind fun x58 =>
        (F.law02_bytes_1 64 (IntKind.wrap .i64 x0_)).bind fun x60 =>
        (F.law02_bytes_1 1 (IntKind.wrap .i64 x0_)).bind fun x62 =>
        some ([u8 (IntKind.wrap .u8 (IntKind.wrap .i64 (240 + (IntKind.wrap .i64 (Int.tdiv (IntKind.wrap .i64 x0_) 262144))))), u8 x58, u8 x60, u8 x62] : Str)
def utf_Right_s1  (q2 : Str) : Option (Str ⊕ (Unit ⊕ Bool)) :=
  if (!(q2 == [])) then
    (F.utf_Next q2).bind fun x15 =>
    if (x15.2 == 0) then
      some (.inr (.inr (false)))
    else
      (lsub q2 x15.2 (q2.length : Int)).bind fun x32 =>
      some (.inl x32)
  else
    some (.inr (.inl ()))
def utf_Right_l1  (q2 : Str) : Option (Unit ⊕ Bool) := iter (utf_Right_s1 ) q2
def utf_Right (x0_ : Str) : Option Bool :=
  (F.utf_Right_l1  x0_).bind fun a10 => match a10 with
    | .inl p6 =>
      some true
    | .inr (p9) =>
      some p9
def law02_UtfNexts_s2 (x0_ : Str) (q65 : Int) (q101 : (Int × Int)) : Option ((Int × Int) ⊕ Int) :=
  if (decide (q101.2 < q65)) then
    (sget x0_ q101.2).bind fun x113 =>
    some (.inl ((IntKind.wrap .i64 ((IntKind.wrap .i64 (q101.1 * 64)) + (Int.tmod (IntKind.wrap .i64 x113) 64))), (IntKind.wrap .i64 (q101.2 + 1))))
  else
    some (.inr q101.1)
def law02_UtfNexts_l2 (x0_ : Str) (q65 : Int) (q101 : (Int × Int)) : Option Int := iter (law02_UtfNexts_s2 x0_ q65) q101
def law02_UtfNexts_s1 (x0_ : Str) (q65 : Int) : Option (Int ⊕ (Unit ⊕ Bool)) :=
  (some ((decide (q65 ≤ 4)) && (decide (q65 ≤ (x0_.length : Int))))).bind fun r76 =>
  if r76 then
    (sget x0_ 0).bind fun x85 =>
    (
      if (decide (q65 > 1)) then
        (sget x0_ 0).bind fun x95 =>
        (nn (IntKind.wrap .u64 q65)).bind fun x97 =>
        some (band .i64 (IntKind.wrap .i64 x95) (bshr .i64 127 (IntKind.wrap .u64 q65)))
      else
        some (IntKind.wrap .i64 x85)).bind fun (j89 : Int) =>
    (F.law02_UtfNexts_l2 x0_ q65 (j89, 1)).bind fun (p105 : Int) =>
    (F.law02_sign (IntKind.wrap .i32 p105)).bind fun x118 =>
    (if x118 then ((F.law02_bytes (IntKind.wrap .i32 p105)).bind fun x120 => (lsub x0_ 0 q65).bind fun x122 => some (x120 == x122)) else some false).bind fun r124 =>
    if r124 then
      some (.inr (.inr (false)))
    else
      some (.inl (IntKind.wrap .i64 (q65 + 1)))
  else
    some (.inr (.inl ()))
def law02_UtfNexts_l1 (x0_ : Str) (q65 : Int) : Option (Unit ⊕ Bool) := iter (law02_UtfNexts_s1 x0_) q65
def law02_UtfNexts (x0_ : Str) : Option Bool :=
  (F.law02_head).bind fun x2 =>
  if (!x2) then
    some false
  else
    if (decide ((x0_.length : Int) > 50)) then
      some true
    else
      (F.utf_Next x0_).bind fun x17 =>
      if (decide (x17.2 > 0)) then
        (F.law02_sign x17.1).bind fun x33 =>
        (some (x33 && (decide (x17.2 ≤ (x0_.length : Int))))).bind fun r35 =>
        (if r35 then ((lsub x0_ 0 x17.2).bind fun x37 => (F.law02_bytes x17.1).bind fun x39 => some (x37 == x39)) else some false).bind fun r41 =>
        some r41
      else
        if (x17.1 != 0) then
          some false
        else
          (F.law02_UtfNexts_l1 x0_ 1).bind fun a73 => match a73 with
            | .inl p69 =>
              (F.utf_Right x0_).bind fun x151 =>
              (some ((!x151) || (x0_ == []))).bind fun r153 =>
              some r153
            | .inr (p72) =>
              some p72
def utf_Put (x0_ : Str) (x1_ : Int) : Option Str :=
  (some ((decide (x1_ < 0)) || (decide (x1_ > 1114111)))).bind fun r2 =>
  (if r2 then some true else ((some ((decide (x1_ ≥ 55296)) && (decide (x1_ ≤ 57343)))).bind fun r4 => some r4)).bind fun r6 =>
  if r6 then
    some x0_
  else
    if (decide (x1_ < 128)) then
      (lapp x0_ [u8 (IntKind.wrap .u8 x1_)]).bind fun x20 =>
      some x20
    else
      if (decide (x1_ < 2048)) then
        (lapp x0_ [u8 (bor .u8 192 (IntKind.wrap .u8 (bshr .i32 x1_ 6))), u8 (bor .u8 128 (IntKind.wrap .u8 (band .i32 x1_ 63)))]).bind fun x32 =>
        some x32
      else
        if (decide (x1_ < 65536)) then
          (lapp x0_ [u8 (bor .u8 224 (IntKind.wrap .u8 (bshr .i32 x1_ 12))), u8 (bor .u8 128 (IntKind.wrap .u8 (band .i32 (bshr .i32 x1_ 6) 63))), u8 (bor .u8 128 (IntKind.wrap .u8 (band .i32 x1_ 63)))]).bind fun x44 =>
          some x44
        else
          (lapp x0_ [u8 (bor .u8 240 (IntKind.wrap .u8 (bshr .i32 x1_ 18))), u8 (bor .u8 128 (IntKind.wrap .u8 (band .i32 (bshr .i32 x1_ 12) 63))), u8 (bor .u8 128 (IntKind.wrap .u8 (band .i32 (bshr .i32 x1_ 6) 63))), u8 (bor .u8 128 (IntKind.wrap .u8 (band .i32 x1_ 63)))]).bind fun x54 =>
          some x54
def law02_UtfPuts (x0_ : Int) (x1_ : Str) (x2_ : Str) : Option Bool :=
  (F.law02_head).bind fun x2 =>
  if (!x2) then
    some false
  else
    (some ((decide ((x1_.length : Int) > 100)) || (decide ((x2_.length : Int) > 100)))).bind fun r14 =>
    if r14 then
      some true
    else
      (lapp [] x1_).bind fun x24 =>
      (F.utf_Put x24 x0_).bind fun x26 =>
      (F.law02_sign x0_).bind fun x44 =>
      if (!x44) then
        some (x26 == x1_)
      else
        (F.law02_bytes x0_).bind fun x56 =>
        (lapp x56 x2_).bind fun x58 =>
        (F.utf_Next x58).bind fun x60 =>
        (F.law02_bytes x0_).bind fun x81 =>
        (lapp x1_ x81).bind fun x83 =>
        (some ((x26 == x83) && (x60.1 == x0_))).bind fun r85 =>
        (if r85 then ((F.law02_bytes x0_).bind fun x87 => some (x60.2 == (x87.length : Int))) else some false).bind fun r89 =>
        (if r89 then ((F.law02_bytes x0_).bind fun x91 => (F.utf_Right x91).bind fun x93 => some x93) else some false).bind fun r95 =>
        some r95
def law02_UtfJoins (x0_ : Str) (x1_ : Str) (x2_ : Int) : Option Bool :=
  (F.law02_head).bind fun x2 =>
  if (!x2) then
    some false
  else
    (some ((decide ((x0_.length : Int) > 100)) || (decide ((x1_.length : Int) > 100)))).bind fun r14 =>
    (if r14 then some true else ((F.utf_Right x0_).bind fun x16 => some (!x16))).bind fun r18 =>
    (if r18 then some true else ((F.utf_Right x1_).bind fun x20 => some (!x20))).bind fun r22 =>
    if r22 then
      some true
    else
      (F.utf_Put [] x2_).bind fun x48 =>
      (lapp x0_ x1_).bind fun x59 =>
      (F.utf_Right x59).bind fun x61 =>
      (if (!x61) then some true else ((lapp x0_ [128]).bind fun x63 => (lapp x63 x1_).bind fun x65 => (F.utf_Right x65).bind fun x67 => some x67)).bind fun r69 =>
      (if r69 then some true else ((lapp x0_ [255]).bind fun x71 => (F.utf_Right x71).bind fun x73 => some x73)).bind fun r75 =>
      if r75 then
        some false
      else
        (if (decide ((x48.length : Int) < 2)) then some true else ((lapp x0_ x48).bind fun x107 => (lapp x107 x1_).bind fun x109 => (F.utf_Right x109).bind fun x111 => (if x111 then ((lsub x48 0 (IntKind.wrap .i64 ((x48.length : Int) - 1))).bind fun x113 => (lapp x0_ x113).bind fun x115 => (F.utf_Right x115).bind fun x117 => some (!x117)) else some false).bind fun r119 => (if r119 then ((lsub x48 1 (x48.length : Int)).bind fun x121 => (lapp x121 x1_).bind fun x123 => (F.utf_Right x123).bind fun x125 => some (!x125)) else some false).bind fun r127 => some r127)).bind fun r129 =>
        some r129
def utf_Map_s1 (x1_ : (Int → Option Int)) (q9 : (Str × Str)) : Option ((Str × Str) ⊕ Str) :=
  if (!(q9.1 == [])) then
    (F.utf_Next q9.1).bind fun x26 =>
    if (x26.2 == 0) then
      (sget q9.1 0).bind fun x42 =>
      (lapp q9.2 [u8 x42]).bind fun x44 =>
      (lsub q9.1 1 (q9.1.length : Int)).bind fun x46 =>
      some (.inl (x46, x44))
    else
      (x1_ x26.1).bind fun x57 =>
      (F.utf_Put q9.2 x57).bind fun x59 =>
      (lsub q9.1 x26.2 (q9.1.length : Int)).bind fun x61 =>
      some (.inl (x61, x59))
  else
    some (.inr q9.2)
def utf_Map_l1 (x1_ : (Int → Option Int)) (q9 : (Str × Str)) : Option Str := iter (utf_Map_s1 x1_) q9
def utf_Map (x0_ : Str) (x1_ : (Int → Option Int)) : Option Str :=
  (F.utf_Map_l1 x1_ (x0_, [])).bind fun (p15 : Str) =>
  some p15
def law02_UtfTwice (x0_ : Str) : Option Bool :=
  (F.law02_head).bind fun x2 =>
  if (!x2) then
    some false
  else
    if (decide ((x0_.length : Int) > 200)) then
      some true
    else
      (F.utf_Map x0_ (fun z0 => F.utf_Low z0)).bind fun x17 =>
      (F.utf_Map x17 (fun z0 => F.utf_Plain z0)).bind fun x19 =>
      (F.utf_Map x0_ (fun z0 => F.utf_Plain z0)).bind fun x48 =>
      (F.utf_Map x48 (fun z0 => F.utf_Low z0)).bind fun x50 =>
      (if (x19 == x50) then ((F.utf_Map x19 (fun z0 => F.utf_Low z0)).bind fun x79 => some (x79 == x19)) else some false).bind fun r81 =>
      (if r81 then ((F.utf_Map x19 (fun z0 => F.utf_Plain z0)).bind fun x83 => some (x83 == x19)) else some false).bind fun r85 =>
      some r85
def law02_UtfMaps_1 (x0_ : Int) : Option Int :=
  some x0_
def law02_UtfMaps_2 (x0_ : Int) : Option Int :=
  some (-1)
def law02_UtfMaps_s1 (x0_ : Str) (q84 : (Str × Str × Int)) : Option ((Str × Str × Int) ⊕ (Str × Str)) :=
  if (decide (q84.2.2 < (x0_.length : Int))) then
    (lsub x0_ q84.2.2 (x0_.length : Int)).bind fun x96 =>
    (F.utf_Next x96).bind fun x98 =>
    if (x98.2 == 0) then
      (lsub x0_ q84.2.2 (IntKind.wrap .i64 (q84.2.2 + 1))).bind fun x114 =>
      (lapp q84.1 x114).bind fun x116 =>
      (lsub x0_ q84.2.2 (IntKind.wrap .i64 (q84.2.2 + 1))).bind fun x119 =>
      (lapp q84.2.1 x119).bind fun x121 =>
      some (.inl (x116, x121, (IntKind.wrap .i64 (q84.2.2 + 1))))
    else
      (F.utf_Low x98.1).bind fun x125 =>
      (F.law02_bytes x125).bind fun x127 =>
      (lapp q84.1 x127).bind fun x129 =>
      some (.inl (x129, q84.2.1, (IntKind.wrap .i64 (q84.2.2 + x98.2))))
  else
    some (.inr (q84.1, q84.2.1))
def law02_UtfMaps_l1 (x0_ : Str) (q84 : (Str × Str × Int)) : Option (Str × Str) := iter (law02_UtfMaps_s1 x0_) q84
def law02_UtfMaps (x0_ : Str) : Option Bool :=
  (F.law02_head).bind fun x2 =>
  if (!x2) then
    some false
  else
    if (decide ((x0_.length : Int) > 200)) then
      some true
    else
      (F.utf_Map x0_ (fun z0 => F.law02_UtfMaps_1 z0)).bind fun x17 =>
      (F.utf_Map x0_ (fun z0 => F.utf_Low z0)).bind fun x33 =>
      (F.utf_Map x33 (fun z0 => F.utf_Low z0)).bind fun x49 =>
      (F.utf_Map x0_ (fun z0 => F.law02_UtfMaps_2 z0)).bind fun x65 =>
      (F.law02_UtfMaps_l1 x0_ ([], [], 0)).bind fun (p88 : (Str × Str)) =>
      (some ((x17 == x0_) && (x33 == p88.1))).bind fun r148 =>
      (some (r148 && (x49 == x33))).bind fun r150 =>
      (some (r150 && (x65 == p88.2))).bind fun r152 =>
      (if r152 then ((F.utf_Right x0_).bind fun x154 => some (((p88.2.length : Int) == 0) == x154)) else some false).bind fun r156 =>
      some r156
end
end Go.Proofs.Ytkhhmjikohonfaa.F
