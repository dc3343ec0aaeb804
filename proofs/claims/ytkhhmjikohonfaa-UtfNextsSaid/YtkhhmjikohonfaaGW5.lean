/- Walks. Printed. -/
import Derived.Test.YtkhhmjikohonfaaGW4
namespace Go.Proofs.Ytkhhmjikohonfaa.K
open Go Go.RowKit F
set_option maxRecDepth 100000
set_option maxHeartbeats 4000000
set_option linter.unusedVariables false
set_option linter.unusedSimpArgs false
theorem law02_UtfTwice_ok {x0_ : Str} {y : Bool} (hF : F.law02_UtfTwice x0_ = some y) {v0_ : AV} {σ : Mem} (h0_ : eS.rel v0_ x0_)  :
    CallE Try.prog 9 [v0_] σ (fun v σ' => eB.rel v y ∧ Ext σ σ') := by
  unfold F.law02_UtfTwice at hF
  obtain rfl := h0_
  refine CallE_of Try.func9 rfl Try.ntmps9 (by simp) ?_
  have hO0 := Own.start σ
  with_unfolding_all refine TE_seq ?_
  with_unfolding_all refine TE_seqY ?_
  have hM1 := MB_none σ
  with_unfolding_all refine TX_assign rfl ?_
  with_unfolding_all refine TX_nil ?_
  with_unfolding_all refine thenQ_normal ?_
  with_unfolding_all refine TE_seq ?_
  with_unfolding_all refine TE_seq ?_
  obtain ⟨x2, h3, hF⟩ := bind_s hF
  with_unfolding_all refine TE_seqY ?_
  have hM4 := MB_none σ
  have hc5 : CallE Try.prog 11 [] σ _ := law02_head_ok h3 
  with_unfolding_all refine TY_call hM4 rfl en11 hc5 ?_
  intro v6 s10 hv7 hX8 hM9
  have hO11 := hO0.ext_call hX8
  obtain rfl := hv7
  with_unfolding_all refine TX_not rfl ?_
  with_unfolding_all refine TX_nil ?_
  with_unfolding_all refine thenQ_normal ?_
  with_unfolding_all refine TE_cond rfl (fun hc12 => ?_) (fun hc12 => ?_)
  · skip
    replace hF := ite_t hc12 hF
    with_unfolding_all refine TE_seq ?_
    with_unfolding_all refine TE_seqY ?_
    have hM13 := MB_none s10
    with_unfolding_all refine TX_assign rfl ?_
    with_unfolding_all refine TX_nil ?_
    with_unfolding_all refine thenQ_normal ?_
    with_unfolding_all refine TE_ret ?_
    with_unfolding_all refine thenQ_ret ?_
    obtain rfl := some_s hF
    exact done_any (vs := [.bool (false)]) (.inr rfl) rfl (resR_tmp rfl resR_nil) ⟨rfl, hO11.ext⟩
  · skip
    replace hF := ite_f hc12 hF
    with_unfolding_all refine TE_skip ?_
    with_unfolding_all refine thenQ_normal ?_
    with_unfolding_all refine TE_seq ?_
    with_unfolding_all refine TE_seq ?_
    with_unfolding_all refine TE_seqY ?_
    have hM14 := MB_none s10
    with_unfolding_all refine TX_move rfl ?_
    with_unfolding_all refine TY_slen (s := x0_) rfl rfl rfl rfl rfl ?_
    with_unfolding_all refine TX_cmp rfl rfl rfl ?_
    with_unfolding_all refine TX_nil ?_
    with_unfolding_all refine thenQ_normal ?_
    with_unfolding_all refine TE_cond rfl (fun hc15 => ?_) (fun hc15 => ?_)
    · skip
      replace hF := ite_t hc15 hF
      with_unfolding_all refine TE_seq ?_
      with_unfolding_all refine TE_seqY ?_
      have hM16 := MB_none s10
      with_unfolding_all refine TX_assign rfl ?_
      with_unfolding_all refine TX_nil ?_
      with_unfolding_all refine thenQ_normal ?_
      with_unfolding_all refine TE_ret ?_
      with_unfolding_all refine thenQ_ret ?_
      obtain rfl := some_s hF
      exact done_any (vs := [.bool (true)]) (.inr rfl) rfl (resR_tmp rfl resR_nil) ⟨rfl, hO11.ext⟩
    · skip
      replace hF := ite_f hc15 hF
      with_unfolding_all refine TE_skip ?_
      with_unfolding_all refine thenQ_normal ?_
      with_unfolding_all refine TE_seq ?_
      obtain ⟨x17, h18, hF⟩ := bind_s hF
      obtain ⟨x19, h20, hF⟩ := bind_s hF
      with_unfolding_all refine TE_seqY ?_
      have hM21 := MB_none s10
      with_unfolding_all refine TX_move rfl ?_
      have hc28 : CallE Try.prog 20 [.str (bs (x0_)), .fn (.func 12) [] []] s10 _ := utf_Map_ok h18 rfl ⟨12, [], [], rfl, en12, fun _ hX22 v23 x24 y26 h25 hy27 => utf_Low_ok hy27 h25 ⟩
      with_unfolding_all refine TY_call hM21 rfl en20 hc28 ?_
      intro v29 s33 hv30 hX31 hM32
      have hO34 := hO11.ext_call hX31
      obtain rfl := hv30
      have hc41 : CallE Try.prog 20 [.str (bs (x17)), .fn (.func 13) [] []] s33 _ := utf_Map_ok h20 rfl ⟨13, [], [], rfl, en13, fun _ hX35 v36 x37 y39 h38 hy40 => utf_Plain_ok hy40 h38 ⟩
      with_unfolding_all refine TY_call hM32 rfl en20 hc41 ?_
      intro v42 s46 hv43 hX44 hM45
      have hO47 := hO34.ext_call hX44
      obtain rfl := hv43
      with_unfolding_all refine TX_assign rfl ?_
      with_unfolding_all refine TX_nil ?_
      with_unfolding_all refine thenQ_normal ?_
      with_unfolding_all refine TE_seq ?_
      obtain ⟨x48, h49, hF⟩ := bind_s hF
      obtain ⟨x50, h51, hF⟩ := bind_s hF
      with_unfolding_all refine TE_seqY ?_
      have hM52 := MB_none s46
      with_unfolding_all refine TX_move rfl ?_
      have hc59 : CallE Try.prog 20 [.str (bs (x0_)), .fn (.func 13) [] []] s46 _ := utf_Map_ok h49 rfl ⟨13, [], [], rfl, en13, fun _ hX53 v54 x55 y57 h56 hy58 => utf_Plain_ok hy58 h56 ⟩
      with_unfolding_all refine TY_call hM52 rfl en20 hc59 ?_
      intro v60 s64 hv61 hX62 hM63
      have hO65 := hO47.ext_call hX62
      obtain rfl := hv61
      have hc72 : CallE Try.prog 20 [.str (bs (x48)), .fn (.func 12) [] []] s64 _ := utf_Map_ok h51 rfl ⟨12, [], [], rfl, en12, fun _ hX66 v67 x68 y70 h69 hy71 => utf_Low_ok hy71 h69 ⟩
      with_unfolding_all refine TY_call hM63 rfl en20 hc72 ?_
      intro v73 s77 hv74 hX75 hM76
      have hO78 := hO65.ext_call hX75
      obtain rfl := hv74
      with_unfolding_all refine TX_assign rfl ?_
      with_unfolding_all refine TX_nil ?_
      with_unfolding_all refine thenQ_normal ?_
      with_unfolding_all refine TE_seq ?_
      obtain ⟨r81, h82, hF⟩ := bind_s hF
      obtain ⟨r85, h86, hF⟩ := bind_s hF
      with_unfolding_all refine TE_seqY ?_
      have hM87 := MB_none s77
      with_unfolding_all refine TX_move rfl ?_
      with_unfolding_all refine TX_move rfl ?_
      with_unfolding_all refine TY_scmp (a := x19) (b := x50) rfl rfl rfl ?_
      with_unfolding_all refine TX_move rfl ?_
      with_unfolding_all refine TX_guard_t rfl rfl (fun hc88 => ?_) (fun hc88 => ?_)
      · skip
        replace h82 := ite_t hc88 h82
        obtain ⟨x79, h80, h82⟩ := bind_s h82
        with_unfolding_all refine TX_move rfl ?_
        with_unfolding_all refine TX_guard_yes rfl rfl hc88 ?_
        have hc95 : CallE Try.prog 20 [.str (bs (x19)), .fn (.func 12) [] []] s77 _ := utf_Map_ok h80 rfl ⟨12, [], [], rfl, en12, fun _ hX89 v90 x91 y93 h92 hy94 => utf_Low_ok hy94 h92 ⟩
        with_unfolding_all refine TY_call hM87 rfl en20 hc95 ?_
        intro v96 s100 hv97 hX98 hM99
        have hO101 := hO78.ext_call hX98
        obtain rfl := hv97
        with_unfolding_all refine TX_guard_yes rfl rfl hc88 ?_
        with_unfolding_all refine TX_move rfl ?_
        with_unfolding_all refine TX_guard_yes rfl rfl hc88 ?_
        with_unfolding_all refine TY_scmp (a := x79) (b := x19) rfl rfl rfl ?_
        with_unfolding_all refine TX_pick_t rfl hc88 rfl ?_
        obtain rfl := some_s h82
        with_unfolding_all refine TX_move rfl ?_
        with_unfolding_all refine TX_guard_t rfl rfl (fun hc102 => ?_) (fun hc102 => ?_)
        · skip
          replace h86 := ite_t hc102 h86
          obtain ⟨x83, h84, h86⟩ := bind_s h86
          with_unfolding_all refine TX_move rfl ?_
          with_unfolding_all refine TX_guard_yes rfl rfl hc102 ?_
          have hc109 : CallE Try.prog 20 [.str (bs (x19)), .fn (.func 13) [] []] s100 _ := utf_Map_ok h84 rfl ⟨13, [], [], rfl, en13, fun _ hX103 v104 x105 y107 h106 hy108 => utf_Plain_ok hy108 h106 ⟩
          with_unfolding_all refine TY_call hM99 rfl en20 hc109 ?_
          intro v110 s114 hv111 hX112 hM113
          have hO115 := hO101.ext_call hX112
          obtain rfl := hv111
          with_unfolding_all refine TX_guard_yes rfl rfl hc102 ?_
          with_unfolding_all refine TX_move rfl ?_
          with_unfolding_all refine TX_guard_yes rfl rfl hc102 ?_
          with_unfolding_all refine TY_scmp (a := x83) (b := x19) rfl rfl rfl ?_
          with_unfolding_all refine TX_pick_t rfl hc102 rfl ?_
          obtain rfl := some_s h86
          with_unfolding_all refine TX_assign rfl ?_
          with_unfolding_all refine TX_nil ?_
          with_unfolding_all refine thenQ_normal ?_
          with_unfolding_all refine TE_ret ?_
          obtain rfl := some_s hF
          exact done_any (vs := [.bool ((x83 == x19))]) (.inr rfl) rfl (resR_tmp rfl resR_nil) ⟨rfl, hO115.ext⟩
        · skip
          replace h86 := ite_f hc102 h86
          obtain rfl := some_s h86
          with_unfolding_all refine TX_guard_no_t rfl rfl hc102 ?_
          with_unfolding_all refine TX_guard_no_t rfl rfl hc102 ?_
          with_unfolding_all refine TX_guard_no_t rfl rfl hc102 ?_
          with_unfolding_all refine TX_pick_f rfl hc102 rfl ?_
          with_unfolding_all refine TX_assign rfl ?_
          with_unfolding_all refine TX_nil ?_
          with_unfolding_all refine thenQ_normal ?_
          with_unfolding_all refine TE_ret ?_
          obtain rfl := some_s hF
          exact done_any (vs := [.bool (false)]) (.inr rfl) rfl (resR_tmp rfl resR_nil) ⟨rfl, hO101.ext⟩
      · skip
        replace h82 := ite_f hc88 h82
        obtain rfl := some_s h82
        with_unfolding_all refine TX_guard_no_t rfl rfl hc88 ?_
        with_unfolding_all refine TX_guard_no_t rfl rfl hc88 ?_
        with_unfolding_all refine TX_guard_no_t rfl rfl hc88 ?_
        with_unfolding_all refine TX_pick_f rfl hc88 rfl ?_
        with_unfolding_all refine TX_move rfl ?_
        replace h86 := ite_f rfl h86
        obtain rfl := some_s h86
        with_unfolding_all refine TX_guard_no_t rfl rfl rfl ?_
        with_unfolding_all refine TX_guard_no_t rfl rfl rfl ?_
        with_unfolding_all refine TX_guard_no_t rfl rfl rfl ?_
        with_unfolding_all refine TX_guard_no_t rfl rfl rfl ?_
        with_unfolding_all refine TX_pick_f rfl rfl rfl ?_
        with_unfolding_all refine TX_assign rfl ?_
        with_unfolding_all refine TX_nil ?_
        with_unfolding_all refine thenQ_normal ?_
        with_unfolding_all refine TE_ret ?_
        obtain rfl := some_s hF
        exact done_any (vs := [.bool (false)]) (.inr rfl) rfl (resR_tmp rfl resR_nil) ⟨rfl, hO78.ext⟩
theorem law02_UtfMaps_1_ok {x0_ : Int} {y : Int} (hF : F.law02_UtfMaps_1 x0_ = some y) {v0_ : AV} {σ : Mem} (h0_ : (eI .i32).rel v0_ x0_)  :
    CallE Try.prog 21 [v0_] σ (fun v σ' => (eI .i32).rel v y ∧ Ext σ σ') := by
  unfold F.law02_UtfMaps_1 at hF
  obtain rfl := h0_
  refine CallE_of Try.func21 rfl Try.ntmps21 (by simp) ?_
  have hO0 := Own.start σ
  with_unfolding_all refine TE_seq ?_
  with_unfolding_all refine TE_seqY ?_
  have hM1 := MB_none σ
  with_unfolding_all refine TX_assign rfl ?_
  with_unfolding_all refine TX_nil ?_
  with_unfolding_all refine thenQ_normal ?_
  with_unfolding_all refine TE_seq ?_
  with_unfolding_all refine TE_seqY ?_
  have hM2 := MB_none σ
  with_unfolding_all refine TX_move rfl ?_
  with_unfolding_all refine TX_assign rfl ?_
  with_unfolding_all refine TX_nil ?_
  with_unfolding_all refine thenQ_normal ?_
  with_unfolding_all refine TE_ret ?_
  obtain rfl := some_s hF
  exact done_any (vs := [.int .i32 (x0_)]) (.inr rfl) rfl (resR_tmp rfl resR_nil) ⟨rfl, hO0.ext⟩
theorem law02_UtfMaps_2_ok {x0_ : Int} {y : Int} (hF : F.law02_UtfMaps_2 x0_ = some y) {v0_ : AV} {σ : Mem} (h0_ : (eI .i32).rel v0_ x0_)  :
    CallE Try.prog 22 [v0_] σ (fun v σ' => (eI .i32).rel v y ∧ Ext σ σ') := by
  unfold F.law02_UtfMaps_2 at hF
  obtain rfl := h0_
  refine CallE_of Try.func22 rfl Try.ntmps22 (by simp) ?_
  have hO0 := Own.start σ
  with_unfolding_all refine TE_seq ?_
  with_unfolding_all refine TE_seqY ?_
  have hM1 := MB_none σ
  with_unfolding_all refine TX_assign rfl ?_
  with_unfolding_all refine TX_nil ?_
  with_unfolding_all refine thenQ_normal ?_
  with_unfolding_all refine TE_seq ?_
  with_unfolding_all refine TE_seqY ?_
  have hM2 := MB_none σ
  with_unfolding_all refine TX_assign rfl ?_
  with_unfolding_all refine TX_nil ?_
  with_unfolding_all refine thenQ_normal ?_
  with_unfolding_all refine TE_ret ?_
  obtain rfl := some_s hF
  exact done_any (vs := [.int .i32 ((-1))]) (.inr rfl) rfl (resR_tmp rfl resR_nil) ⟨rfl, hO0.ext⟩
theorem law02_UtfMaps_ok {x0_ : Str} {y : Bool} (hF : F.law02_UtfMaps x0_ = some y) {v0_ : AV} {σ : Mem} (h0_ : eS.rel v0_ x0_)  :
    CallE Try.prog 10 [v0_] σ (fun v σ' => eB.rel v y ∧ Ext σ σ') := by
  unfold F.law02_UtfMaps at hF
  obtain rfl := h0_
  refine CallE_of Try.func10 rfl Try.ntmps10 (by simp) ?_
  have hO0 := Own.start σ
  with_unfolding_all refine TE_seq ?_
  with_unfolding_all refine TE_seqY ?_
  have hM1 := MB_none σ
  with_unfolding_all refine TX_assign rfl ?_
  with_unfolding_all refine TX_nil ?_
  with_unfolding_all refine thenQ_normal ?_
  with_unfolding_all refine TE_seq ?_
  with_unfolding_all refine TE_seq ?_
  obtain ⟨x2, h3, hF⟩ := bind_s hF
  with_unfolding_all refine TE_seqY ?_
  have hM4 := MB_none σ
  have hc5 : CallE Try.prog 11 [] σ _ := law02_head_ok h3 
  with_unfolding_all refine TY_call hM4 rfl en11 hc5 ?_
  intro v6 s10 hv7 hX8 hM9
  have hO11 := hO0.ext_call hX8
  obtain rfl := hv7
  with_unfolding_all refine TX_not rfl ?_
  with_unfolding_all refine TX_nil ?_
  with_unfolding_all refine thenQ_normal ?_
  with_unfolding_all refine TE_cond rfl (fun hc12 => ?_) (fun hc12 => ?_)
  · skip
    replace hF := ite_t hc12 hF
    with_unfolding_all refine TE_seq ?_
    with_unfolding_all refine TE_seqY ?_
    have hM13 := MB_none s10
    with_unfolding_all refine TX_assign rfl ?_
    with_unfolding_all refine TX_nil ?_
    with_unfolding_all refine thenQ_normal ?_
    with_unfolding_all refine TE_ret ?_
    with_unfolding_all refine thenQ_ret ?_
    obtain rfl := some_s hF
    exact done_any (vs := [.bool (false)]) (.inr rfl) rfl (resR_tmp rfl resR_nil) ⟨rfl, hO11.ext⟩
  · skip
    replace hF := ite_f hc12 hF
    with_unfolding_all refine TE_skip ?_
    with_unfolding_all refine thenQ_normal ?_
    with_unfolding_all refine TE_seq ?_
    with_unfolding_all refine TE_seq ?_
    with_unfolding_all refine TE_seqY ?_
    have hM14 := MB_none s10
    with_unfolding_all refine TX_move rfl ?_
    with_unfolding_all refine TY_slen (s := x0_) rfl rfl rfl rfl rfl ?_
    with_unfolding_all refine TX_cmp rfl rfl rfl ?_
    with_unfolding_all refine TX_nil ?_
    with_unfolding_all refine thenQ_normal ?_
    with_unfolding_all refine TE_cond rfl (fun hc15 => ?_) (fun hc15 => ?_)
    · skip
      replace hF := ite_t hc15 hF
      with_unfolding_all refine TE_seq ?_
      with_unfolding_all refine TE_seqY ?_
      have hM16 := MB_none s10
      with_unfolding_all refine TX_assign rfl ?_
      with_unfolding_all refine TX_nil ?_
      with_unfolding_all refine thenQ_normal ?_
      with_unfolding_all refine TE_ret ?_
      with_unfolding_all refine thenQ_ret ?_
      obtain rfl := some_s hF
      exact done_any (vs := [.bool (true)]) (.inr rfl) rfl (resR_tmp rfl resR_nil) ⟨rfl, hO11.ext⟩
    · skip
      replace hF := ite_f hc15 hF
      with_unfolding_all refine TE_skip ?_
      with_unfolding_all refine thenQ_normal ?_
      with_unfolding_all refine TE_seq ?_
      obtain ⟨x17, h18, hF⟩ := bind_s hF
      with_unfolding_all refine TE_seqY ?_
      have hM19 := MB_none s10
      with_unfolding_all refine TX_move rfl ?_
      have hc26 : CallE Try.prog 20 [.str (bs (x0_)), .fn (.func 21) [] []] s10 _ := utf_Map_ok h18 rfl ⟨21, [], [], rfl, en21, fun _ hX20 v21 x22 y24 h23 hy25 => law02_UtfMaps_1_ok hy25 h23 ⟩
      with_unfolding_all refine TY_call hM19 rfl en20 hc26 ?_
      intro v27 s31 hv28 hX29 hM30
      have hO32 := hO11.ext_call hX29
      obtain rfl := hv28
      with_unfolding_all refine TX_assign rfl ?_
      with_unfolding_all refine TX_nil ?_
      with_unfolding_all refine thenQ_normal ?_
      with_unfolding_all refine TE_seq ?_
      obtain ⟨x33, h34, hF⟩ := bind_s hF
      with_unfolding_all refine TE_seqY ?_
      have hM35 := MB_none s31
      with_unfolding_all refine TX_move rfl ?_
      have hc42 : CallE Try.prog 20 [.str (bs (x0_)), .fn (.func 12) [] []] s31 _ := utf_Map_ok h34 rfl ⟨12, [], [], rfl, en12, fun _ hX36 v37 x38 y40 h39 hy41 => utf_Low_ok hy41 h39 ⟩
      with_unfolding_all refine TY_call hM35 rfl en20 hc42 ?_
      intro v43 s47 hv44 hX45 hM46
      have hO48 := hO32.ext_call hX45
      obtain rfl := hv44
      with_unfolding_all refine TX_assign rfl ?_
      with_unfolding_all refine TX_nil ?_
      with_unfolding_all refine thenQ_normal ?_
      with_unfolding_all refine TE_seq ?_
      obtain ⟨x49, h50, hF⟩ := bind_s hF
      with_unfolding_all refine TE_seqY ?_
      have hM51 := MB_none s47
      with_unfolding_all refine TX_move rfl ?_
      have hc58 : CallE Try.prog 20 [.str (bs (x33)), .fn (.func 12) [] []] s47 _ := utf_Map_ok h50 rfl ⟨12, [], [], rfl, en12, fun _ hX52 v53 x54 y56 h55 hy57 => utf_Low_ok hy57 h55 ⟩
      with_unfolding_all refine TY_call hM51 rfl en20 hc58 ?_
      intro v59 s63 hv60 hX61 hM62
      have hO64 := hO48.ext_call hX61
      obtain rfl := hv60
      with_unfolding_all refine TX_assign rfl ?_
      with_unfolding_all refine TX_nil ?_
      with_unfolding_all refine thenQ_normal ?_
      with_unfolding_all refine TE_seq ?_
      obtain ⟨x65, h66, hF⟩ := bind_s hF
      with_unfolding_all refine TE_seqY ?_
      have hM67 := MB_none s63
      with_unfolding_all refine TX_move rfl ?_
      have hc74 : CallE Try.prog 20 [.str (bs (x0_)), .fn (.func 22) [] []] s63 _ := utf_Map_ok h66 rfl ⟨22, [], [], rfl, en22, fun _ hX68 v69 x70 y72 h71 hy73 => law02_UtfMaps_2_ok hy73 h71 ⟩
      with_unfolding_all refine TY_call hM67 rfl en20 hc74 ?_
      intro v75 s79 hv76 hX77 hM78
      have hO80 := hO64.ext_call hX77
      obtain rfl := hv76
      with_unfolding_all refine TX_assign rfl ?_
      with_unfolding_all refine TX_nil ?_
      with_unfolding_all refine thenQ_normal ?_
      with_unfolding_all refine TE_seq ?_
      with_unfolding_all refine TE_seqY ?_
      have hM81 := MB_none s79
      with_unfolding_all refine TX_assign rfl ?_
      with_unfolding_all refine TX_nil ?_
      with_unfolding_all refine thenQ_normal ?_
      with_unfolding_all refine TE_seq ?_
      with_unfolding_all refine TE_seqY ?_
      have hM82 := MB_none s79
      with_unfolding_all refine TX_assign rfl ?_
      with_unfolding_all refine TX_nil ?_
      with_unfolding_all refine thenQ_normal ?_
      with_unfolding_all refine TE_seq ?_
      with_unfolding_all refine TE_seq ?_
      with_unfolding_all refine TE_seqY ?_
      have hM83 := MB_none s79
      with_unfolding_all refine TX_assign rfl ?_
      with_unfolding_all refine TX_nil ?_
      with_unfolding_all refine thenQ_normal ?_
      with_unfolding_all refine TE_block ?_
      obtain ⟨p88, h92, hF⟩ := bind_s hF
      refine TE_iter (f := F.law02_UtfMaps_s1 x0_) (s0 := ([], [], 0)) (a := p88) (fun (q84 : (Str × Str × Int)) z => ∃ (s86 : Mem), Own σ [] s86 [] ∧ Le z ⟨fr 88 [(0, .str (bs (x0_))), (3, .str (bs (x17))), (4, .str (bs (x33))), (5, .str (bs (x49))), (6, .str (bs (x65))), (7, .str (bs (q84.1))), (8, .str (bs (q84.2.1))), (9, .int .i64 (q84.2.2))], [], s86⟩) (fun (p88 : (Str × Str)) e z => (e = .exit 0 ∧ ∃ (s89 : Mem), Own σ [] s89 [] ∧ Le z ⟨fr 88 [(0, .str (bs (x0_))), (3, .str (bs (x17))), (4, .str (bs (x33))), (5, .str (bs (x49))), (6, .str (bs (x65))), (7, .str (bs (p88.1))), (8, .str (bs (p88.2)))], [], s89⟩)) h92 ?_ ?_ ?_
      · skip
        exact ⟨s79, (hO80.sub 0 rfl), (Le_fr ⟨rfl, ⟨rfl, ⟨rfl, ⟨rfl, ⟨rfl, ⟨rfl, ⟨rfl, ⟨rfl, trivial⟩⟩⟩⟩⟩⟩⟩⟩)⟩
      · skip
        clear hF
        rintro q84 zq84 r85 ⟨s86, hO87, hz93⟩ hF
        unfold F.law02_UtfMaps_s1 at hF
        refine TE_pre hz93 ?_
        with_unfolding_all refine TE_seq ?_
        with_unfolding_all refine TE_seq ?_
        with_unfolding_all refine TE_seqY ?_
        have hM94 := MB_none s86
        with_unfolding_all refine TX_move rfl ?_
        with_unfolding_all refine TX_move rfl ?_
        with_unfolding_all refine TY_slen (s := x0_) rfl rfl rfl rfl rfl ?_
        with_unfolding_all refine TX_cmp rfl rfl rfl ?_
        with_unfolding_all refine TX_nil ?_
        with_unfolding_all refine thenQ_normal ?_
        with_unfolding_all refine TE_cond rfl (fun hc95 => ?_) (fun hc95 => ?_)
        · skip
          replace hF := ite_t hc95 hF
          with_unfolding_all refine TE_skip ?_
          with_unfolding_all refine thenQ_normal ?_
          with_unfolding_all refine TE_block ?_
          with_unfolding_all refine TE_seq ?_
          obtain ⟨x96, h97, hF⟩ := bind_s hF
          obtain ⟨x98, h99, hF⟩ := bind_s hF
          with_unfolding_all refine TE_seqY ?_
          have hM100 := MB_none s86
          with_unfolding_all refine TX_move rfl ?_
          with_unfolding_all refine TX_move rfl ?_
          with_unfolding_all refine TY_ssl rfl rfl rfl rfl h97 ?_
          have hc101 : CallE Try.prog 15 [.str (bs (x96))] s86 _ := utf_Next_ok h99 rfl
          with_unfolding_all refine TY_call hM100 rfl en15 hc101 ?_
          intro v102 s106 hv103 hX104 hM105
          have hO107 := hO87.ext_call hX104
          obtain ⟨v108, v109, rfl, h110, h111⟩ := hv103
          obtain rfl := h110
          obtain rfl := h111
          with_unfolding_all refine TX_move rfl ?_
          with_unfolding_all refine TX_extract rfl rfl ?_
          with_unfolding_all refine TX_extract rfl rfl ?_
          with_unfolding_all refine TX_assign rfl ?_
          with_unfolding_all refine TX_assign rfl ?_
          with_unfolding_all refine TX_nil ?_
          with_unfolding_all refine thenQ_normal ?_
          with_unfolding_all refine TE_seq ?_
          with_unfolding_all refine TE_seq ?_
          with_unfolding_all refine TE_seqY ?_
          have hM112 := MB_none s106
          with_unfolding_all refine TX_move rfl ?_
          with_unfolding_all refine TX_cmp rfl rfl rfl ?_
          with_unfolding_all refine TX_nil ?_
          with_unfolding_all refine thenQ_normal ?_
          with_unfolding_all refine TE_cond rfl (fun hc113 => ?_) (fun hc113 => ?_)
          · skip
            replace hF := ite_t hc113 hF
            with_unfolding_all refine TE_seq ?_
            obtain ⟨x114, h115, hF⟩ := bind_s hF
            obtain ⟨x116, h117, hF⟩ := bind_s hF
            with_unfolding_all refine TE_seqY ?_
            have hM118 := MB_none s106
            with_unfolding_all refine TX_move rfl ?_
            with_unfolding_all refine TX_move rfl ?_
            with_unfolding_all refine TX_move rfl ?_
            with_unfolding_all refine TX_move rfl ?_
            with_unfolding_all refine TX_ari rfl rfl rfl ?_
            with_unfolding_all refine TY_ssl rfl rfl rfl rfl h115 ?_
            with_unfolding_all refine TY_scat rfl rfl h117 ?_
            with_unfolding_all refine TX_assign rfl ?_
            with_unfolding_all refine TX_nil ?_
            with_unfolding_all refine thenQ_normal ?_
            with_unfolding_all refine TE_seq ?_
            obtain ⟨x119, h120, hF⟩ := bind_s hF
            obtain ⟨x121, h122, hF⟩ := bind_s hF
            with_unfolding_all refine TE_seqY ?_
            have hM123 := MB_none s106
            with_unfolding_all refine TX_move rfl ?_
            with_unfolding_all refine TX_move rfl ?_
            with_unfolding_all refine TX_move rfl ?_
            with_unfolding_all refine TX_move rfl ?_
            with_unfolding_all refine TX_ari rfl rfl rfl ?_
            with_unfolding_all refine TY_ssl rfl rfl rfl rfl h120 ?_
            with_unfolding_all refine TY_scat rfl rfl h122 ?_
            with_unfolding_all refine TX_assign rfl ?_
            with_unfolding_all refine TX_nil ?_
            with_unfolding_all refine thenQ_normal ?_
            with_unfolding_all refine TE_seq ?_
            with_unfolding_all refine TE_seqY ?_
            have hM124 := MB_none s106
            with_unfolding_all refine TX_move rfl ?_
            with_unfolding_all refine TX_ari rfl rfl rfl ?_
            with_unfolding_all refine TX_assign rfl ?_
            with_unfolding_all refine TX_nil ?_
            with_unfolding_all refine thenQ_normal ?_
            with_unfolding_all refine TE_exit ?_
            with_unfolding_all refine thenQ_exit ?_
            with_unfolding_all refine blockQ_out ?_
            obtain rfl := some_s hF
            exact iterQ_again ⟨s106, (hO107.sub 0 rfl), (Le_fr ⟨rfl, ⟨rfl, ⟨rfl, ⟨rfl, ⟨rfl, ⟨rfl, ⟨rfl, ⟨rfl, trivial⟩⟩⟩⟩⟩⟩⟩⟩)⟩
          · skip
            replace hF := ite_f hc113 hF
            with_unfolding_all refine TE_skip ?_
            with_unfolding_all refine thenQ_normal ?_
            with_unfolding_all refine TE_seq ?_
            obtain ⟨x125, h126, hF⟩ := bind_s hF
            obtain ⟨x127, h128, hF⟩ := bind_s hF
            obtain ⟨x129, h130, hF⟩ := bind_s hF
            with_unfolding_all refine TE_seqY ?_
            have hM131 := MB_none s106
            with_unfolding_all refine TX_move rfl ?_
            with_unfolding_all refine TX_move rfl ?_
            have hc132 : CallE Try.prog 12 [.int .i32 (x98.1)] s106 _ := utf_Low_ok h126 rfl
            with_unfolding_all refine TY_call hM131 rfl en12 hc132 ?_
            intro v133 s137 hv134 hX135 hM136
            have hO138 := hO107.ext_call hX135
            obtain rfl := hv134
            have hc139 : CallE Try.prog 17 [.int .i32 (x125)] s137 _ := law02_bytes_ok h128 rfl
            with_unfolding_all refine TY_call hM136 rfl en17 hc139 ?_
            intro v140 s144 hv141 hX142 hM143
            have hO145 := hO138.ext_call hX142
            obtain rfl := hv141
            with_unfolding_all refine TY_scat rfl rfl h130 ?_
            with_unfolding_all refine TX_assign rfl ?_
            with_unfolding_all refine TX_nil ?_
            with_unfolding_all refine thenQ_normal ?_
            with_unfolding_all refine TE_seqY ?_
            have hM146 := MB_none s144
            with_unfolding_all refine TX_move rfl ?_
            with_unfolding_all refine TX_move rfl ?_
            with_unfolding_all refine TX_ari rfl rfl rfl ?_
            with_unfolding_all refine TX_assign rfl ?_
            with_unfolding_all refine TX_nil ?_
            with_unfolding_all refine blockQ_normal ?_
            obtain rfl := some_s hF
            exact iterQ_again ⟨s144, (hO145.sub 0 rfl), (Le_fr ⟨rfl, ⟨rfl, ⟨rfl, ⟨rfl, ⟨rfl, ⟨rfl, ⟨rfl, ⟨rfl, trivial⟩⟩⟩⟩⟩⟩⟩⟩)⟩
        · skip
          replace hF := ite_f hc95 hF
          with_unfolding_all refine TE_exit ?_
          with_unfolding_all refine thenQ_exit ?_
          obtain rfl := some_s hF
          exact iterQ_exit (⟨rfl, s86, (hO87.sub 0 rfl), (Le_fr ⟨rfl, ⟨rfl, ⟨rfl, ⟨rfl, ⟨rfl, ⟨rfl, ⟨rfl, trivial⟩⟩⟩⟩⟩⟩⟩)⟩)
      · skip
        rintro eq84 zq84 (⟨rfl, s89, hO90, hz147⟩)
        with_unfolding_all refine blockQ_out ?_
        with_unfolding_all refine thenQ_normal ?_
        refine TE_pre hz147 ?_
        with_unfolding_all refine TE_seq ?_
        obtain ⟨r148, h149, hF⟩ := bind_s hF
        obtain ⟨r150, h151, hF⟩ := bind_s hF
        obtain ⟨r152, h153, hF⟩ := bind_s hF
        obtain ⟨r156, h157, hF⟩ := bind_s hF
        with_unfolding_all refine TE_seqY ?_
        have hM158 := MB_none s89
        with_unfolding_all refine TX_move rfl ?_
        with_unfolding_all refine TX_move rfl ?_
        with_unfolding_all refine TY_scmp (a := x17) (b := x0_) rfl rfl rfl ?_
        with_unfolding_all refine TX_move rfl ?_
        with_unfolding_all refine TX_guard_t rfl rfl (fun hc159 => ?_) (fun hc159 => ?_)
        · skip
          replace h149 := and_t hc159 h149
          with_unfolding_all refine TX_move rfl ?_
          with_unfolding_all refine TX_guard_yes rfl rfl hc159 ?_
          with_unfolding_all refine TX_move rfl ?_
          with_unfolding_all refine TX_guard_yes rfl rfl hc159 ?_
          with_unfolding_all refine TY_scmp (a := x33) (b := p88.1) rfl rfl rfl ?_
          with_unfolding_all refine TX_pick_t rfl hc159 rfl ?_
          obtain rfl := some_s h149
          with_unfolding_all refine TX_move rfl ?_
          with_unfolding_all refine TX_guard_t rfl rfl (fun hc160 => ?_) (fun hc160 => ?_)
          · skip
            replace h151 := and_t hc160 h151
            with_unfolding_all refine TX_move rfl ?_
            with_unfolding_all refine TX_guard_yes rfl rfl hc160 ?_
            with_unfolding_all refine TX_move rfl ?_
            with_unfolding_all refine TX_guard_yes rfl rfl hc160 ?_
            with_unfolding_all refine TY_scmp (a := x49) (b := x33) rfl rfl rfl ?_
            with_unfolding_all refine TX_pick_t rfl hc160 rfl ?_
            obtain rfl := some_s h151
            with_unfolding_all refine TX_move rfl ?_
            with_unfolding_all refine TX_guard_t rfl rfl (fun hc161 => ?_) (fun hc161 => ?_)
            · skip
              replace h153 := and_t hc161 h153
              with_unfolding_all refine TX_move rfl ?_
              with_unfolding_all refine TX_guard_yes rfl rfl hc161 ?_
              with_unfolding_all refine TX_move rfl ?_
              with_unfolding_all refine TX_guard_yes rfl rfl hc161 ?_
              with_unfolding_all refine TY_scmp (a := x65) (b := p88.2) rfl rfl rfl ?_
              with_unfolding_all refine TX_pick_t rfl hc161 rfl ?_
              obtain rfl := some_s h153
              with_unfolding_all refine TX_move rfl ?_
              with_unfolding_all refine TX_guard_t rfl rfl (fun hc162 => ?_) (fun hc162 => ?_)
              · skip
                replace h157 := ite_t hc162 h157
                obtain ⟨x154, h155, h157⟩ := bind_s h157
                with_unfolding_all refine TX_move rfl ?_
                with_unfolding_all refine TX_guard_yes rfl rfl hc162 ?_
                with_unfolding_all refine TY_slen (s := p88.2) rfl rfl rfl rfl rfl ?_
                with_unfolding_all refine TX_guard_yes rfl rfl hc162 ?_
                with_unfolding_all refine TX_cmp rfl rfl rfl ?_
                with_unfolding_all refine TX_guard_yes rfl rfl hc162 ?_
                with_unfolding_all refine TX_move rfl ?_
                with_unfolding_all refine TX_guard_yes rfl rfl hc162 ?_
                have hc163 : CallE Try.prog 18 [.str (bs (x0_))] s89 _ := utf_Right_ok h155 rfl
                with_unfolding_all refine TY_call hM158 rfl en18 hc163 ?_
                intro v164 s168 hv165 hX166 hM167
                have hO169 := hO90.ext_call hX166
                obtain rfl := hv165
                with_unfolding_all refine TX_guard_yes rfl rfl hc162 ?_
                with_unfolding_all refine TX_beq rfl rfl rfl ?_
                with_unfolding_all refine TX_pick_t rfl hc162 rfl ?_
                obtain rfl := some_s h157
                with_unfolding_all refine TX_assign rfl ?_
                with_unfolding_all refine TX_nil ?_
                with_unfolding_all refine thenQ_normal ?_
                with_unfolding_all refine TE_ret ?_
                obtain rfl := some_s hF
                exact done_any (vs := [.bool ((((p88.2.length : Int) == 0) == x154))]) (.inr rfl) rfl (resR_tmp rfl resR_nil) ⟨rfl, hO169.ext⟩
              · skip
                replace h157 := ite_f hc162 h157
                obtain rfl := some_s h157
                with_unfolding_all refine TX_guard_no_t rfl rfl hc162 ?_
                with_unfolding_all refine TX_guard_no_t rfl rfl hc162 ?_
                with_unfolding_all refine TX_guard_no_t rfl rfl hc162 ?_
                with_unfolding_all refine TX_guard_no_t rfl rfl hc162 ?_
                with_unfolding_all refine TX_guard_no_t rfl rfl hc162 ?_
                with_unfolding_all refine TX_pick_f rfl hc162 rfl ?_
                with_unfolding_all refine TX_assign rfl ?_
                with_unfolding_all refine TX_nil ?_
                with_unfolding_all refine thenQ_normal ?_
                with_unfolding_all refine TE_ret ?_
                obtain rfl := some_s hF
                exact done_any (vs := [.bool (false)]) (.inr rfl) rfl (resR_tmp rfl resR_nil) ⟨rfl, hO90.ext⟩
            · skip
              replace h153 := and_f hc161 h153
              obtain rfl := some_s h153
              with_unfolding_all refine TX_guard_no_t rfl rfl hc161 ?_
              with_unfolding_all refine TX_guard_no_t rfl rfl hc161 ?_
              with_unfolding_all refine TX_pick_f rfl hc161 rfl ?_
              with_unfolding_all refine TX_move rfl ?_
              replace h157 := ite_f rfl h157
              obtain rfl := some_s h157
              with_unfolding_all refine TX_guard_no_t rfl rfl rfl ?_
              with_unfolding_all refine TX_guard_no_t rfl rfl rfl ?_
              with_unfolding_all refine TX_guard_no_t rfl rfl rfl ?_
              with_unfolding_all refine TX_guard_no_t rfl rfl rfl ?_
              with_unfolding_all refine TX_guard_no_t rfl rfl rfl ?_
              with_unfolding_all refine TX_guard_no_t rfl rfl rfl ?_
              with_unfolding_all refine TX_pick_f rfl rfl rfl ?_
              with_unfolding_all refine TX_assign rfl ?_
              with_unfolding_all refine TX_nil ?_
              with_unfolding_all refine thenQ_normal ?_
              with_unfolding_all refine TE_ret ?_
              obtain rfl := some_s hF
              exact done_any (vs := [.bool (false)]) (.inr rfl) rfl (resR_tmp rfl resR_nil) ⟨rfl, hO90.ext⟩
          · skip
            replace h151 := and_f hc160 h151
            obtain rfl := some_s h151
            with_unfolding_all refine TX_guard_no_t rfl rfl hc160 ?_
            with_unfolding_all refine TX_guard_no_t rfl rfl hc160 ?_
            with_unfolding_all refine TX_pick_f rfl hc160 rfl ?_
            with_unfolding_all refine TX_move rfl ?_
            replace h153 := and_f rfl h153
            obtain rfl := some_s h153
            with_unfolding_all refine TX_guard_no_t rfl rfl rfl ?_
            with_unfolding_all refine TX_guard_no_t rfl rfl rfl ?_
            with_unfolding_all refine TX_guard_no_t rfl rfl rfl ?_
            with_unfolding_all refine TX_pick_f rfl rfl rfl ?_
            with_unfolding_all refine TX_move rfl ?_
            replace h157 := ite_f rfl h157
            obtain rfl := some_s h157
            with_unfolding_all refine TX_guard_no_t rfl rfl rfl ?_
            with_unfolding_all refine TX_guard_no_t rfl rfl rfl ?_
            with_unfolding_all refine TX_guard_no_t rfl rfl rfl ?_
            with_unfolding_all refine TX_guard_no_t rfl rfl rfl ?_
            with_unfolding_all refine TX_guard_no_t rfl rfl rfl ?_
            with_unfolding_all refine TX_guard_no_t rfl rfl rfl ?_
            with_unfolding_all refine TX_pick_f rfl rfl rfl ?_
            with_unfolding_all refine TX_assign rfl ?_
            with_unfolding_all refine TX_nil ?_
            with_unfolding_all refine thenQ_normal ?_
            with_unfolding_all refine TE_ret ?_
            obtain rfl := some_s hF
            exact done_any (vs := [.bool (false)]) (.inr rfl) rfl (resR_tmp rfl resR_nil) ⟨rfl, hO90.ext⟩
        · skip
          replace h149 := and_f hc159 h149
          obtain rfl := some_s h149
          with_unfolding_all refine TX_guard_no_t rfl rfl hc159 ?_
          with_unfolding_all refine TX_guard_no_t rfl rfl hc159 ?_
          with_unfolding_all refine TX_pick_f rfl hc159 rfl ?_
          with_unfolding_all refine TX_move rfl ?_
          replace h151 := and_f rfl h151
          obtain rfl := some_s h151
          with_unfolding_all refine TX_guard_no_t rfl rfl rfl ?_
          with_unfolding_all refine TX_guard_no_t rfl rfl rfl ?_
          with_unfolding_all refine TX_guard_no_t rfl rfl rfl ?_
          with_unfolding_all refine TX_pick_f rfl rfl rfl ?_
          with_unfolding_all refine TX_move rfl ?_
          replace h153 := and_f rfl h153
          obtain rfl := some_s h153
          with_unfolding_all refine TX_guard_no_t rfl rfl rfl ?_
          with_unfolding_all refine TX_guard_no_t rfl rfl rfl ?_
          with_unfolding_all refine TX_guard_no_t rfl rfl rfl ?_
          with_unfolding_all refine TX_pick_f rfl rfl rfl ?_
          with_unfolding_all refine TX_move rfl ?_
          replace h157 := ite_f rfl h157
          obtain rfl := some_s h157
          with_unfolding_all refine TX_guard_no_t rfl rfl rfl ?_
          with_unfolding_all refine TX_guard_no_t rfl rfl rfl ?_
          with_unfolding_all refine TX_guard_no_t rfl rfl rfl ?_
          with_unfolding_all refine TX_guard_no_t rfl rfl rfl ?_
          with_unfolding_all refine TX_guard_no_t rfl rfl rfl ?_
          with_unfolding_all refine TX_guard_no_t rfl rfl rfl ?_
          with_unfolding_all refine TX_pick_f rfl rfl rfl ?_
          with_unfolding_all refine TX_assign rfl ?_
          with_unfolding_all refine TX_nil ?_
          with_unfolding_all refine thenQ_normal ?_
          with_unfolding_all refine TE_ret ?_
          obtain rfl := some_s hF
          exact done_any (vs := [.bool (false)]) (.inr rfl) rfl (resR_tmp rfl resR_nil) ⟨rfl, hO90.ext⟩
end Go.Proofs.Ytkhhmjikohonfaa.K
