/- Walks. Printed. -/
import Derived.Test.YtkhhmjikohonfaaGW3
namespace Go.Proofs.Ytkhhmjikohonfaa.K
open Go Go.RowKit F
set_option maxRecDepth 100000
set_option maxHeartbeats 4000000
set_option linter.unusedVariables false
set_option linter.unusedSimpArgs false
theorem law02_UtfPuts_ok {x0_ : Int} {x1_ : Str} {x2_ : Str} {y : Bool} (hF : F.law02_UtfPuts x0_ x1_ x2_ = some y) {v0_ : AV} {v1_ : AV} {v2_ : AV} {σ : Mem} (h0_ : (eI .i32).rel v0_ x0_) (h1_ : (RS eY) v1_ x1_) (h2_ : eS.rel v2_ x2_)  :
    CallE Try.prog 7 [v0_, v1_, v2_] σ (fun v σ' => eB.rel v y ∧ Ext σ σ') := by
  unfold F.law02_UtfPuts at hF
  obtain rfl := h0_
  obtain rfl := h2_
  refine CallE_of Try.func7 rfl Try.ntmps7 (by simp) ?_
  have hO0 := Own.start σ
  with_unfolding_all refine TE_seq ?_
  with_unfolding_all refine TE_seqY ?_
  have hM1 := MB_none σ
  with_unfolding_all refine TX_assign rfl ?_
  with_unfolding_all refine TX_nil ?_
  with_unfolding_all refine thenQ_normal ?_
  with_unfolding_all refine TE_seq ?_
  with_unfolding_all refine TE_seq ?_
  obtain ⟨x2, h3, hF⟩ := bind_s hF
  with_unfolding_all refine TE_seqY ?_
  have hM4 := MB_none σ
  have hc5 : CallE Try.prog 11 [] σ _ := law02_head_ok h3 
  with_unfolding_all refine TY_call hM4 rfl en11 hc5 ?_
  intro v6 s10 hv7 hX8 hM9
  have hO11 := hO0.ext_call hX8
  obtain rfl := hv7
  with_unfolding_all refine TX_not rfl ?_
  with_unfolding_all refine TX_nil ?_
  with_unfolding_all refine thenQ_normal ?_
  with_unfolding_all refine TE_cond rfl (fun hc12 => ?_) (fun hc12 => ?_)
  · skip
    replace hF := ite_t hc12 hF
    with_unfolding_all refine TE_seq ?_
    with_unfolding_all refine TE_seqY ?_
    have hM13 := MB_none s10
    with_unfolding_all refine TX_assign rfl ?_
    with_unfolding_all refine TX_nil ?_
    with_unfolding_all refine thenQ_normal ?_
    with_unfolding_all refine TE_ret ?_
    with_unfolding_all refine thenQ_ret ?_
    obtain rfl := some_s hF
    exact done_any (vs := [.bool (false)]) (.inr rfl) rfl (resR_tmp rfl resR_nil) ⟨rfl, hO11.ext⟩
  · skip
    replace hF := ite_f hc12 hF
    with_unfolding_all refine TE_skip ?_
    with_unfolding_all refine thenQ_normal ?_
    with_unfolding_all refine TE_seq ?_
    with_unfolding_all refine TE_seq ?_
    obtain ⟨r14, h15, hF⟩ := bind_s hF
    refine TE_cutQ (fun z => ∃ (s17 : Mem), Own σ [] s17 [] ∧ Le z ⟨fr 66 [(0, .int .i32 (x0_)), (1, v1_), (2, .str (bs (x2_))), (19, .bool (r14))], [], s17⟩) ?_ ?_
    · skip
      with_unfolding_all refine TE_seqY ?_
      have hM20 := MB_none s10
      with_unfolding_all refine TX_move rfl ?_
      with_unfolding_all refine TY_len rfl rfl rfl rfl h1_ rfl ?_
      with_unfolding_all refine TX_cmp rfl rfl rfl ?_
      with_unfolding_all refine TX_move rfl ?_
      with_unfolding_all refine TX_guard_f rfl rfl (fun hc21 => ?_) (fun hc21 => ?_)
      · skip
        replace h15 := or_t hc21 h15
        obtain rfl := some_s h15
        with_unfolding_all refine TX_guard_no_f rfl rfl hc21 ?_
        with_unfolding_all refine TX_guard_no_f rfl rfl hc21 ?_
        with_unfolding_all refine TX_pick_t rfl hc21 rfl ?_
        with_unfolding_all refine TX_nil ?_
        exact joinQ_normal ⟨s10, (hO11.sub 0 rfl), (Le_fr ⟨rfl, ⟨rfl, ⟨rfl, ⟨rfl, trivial⟩⟩⟩⟩)⟩
      · skip
        replace h15 := or_f hc21 h15
        with_unfolding_all refine TX_move rfl ?_
        with_unfolding_all refine TX_guard_yes rfl rfl hc21 ?_
        with_unfolding_all refine TY_slen (s := x2_) rfl rfl rfl rfl rfl ?_
        with_unfolding_all refine TX_guard_yes rfl rfl hc21 ?_
        with_unfolding_all refine TX_cmp rfl rfl rfl ?_
        with_unfolding_all refine TX_pick_f rfl hc21 rfl ?_
        obtain rfl := some_s h15
        with_unfolding_all refine TX_nil ?_
        exact joinQ_normal ⟨s10, (hO11.sub 0 rfl), (Le_fr ⟨rfl, ⟨rfl, ⟨rfl, ⟨rfl, trivial⟩⟩⟩⟩)⟩
    · skip
      rintro zj16 ⟨s17, hO18, hz19⟩
      with_unfolding_all refine thenQ_normal ?_
      refine TE_pre hz19 ?_
      with_unfolding_all refine TE_cond rfl (fun hc22 => ?_) (fun hc22 => ?_)
      · skip
        replace hF := ite_t hc22 hF
        with_unfolding_all refine TE_seq ?_
        with_unfolding_all refine TE_seqY ?_
        have hM23 := MB_none s17
        with_unfolding_all refine TX_assign rfl ?_
        with_unfolding_all refine TX_nil ?_
        with_unfolding_all refine thenQ_normal ?_
        with_unfolding_all refine TE_ret ?_
        with_unfolding_all refine thenQ_ret ?_
        obtain rfl := some_s hF
        exact done_any (vs := [.bool (true)]) (.inr rfl) rfl (resR_tmp rfl resR_nil) ⟨rfl, hO18.ext⟩
      · skip
        replace hF := ite_f hc22 hF
        with_unfolding_all refine TE_skip ?_
        with_unfolding_all refine thenQ_normal ?_
        with_unfolding_all refine TE_seq ?_
        obtain ⟨x24, h25, hF⟩ := bind_s hF
        obtain ⟨x26, h27, hF⟩ := bind_s hF
        with_unfolding_all refine TE_seqY ?_
        have hM28 := MB_none s17
        have h29 : All2 eY.rel ([] : List AV) ([] : Str) := trivial
        with_unfolding_all refine TY_buildSlice rfl rfl rfl rfl rfl h29 rfl (by decide) (by with_unfolding_all exact Nat.le_of_ble_eq_true rfl) ?_
        have h30 : RS eY (.sl [] .full) ([] : Str) := RS.of h29
        with_unfolding_all refine TX_move rfl ?_
        have hO31 : Own σ [] s17 [.buf (.sl [] .full)] := hO18.bufFull []
        with_unfolding_all refine TY_append appT30_30 hO31 hM28 rfl rfl rfl rfl h30 rfl h1_ h25 ?_
        rintro u32 s34 (h33 : RS eY u32 x24) (hO35 : Own σ [] s34 [.buf u32]) hM36
        with_unfolding_all refine TX_move rfl ?_
        have hc37 : CallE Try.prog 19 [u32, .int .i32 (x0_)] s34 _ := utf_Put_ok h27 h33 rfl (hO35.ok _ List.mem_cons_self)
        with_unfolding_all refine TY_callB (u := u32) hM36 (hO35.ok _ List.mem_cons_self) rfl en19 hc37 (fun _ _ h => ⟨_, h.2⟩) ?_
        rintro v38 s42 ⟨hv39, hX40⟩ hM41
        have hO43 : Own σ [] s42 [.buf v38] := Own.call (A := [.buf u32]) hO35 hX40
        with_unfolding_all refine TX_assign rfl ?_
        with_unfolding_all refine TX_nil ?_
        with_unfolding_all refine thenQ_normal ?_
        with_unfolding_all refine TE_seq ?_
        with_unfolding_all refine TE_seq ?_
        obtain ⟨x44, h45, hF⟩ := bind_s hF
        with_unfolding_all refine TE_seqY ?_
        have hM46 := MB_none s42
        with_unfolding_all refine TX_move rfl ?_
        have hc47 : CallE Try.prog 16 [.int .i32 (x0_)] s42 _ := law02_sign_ok h45 rfl
        with_unfolding_all refine TY_call hM46 rfl en16 hc47 ?_
        intro v48 s52 hv49 hX50 hM51
        have hO53 := hO43.ext_call hX50
        obtain rfl := hv49
        with_unfolding_all refine TX_not rfl ?_
        with_unfolding_all refine TX_nil ?_
        with_unfolding_all refine thenQ_normal ?_
        with_unfolding_all refine TE_cond rfl (fun hc54 => ?_) (fun hc54 => ?_)
        · skip
          replace hF := ite_t hc54 hF
          with_unfolding_all refine TE_seq ?_
          with_unfolding_all refine TE_seqY ?_
          have hM55 := MB_none s52
          with_unfolding_all refine TX_move rfl ?_
          with_unfolding_all refine TY_conv_text rfl rfl rfl rfl hv39 ?_
          with_unfolding_all refine TX_move rfl ?_
          with_unfolding_all refine TY_conv_text rfl rfl rfl rfl h1_ ?_
          with_unfolding_all refine TY_scmp (a := x26) (b := x1_) rfl rfl rfl ?_
          with_unfolding_all refine TX_assign rfl ?_
          with_unfolding_all refine TX_nil ?_
          with_unfolding_all refine thenQ_normal ?_
          with_unfolding_all refine TE_ret ?_
          with_unfolding_all refine thenQ_ret ?_
          obtain rfl := some_s hF
          exact done_any (vs := [.bool ((x26 == x1_))]) (.inr rfl) rfl (resR_tmp rfl resR_nil) ⟨rfl, hO53.ext⟩
        · skip
          replace hF := ite_f hc54 hF
          with_unfolding_all refine TE_skip ?_
          with_unfolding_all refine thenQ_normal ?_
          with_unfolding_all refine TE_seq ?_
          obtain ⟨x56, h57, hF⟩ := bind_s hF
          obtain ⟨x58, h59, hF⟩ := bind_s hF
          obtain ⟨x60, h61, hF⟩ := bind_s hF
          with_unfolding_all refine TE_seqY ?_
          have hM62 := MB_none s52
          with_unfolding_all refine TX_move rfl ?_
          have hc63 : CallE Try.prog 17 [.int .i32 (x0_)] s52 _ := law02_bytes_ok h57 rfl
          with_unfolding_all refine TY_call hM62 rfl en17 hc63 ?_
          intro v64 s68 hv65 hX66 hM67
          have hO69 := hO53.ext_call hX66
          obtain rfl := hv65
          with_unfolding_all refine TX_move rfl ?_
          with_unfolding_all refine TY_scat rfl rfl h59 ?_
          have hc70 : CallE Try.prog 15 [.str (bs (x58))] s68 _ := utf_Next_ok h61 rfl
          with_unfolding_all refine TY_call hM67 rfl en15 hc70 ?_
          intro v71 s75 hv72 hX73 hM74
          have hO76 := hO69.ext_call hX73
          obtain ⟨v77, v78, rfl, h79, h80⟩ := hv72
          obtain rfl := h79
          obtain rfl := h80
          with_unfolding_all refine TX_move rfl ?_
          with_unfolding_all refine TX_extract rfl rfl ?_
          with_unfolding_all refine TX_extract rfl rfl ?_
          with_unfolding_all refine TX_assign rfl ?_
          with_unfolding_all refine TX_assign rfl ?_
          with_unfolding_all refine TX_nil ?_
          with_unfolding_all refine thenQ_normal ?_
          with_unfolding_all refine TE_seq ?_
          obtain ⟨x81, h82, hF⟩ := bind_s hF
          obtain ⟨x83, h84, hF⟩ := bind_s hF
          obtain ⟨r85, h86, hF⟩ := bind_s hF
          obtain ⟨r89, h90, hF⟩ := bind_s hF
          obtain ⟨r95, h96, hF⟩ := bind_s hF
          have hB97 : Bs [] s75 := Bs.nil _
          with_unfolding_all refine TE_drawY [] (by with_unfolding_all rfl) (by kernel_rfl) hB97 ?_
          have hM98 := MB_some hB97
          with_unfolding_all refine TX_move rfl ?_
          with_unfolding_all refine TY_conv_text rfl rfl rfl rfl hv39 ?_
          with_unfolding_all refine TX_move rfl ?_
          with_unfolding_all refine TY_conv_text rfl rfl rfl rfl h1_ ?_
          with_unfolding_all refine TX_move rfl ?_
          have hc99 : CallE Try.prog 17 [.int .i32 (x0_)] s75 _ := law02_bytes_ok h82 rfl
          with_unfolding_all refine TY_call hM98 rfl en17 hc99 ?_
          intro v100 s104 hv101 hX102 hM103
          have hO105 := hO76.ext_call hX102
          obtain rfl := hv101
          with_unfolding_all refine TY_scat rfl rfl h84 ?_
          with_unfolding_all refine TY_scmp (a := x26) (b := x83) rfl rfl rfl ?_
          with_unfolding_all refine TX_move rfl ?_
          with_unfolding_all refine TX_guard_t rfl rfl (fun hc106 => ?_) (fun hc106 => ?_)
          · skip
            replace h86 := and_t hc106 h86
            with_unfolding_all refine TX_move rfl ?_
            with_unfolding_all refine TX_guard_yes rfl rfl hc106 ?_
            with_unfolding_all refine TX_move rfl ?_
            with_unfolding_all refine TX_guard_yes rfl rfl hc106 ?_
            with_unfolding_all refine TX_cmp rfl rfl rfl ?_
            with_unfolding_all refine TX_pick_t rfl hc106 rfl ?_
            obtain rfl := some_s h86
            with_unfolding_all refine TX_move rfl ?_
            with_unfolding_all refine TX_guard_t rfl rfl (fun hc107 => ?_) (fun hc107 => ?_)
            · skip
              replace h90 := ite_t hc107 h90
              obtain ⟨x87, h88, h90⟩ := bind_s h90
              with_unfolding_all refine TX_move rfl ?_
              with_unfolding_all refine TX_guard_yes rfl rfl hc107 ?_
              with_unfolding_all refine TX_move rfl ?_
              with_unfolding_all refine TX_guard_yes rfl rfl hc107 ?_
              have hc108 : CallE Try.prog 17 [.int .i32 (x0_)] s104 _ := law02_bytes_ok h88 rfl
              with_unfolding_all refine TY_call hM103 rfl en17 hc108 ?_
              intro v109 s113 hv110 hX111 hM112
              have hO114 := hO105.ext_call hX111
              obtain rfl := hv110
              with_unfolding_all refine TX_guard_yes rfl rfl hc107 ?_
              with_unfolding_all refine TY_slen (s := x87) rfl rfl rfl rfl rfl ?_
              with_unfolding_all refine TX_guard_yes rfl rfl hc107 ?_
              with_unfolding_all refine TX_cmp rfl rfl rfl ?_
              with_unfolding_all refine TX_pick_t rfl hc107 rfl ?_
              obtain rfl := some_s h90
              with_unfolding_all refine TX_move rfl ?_
              with_unfolding_all refine TX_guard_t rfl rfl (fun hc115 => ?_) (fun hc115 => ?_)
              · skip
                replace h96 := ite_t hc115 h96
                obtain ⟨x91, h92, h96⟩ := bind_s h96
                obtain ⟨x93, h94, h96⟩ := bind_s h96
                with_unfolding_all refine TX_move rfl ?_
                with_unfolding_all refine TX_guard_yes rfl rfl hc115 ?_
                have hc116 : CallE Try.prog 17 [.int .i32 (x0_)] s113 _ := law02_bytes_ok h92 rfl
                with_unfolding_all refine TY_call hM112 rfl en17 hc116 ?_
                intro v117 s121 hv118 hX119 hM120
                have hO122 := hO114.ext_call hX119
                obtain rfl := hv118
                with_unfolding_all refine TX_guard_yes rfl rfl hc115 ?_
                have hc123 : CallE Try.prog 18 [.str (bs (x91))] s121 _ := utf_Right_ok h94 rfl
                with_unfolding_all refine TY_call hM120 rfl en18 hc123 ?_
                intro v124 s128 hv125 hX126 hM127
                have hO129 := hO122.ext_call hX126
                obtain rfl := hv125
                with_unfolding_all refine TX_pick_t rfl hc115 rfl ?_
                obtain rfl := some_s h96
                with_unfolding_all refine TX_assign rfl ?_
                with_unfolding_all refine TX_nil ?_
                with_unfolding_all refine thenQ_normal ?_
                with_unfolding_all refine TE_ret ?_
                obtain rfl := some_s hF
                exact done_any (vs := [.bool (x93)]) (.inr rfl) rfl (resR_tmp rfl resR_nil) ⟨rfl, hO129.ext⟩
              · skip
                replace h96 := ite_f hc115 h96
                obtain rfl := some_s h96
                with_unfolding_all refine TX_guard_no_t rfl rfl hc115 ?_
                with_unfolding_all refine TX_guard_no_t rfl rfl hc115 ?_
                with_unfolding_all refine TX_pick_f rfl hc115 rfl ?_
                with_unfolding_all refine TX_assign rfl ?_
                with_unfolding_all refine TX_nil ?_
                with_unfolding_all refine thenQ_normal ?_
                with_unfolding_all refine TE_ret ?_
                obtain rfl := some_s hF
                exact done_any (vs := [.bool (false)]) (.inr rfl) rfl (resR_tmp rfl resR_nil) ⟨rfl, hO114.ext⟩
            · skip
              replace h90 := ite_f hc107 h90
              obtain rfl := some_s h90
              with_unfolding_all refine TX_guard_no_t rfl rfl hc107 ?_
              with_unfolding_all refine TX_guard_no_t rfl rfl hc107 ?_
              with_unfolding_all refine TX_guard_no_t rfl rfl hc107 ?_
              with_unfolding_all refine TX_guard_no_t rfl rfl hc107 ?_
              with_unfolding_all refine TX_pick_f rfl hc107 rfl ?_
              with_unfolding_all refine TX_move rfl ?_
              replace h96 := ite_f rfl h96
              obtain rfl := some_s h96
              with_unfolding_all refine TX_guard_no_t rfl rfl rfl ?_
              with_unfolding_all refine TX_guard_no_t rfl rfl rfl ?_
              with_unfolding_all refine TX_guard_no_t rfl rfl rfl ?_
              with_unfolding_all refine TX_pick_f rfl rfl rfl ?_
              with_unfolding_all refine TX_assign rfl ?_
              with_unfolding_all refine TX_nil ?_
              with_unfolding_all refine thenQ_normal ?_
              with_unfolding_all refine TE_ret ?_
              obtain rfl := some_s hF
              exact done_any (vs := [.bool (false)]) (.inr rfl) rfl (resR_tmp rfl resR_nil) ⟨rfl, hO105.ext⟩
          · skip
            replace h86 := and_f hc106 h86
            obtain rfl := some_s h86
            with_unfolding_all refine TX_guard_no_t rfl rfl hc106 ?_
            with_unfolding_all refine TX_guard_no_t rfl rfl hc106 ?_
            with_unfolding_all refine TX_pick_f rfl hc106 rfl ?_
            with_unfolding_all refine TX_move rfl ?_
            replace h90 := ite_f rfl h90
            obtain rfl := some_s h90
            with_unfolding_all refine TX_guard_no_t rfl rfl rfl ?_
            with_unfolding_all refine TX_guard_no_t rfl rfl rfl ?_
            with_unfolding_all refine TX_guard_no_t rfl rfl rfl ?_
            with_unfolding_all refine TX_guard_no_t rfl rfl rfl ?_
            with_unfolding_all refine TX_guard_no_t rfl rfl rfl ?_
            with_unfolding_all refine TX_pick_f rfl rfl rfl ?_
            with_unfolding_all refine TX_move rfl ?_
            replace h96 := ite_f rfl h96
            obtain rfl := some_s h96
            with_unfolding_all refine TX_guard_no_t rfl rfl rfl ?_
            with_unfolding_all refine TX_guard_no_t rfl rfl rfl ?_
            with_unfolding_all refine TX_guard_no_t rfl rfl rfl ?_
            with_unfolding_all refine TX_pick_f rfl rfl rfl ?_
            with_unfolding_all refine TX_assign rfl ?_
            with_unfolding_all refine TX_nil ?_
            with_unfolding_all refine thenQ_normal ?_
            with_unfolding_all refine TE_ret ?_
            obtain rfl := some_s hF
            exact done_any (vs := [.bool (false)]) (.inr rfl) rfl (resR_tmp rfl resR_nil) ⟨rfl, hO105.ext⟩
theorem law02_UtfJoins_ok {x0_ : Str} {x1_ : Str} {x2_ : Int} {y : Bool} (hF : F.law02_UtfJoins x0_ x1_ x2_ = some y) {v0_ : AV} {v1_ : AV} {v2_ : AV} {σ : Mem} (h0_ : eS.rel v0_ x0_) (h1_ : eS.rel v1_ x1_) (h2_ : (eI .i32).rel v2_ x2_)  :
    CallE Try.prog 8 [v0_, v1_, v2_] σ (fun v σ' => eB.rel v y ∧ Ext σ σ') := by
  unfold F.law02_UtfJoins at hF
  obtain rfl := h0_
  obtain rfl := h1_
  obtain rfl := h2_
  refine CallE_of Try.func8 rfl Try.ntmps8 (by simp) ?_
  have hO0 := Own.start σ
  with_unfolding_all refine TE_seq ?_
  with_unfolding_all refine TE_seqY ?_
  have hM1 := MB_none σ
  with_unfolding_all refine TX_assign rfl ?_
  with_unfolding_all refine TX_nil ?_
  with_unfolding_all refine thenQ_normal ?_
  with_unfolding_all refine TE_seq ?_
  with_unfolding_all refine TE_seq ?_
  obtain ⟨x2, h3, hF⟩ := bind_s hF
  with_unfolding_all refine TE_seqY ?_
  have hM4 := MB_none σ
  have hc5 : CallE Try.prog 11 [] σ _ := law02_head_ok h3 
  with_unfolding_all refine TY_call hM4 rfl en11 hc5 ?_
  intro v6 s10 hv7 hX8 hM9
  have hO11 := hO0.ext_call hX8
  obtain rfl := hv7
  with_unfolding_all refine TX_not rfl ?_
  with_unfolding_all refine TX_nil ?_
  with_unfolding_all refine thenQ_normal ?_
  with_unfolding_all refine TE_cond rfl (fun hc12 => ?_) (fun hc12 => ?_)
  · skip
    replace hF := ite_t hc12 hF
    with_unfolding_all refine TE_seq ?_
    with_unfolding_all refine TE_seqY ?_
    have hM13 := MB_none s10
    with_unfolding_all refine TX_assign rfl ?_
    with_unfolding_all refine TX_nil ?_
    with_unfolding_all refine thenQ_normal ?_
    with_unfolding_all refine TE_ret ?_
    with_unfolding_all refine thenQ_ret ?_
    obtain rfl := some_s hF
    exact done_any (vs := [.bool (false)]) (.inr rfl) rfl (resR_tmp rfl resR_nil) ⟨rfl, hO11.ext⟩
  · skip
    replace hF := ite_f hc12 hF
    with_unfolding_all refine TE_skip ?_
    with_unfolding_all refine thenQ_normal ?_
    with_unfolding_all refine TE_seq ?_
    with_unfolding_all refine TE_seq ?_
    obtain ⟨r14, h15, hF⟩ := bind_s hF
    obtain ⟨r18, h19, hF⟩ := bind_s hF
    obtain ⟨r22, h23, hF⟩ := bind_s hF
    refine TE_cutQ (fun z => ∃ (s25 : Mem), Own σ [] s25 [] ∧ Le z ⟨fr 78 [(0, .str (bs (x0_))), (1, .str (bs (x1_))), (2, .int .i32 (x2_)), (27, .bool (r22))], [], s25⟩) ?_ ?_
    · skip
      with_unfolding_all refine TE_seqY ?_
      have hM28 := MB_none s10
      with_unfolding_all refine TX_move rfl ?_
      with_unfolding_all refine TY_slen (s := x0_) rfl rfl rfl rfl rfl ?_
      with_unfolding_all refine TX_cmp rfl rfl rfl ?_
      with_unfolding_all refine TX_move rfl ?_
      with_unfolding_all refine TX_guard_f rfl rfl (fun hc29 => ?_) (fun hc29 => ?_)
      · skip
        replace h15 := or_t hc29 h15
        obtain rfl := some_s h15
        with_unfolding_all refine TX_guard_no_f rfl rfl hc29 ?_
        with_unfolding_all refine TX_guard_no_f rfl rfl hc29 ?_
        with_unfolding_all refine TX_pick_t rfl hc29 rfl ?_
        with_unfolding_all refine TX_move rfl ?_
        replace h19 := ite_t rfl h19
        obtain rfl := some_s h19
        with_unfolding_all refine TX_guard_no_f rfl rfl rfl ?_
        with_unfolding_all refine TX_guard_no_f rfl rfl rfl ?_
        with_unfolding_all refine TX_guard_no_f rfl rfl rfl ?_
        with_unfolding_all refine TX_pick_t rfl rfl rfl ?_
        with_unfolding_all refine TX_move rfl ?_
        replace h23 := ite_t rfl h23
        obtain rfl := some_s h23
        with_unfolding_all refine TX_guard_no_f rfl rfl rfl ?_
        with_unfolding_all refine TX_guard_no_f rfl rfl rfl ?_
        with_unfolding_all refine TX_guard_no_f rfl rfl rfl ?_
        with_unfolding_all refine TX_pick_t rfl rfl rfl ?_
        with_unfolding_all refine TX_nil ?_
        exact joinQ_normal ⟨s10, (hO11.sub 0 rfl), (Le_fr ⟨rfl, ⟨rfl, ⟨rfl, ⟨rfl, trivial⟩⟩⟩⟩)⟩
      · skip
        replace h15 := or_f hc29 h15
        with_unfolding_all refine TX_move rfl ?_
        with_unfolding_all refine TX_guard_yes rfl rfl hc29 ?_
        with_unfolding_all refine TY_slen (s := x1_) rfl rfl rfl rfl rfl ?_
        with_unfolding_all refine TX_guard_yes rfl rfl hc29 ?_
        with_unfolding_all refine TX_cmp rfl rfl rfl ?_
        with_unfolding_all refine TX_pick_f rfl hc29 rfl ?_
        obtain rfl := some_s h15
        with_unfolding_all refine TX_move rfl ?_
        with_unfolding_all refine TX_guard_f rfl rfl (fun hc30 => ?_) (fun hc30 => ?_)
        · skip
          replace h19 := ite_t hc30 h19
          obtain rfl := some_s h19
          with_unfolding_all refine TX_guard_no_f rfl rfl hc30 ?_
          with_unfolding_all refine TX_guard_no_f rfl rfl hc30 ?_
          with_unfolding_all refine TX_pick_t rfl hc30 rfl ?_
          with_unfolding_all refine TX_move rfl ?_
          replace h23 := ite_t rfl h23
          obtain rfl := some_s h23
          with_unfolding_all refine TX_guard_no_f rfl rfl rfl ?_
          with_unfolding_all refine TX_guard_no_f rfl rfl rfl ?_
          with_unfolding_all refine TX_guard_no_f rfl rfl rfl ?_
          with_unfolding_all refine TX_pick_t rfl rfl rfl ?_
          with_unfolding_all refine TX_nil ?_
          exact joinQ_normal ⟨s10, (hO11.sub 0 rfl), (Le_fr ⟨rfl, ⟨rfl, ⟨rfl, ⟨rfl, trivial⟩⟩⟩⟩)⟩
        · skip
          replace h19 := ite_f hc30 h19
          obtain ⟨x16, h17, h19⟩ := bind_s h19
          with_unfolding_all refine TX_move rfl ?_
          with_unfolding_all refine TX_guard_yes rfl rfl hc30 ?_
          have hc31 : CallE Try.prog 18 [.str (bs (x0_))] s10 _ := utf_Right_ok h17 rfl
          with_unfolding_all refine TY_call hM28 rfl en18 hc31 ?_
          intro v32 s36 hv33 hX34 hM35
          have hO37 := hO11.ext_call hX34
          obtain rfl := hv33
          with_unfolding_all refine TX_guard_yes rfl rfl hc30 ?_
          with_unfolding_all refine TX_not rfl ?_
          with_unfolding_all refine TX_pick_f rfl hc30 rfl ?_
          obtain rfl := some_s h19
          with_unfolding_all refine TX_move rfl ?_
          with_unfolding_all refine TX_guard_f rfl rfl (fun hc38 => ?_) (fun hc38 => ?_)
          · skip
            replace h23 := ite_t hc38 h23
            obtain rfl := some_s h23
            with_unfolding_all refine TX_guard_no_f rfl rfl hc38 ?_
            with_unfolding_all refine TX_guard_no_f rfl rfl hc38 ?_
            with_unfolding_all refine TX_pick_t rfl hc38 rfl ?_
            with_unfolding_all refine TX_nil ?_
            exact joinQ_normal ⟨s36, (hO37.sub 0 rfl), (Le_fr ⟨rfl, ⟨rfl, ⟨rfl, ⟨rfl, trivial⟩⟩⟩⟩)⟩
          · skip
            replace h23 := ite_f hc38 h23
            obtain ⟨x20, h21, h23⟩ := bind_s h23
            with_unfolding_all refine TX_move rfl ?_
            with_unfolding_all refine TX_guard_yes rfl rfl hc38 ?_
            have hc39 : CallE Try.prog 18 [.str (bs (x1_))] s36 _ := utf_Right_ok h21 rfl
            with_unfolding_all refine TY_call hM35 rfl en18 hc39 ?_
            intro v40 s44 hv41 hX42 hM43
            have hO45 := hO37.ext_call hX42
            obtain rfl := hv41
            with_unfolding_all refine TX_guard_yes rfl rfl hc38 ?_
            with_unfolding_all refine TX_not rfl ?_
            with_unfolding_all refine TX_pick_f rfl hc38 rfl ?_
            obtain rfl := some_s h23
            with_unfolding_all refine TX_nil ?_
            exact joinQ_normal ⟨s44, (hO45.sub 0 rfl), (Le_fr ⟨rfl, ⟨rfl, ⟨rfl, ⟨rfl, trivial⟩⟩⟩⟩)⟩
    · skip
      rintro zj24 ⟨s25, hO26, hz27⟩
      with_unfolding_all refine thenQ_normal ?_
      refine TE_pre hz27 ?_
      with_unfolding_all refine TE_cond rfl (fun hc46 => ?_) (fun hc46 => ?_)
      · skip
        replace hF := ite_t hc46 hF
        with_unfolding_all refine TE_seq ?_
        with_unfolding_all refine TE_seqY ?_
        have hM47 := MB_none s25
        with_unfolding_all refine TX_assign rfl ?_
        with_unfolding_all refine TX_nil ?_
        with_unfolding_all refine thenQ_normal ?_
        with_unfolding_all refine TE_ret ?_
        with_unfolding_all refine thenQ_ret ?_
        obtain rfl := some_s hF
        exact done_any (vs := [.bool (true)]) (.inr rfl) rfl (resR_tmp rfl resR_nil) ⟨rfl, hO26.ext⟩
      · skip
        replace hF := ite_f hc46 hF
        with_unfolding_all refine TE_skip ?_
        with_unfolding_all refine thenQ_normal ?_
        with_unfolding_all refine TE_seq ?_
        obtain ⟨x48, h49, hF⟩ := bind_s hF
        with_unfolding_all refine TE_seqY ?_
        have hM50 := MB_none s25
        with_unfolding_all refine TX_move rfl ?_
        have hO51 : Own σ [] s25 [.buf .nils] := hO26.buf0
        have hc52 : CallE Try.prog 19 [.nils, .int .i32 (x2_)] s25 _ := utf_Put_ok h49 (RS.nil _) rfl (hO51.ok _ List.mem_cons_self)
        with_unfolding_all refine TY_callB (u := .nils) hM50 (hO51.ok _ List.mem_cons_self) rfl en19 hc52 (fun _ _ h => ⟨_, h.2⟩) ?_
        rintro v53 s57 ⟨hv54, hX55⟩ hM56
        have hO58 : Own σ [] s57 [.buf v53] := Own.call (A := [.buf .nils]) hO51 hX55
        with_unfolding_all refine TY_conv_text rfl rfl rfl rfl hv54 ?_
        with_unfolding_all refine TX_assign rfl ?_
        with_unfolding_all refine TX_nil ?_
        with_unfolding_all refine thenQ_normal ?_
        with_unfolding_all refine TE_seq ?_
        with_unfolding_all refine TE_seq ?_
        obtain ⟨x59, h60, hF⟩ := bind_s hF
        obtain ⟨x61, h62, hF⟩ := bind_s hF
        obtain ⟨r69, h70, hF⟩ := bind_s hF
        obtain ⟨r75, h76, hF⟩ := bind_s hF
        refine TE_cutQ (fun z => ∃ (s78 : Mem), Own σ [] s78 [.buf v53] ∧ Le z ⟨fr 78 [(0, .str (bs (x0_))), (1, .str (bs (x1_))), (7, .str (bs (x48))), (47, .bool (r75))], [], s78⟩) ?_ ?_
        · skip
          with_unfolding_all refine TE_seqY ?_
          have hM81 := MB_none s57
          with_unfolding_all refine TX_move rfl ?_
          with_unfolding_all refine TX_move rfl ?_
          with_unfolding_all refine TY_scat rfl rfl h60 ?_
          have hc82 : CallE Try.prog 18 [.str (bs (x59))] s57 _ := utf_Right_ok h62 rfl
          with_unfolding_all refine TY_call hM81 rfl en18 hc82 ?_
          intro v83 s87 hv84 hX85 hM86
          have hO88 := hO58.ext_call hX85
          obtain rfl := hv84
          with_unfolding_all refine TX_not rfl ?_
          with_unfolding_all refine TX_move rfl ?_
          with_unfolding_all refine TX_guard_f rfl rfl (fun hc89 => ?_) (fun hc89 => ?_)
          · skip
            replace h70 := ite_t hc89 h70
            obtain rfl := some_s h70
            with_unfolding_all refine TX_guard_no_f rfl rfl hc89 ?_
            with_unfolding_all refine TX_guard_no_f rfl rfl hc89 ?_
            with_unfolding_all refine TX_guard_no_f rfl rfl hc89 ?_
            with_unfolding_all refine TX_guard_no_f rfl rfl hc89 ?_
            with_unfolding_all refine TX_pick_t rfl hc89 rfl ?_
            with_unfolding_all refine TX_move rfl ?_
            replace h76 := ite_t rfl h76
            obtain rfl := some_s h76
            with_unfolding_all refine TX_guard_no_f rfl rfl rfl ?_
            with_unfolding_all refine TX_guard_no_f rfl rfl rfl ?_
            with_unfolding_all refine TX_guard_no_f rfl rfl rfl ?_
            with_unfolding_all refine TX_pick_t rfl rfl rfl ?_
            with_unfolding_all refine TX_nil ?_
            exact joinQ_normal ⟨s87, (hO88.sub 1 rfl), (Le_fr ⟨rfl, ⟨rfl, ⟨rfl, ⟨rfl, trivial⟩⟩⟩⟩)⟩
          · skip
            replace h70 := ite_f hc89 h70
            obtain ⟨x63, h64, h70⟩ := bind_s h70
            obtain ⟨x65, h66, h70⟩ := bind_s h70
            obtain ⟨x67, h68, h70⟩ := bind_s h70
            with_unfolding_all refine TX_move rfl ?_
            with_unfolding_all refine TX_guard_yes rfl rfl hc89 ?_
            with_unfolding_all refine TY_scat rfl rfl h64 ?_
            with_unfolding_all refine TX_guard_yes rfl rfl hc89 ?_
            with_unfolding_all refine TX_move rfl ?_
            with_unfolding_all refine TX_guard_yes rfl rfl hc89 ?_
            with_unfolding_all refine TY_scat rfl rfl h66 ?_
            with_unfolding_all refine TX_guard_yes rfl rfl hc89 ?_
            have hc90 : CallE Try.prog 18 [.str (bs (x65))] s87 _ := utf_Right_ok h68 rfl
            with_unfolding_all refine TY_call hM86 rfl en18 hc90 ?_
            intro v91 s95 hv92 hX93 hM94
            have hO96 := hO88.ext_call hX93
            obtain rfl := hv92
            with_unfolding_all refine TX_pick_f rfl hc89 rfl ?_
            obtain rfl := some_s h70
            with_unfolding_all refine TX_move rfl ?_
            with_unfolding_all refine TX_guard_f rfl rfl (fun hc97 => ?_) (fun hc97 => ?_)
            · skip
              replace h76 := ite_t hc97 h76
              obtain rfl := some_s h76
              with_unfolding_all refine TX_guard_no_f rfl rfl hc97 ?_
              with_unfolding_all refine TX_guard_no_f rfl rfl hc97 ?_
              with_unfolding_all refine TX_pick_t rfl hc97 rfl ?_
              with_unfolding_all refine TX_nil ?_
              exact joinQ_normal ⟨s95, (hO96.sub 1 rfl), (Le_fr ⟨rfl, ⟨rfl, ⟨rfl, ⟨rfl, trivial⟩⟩⟩⟩)⟩
            · skip
              replace h76 := ite_f hc97 h76
              obtain ⟨x71, h72, h76⟩ := bind_s h76
              obtain ⟨x73, h74, h76⟩ := bind_s h76
              with_unfolding_all refine TX_move rfl ?_
              with_unfolding_all refine TX_guard_yes rfl rfl hc97 ?_
              with_unfolding_all refine TY_scat rfl rfl h72 ?_
              with_unfolding_all refine TX_guard_yes rfl rfl hc97 ?_
              have hc98 : CallE Try.prog 18 [.str (bs (x71))] s95 _ := utf_Right_ok h74 rfl
              with_unfolding_all refine TY_call hM94 rfl en18 hc98 ?_
              intro v99 s103 hv100 hX101 hM102
              have hO104 := hO96.ext_call hX101
              obtain rfl := hv100
              with_unfolding_all refine TX_pick_f rfl hc97 rfl ?_
              obtain rfl := some_s h76
              with_unfolding_all refine TX_nil ?_
              exact joinQ_normal ⟨s103, (hO104.sub 1 rfl), (Le_fr ⟨rfl, ⟨rfl, ⟨rfl, ⟨rfl, trivial⟩⟩⟩⟩)⟩
        · skip
          rintro zj77 ⟨s78, hO79, hz80⟩
          with_unfolding_all refine thenQ_normal ?_
          refine TE_pre hz80 ?_
          with_unfolding_all refine TE_cond rfl (fun hc105 => ?_) (fun hc105 => ?_)
          · skip
            replace hF := ite_t hc105 hF
            with_unfolding_all refine TE_seq ?_
            with_unfolding_all refine TE_seqY ?_
            have hM106 := MB_none s78
            with_unfolding_all refine TX_assign rfl ?_
            with_unfolding_all refine TX_nil ?_
            with_unfolding_all refine thenQ_normal ?_
            with_unfolding_all refine TE_ret ?_
            with_unfolding_all refine thenQ_ret ?_
            obtain rfl := some_s hF
            exact done_any (vs := [.bool (false)]) (.inr rfl) rfl (resR_tmp rfl resR_nil) ⟨rfl, hO79.ext⟩
          · skip
            replace hF := ite_f hc105 hF
            with_unfolding_all refine TE_skip ?_
            with_unfolding_all refine thenQ_normal ?_
            with_unfolding_all refine TE_seq ?_
            obtain ⟨r129, h130, hF⟩ := bind_s hF
            with_unfolding_all refine TE_seqY ?_
            have hM131 := MB_none s78
            with_unfolding_all refine TX_move rfl ?_
            with_unfolding_all refine TY_slen (s := x48) rfl rfl rfl rfl rfl ?_
            with_unfolding_all refine TX_cmp rfl rfl rfl ?_
            with_unfolding_all refine TX_move rfl ?_
            with_unfolding_all refine TX_guard_f rfl rfl (fun hc132 => ?_) (fun hc132 => ?_)
            · skip
              replace h130 := ite_t hc132 h130
              obtain rfl := some_s h130
              with_unfolding_all refine TX_guard_no_f rfl rfl hc132 ?_
              with_unfolding_all refine TX_guard_no_f rfl rfl hc132 ?_
              with_unfolding_all refine TX_guard_no_f rfl rfl hc132 ?_
              with_unfolding_all refine TX_guard_no_f rfl rfl hc132 ?_
              with_unfolding_all refine TX_guard_no_f rfl rfl hc132 ?_
              with_unfolding_all refine TX_guard_no_f rfl rfl hc132 ?_
              with_unfolding_all refine TX_guard_un rfl rfl ?_
              with_unfolding_all refine TX_guard_un rfl rfl ?_
              with_unfolding_all refine TX_guard_un rfl rfl ?_
              with_unfolding_all refine TX_guard_un rfl rfl ?_
              with_unfolding_all refine TX_guard_un rfl rfl ?_
              with_unfolding_all refine TX_guard_un rfl rfl ?_
              with_unfolding_all refine TX_guard_un rfl rfl ?_
              with_unfolding_all refine TX_guard_un rfl rfl ?_
              with_unfolding_all refine TX_guard_un rfl rfl ?_
              with_unfolding_all refine TX_guard_no_f rfl rfl hc132 ?_
              with_unfolding_all refine TX_guard_no_f rfl rfl hc132 ?_
              with_unfolding_all refine TX_guard_un rfl rfl ?_
              with_unfolding_all refine TX_guard_un rfl rfl ?_
              with_unfolding_all refine TX_guard_un rfl rfl ?_
              with_unfolding_all refine TX_guard_un rfl rfl ?_
              with_unfolding_all refine TX_guard_un rfl rfl ?_
              with_unfolding_all refine TX_guard_un rfl rfl ?_
              with_unfolding_all refine TX_guard_no_f rfl rfl hc132 ?_
              with_unfolding_all refine TX_pick_t rfl hc132 rfl ?_
              with_unfolding_all refine TX_assign rfl ?_
              with_unfolding_all refine TX_nil ?_
              with_unfolding_all refine thenQ_normal ?_
              with_unfolding_all refine TE_ret ?_
              obtain rfl := some_s hF
              exact done_any (vs := [.bool (true)]) (.inr rfl) rfl (resR_tmp rfl resR_nil) ⟨rfl, hO79.ext⟩
            · skip
              replace h130 := ite_f hc132 h130
              obtain ⟨x107, h108, h130⟩ := bind_s h130
              obtain ⟨x109, h110, h130⟩ := bind_s h130
              obtain ⟨x111, h112, h130⟩ := bind_s h130
              obtain ⟨r119, h120, h130⟩ := bind_s h130
              obtain ⟨r127, h128, h130⟩ := bind_s h130
              with_unfolding_all refine TX_move rfl ?_
              with_unfolding_all refine TX_guard_yes rfl rfl hc132 ?_
              with_unfolding_all refine TX_move rfl ?_
              with_unfolding_all refine TX_guard_yes rfl rfl hc132 ?_
              with_unfolding_all refine TY_scat rfl rfl h108 ?_
              with_unfolding_all refine TX_guard_yes rfl rfl hc132 ?_
              with_unfolding_all refine TX_move rfl ?_
              with_unfolding_all refine TX_guard_yes rfl rfl hc132 ?_
              with_unfolding_all refine TY_scat rfl rfl h110 ?_
              with_unfolding_all refine TX_guard_yes rfl rfl hc132 ?_
              have hc133 : CallE Try.prog 18 [.str (bs (x109))] s78 _ := utf_Right_ok h112 rfl
              with_unfolding_all refine TY_call hM131 rfl en18 hc133 ?_
              intro v134 s138 hv135 hX136 hM137
              have hO139 := hO79.ext_call hX136
              obtain rfl := hv135
              with_unfolding_all refine TX_guard_yes rfl rfl hc132 ?_
              with_unfolding_all refine TX_move rfl ?_
              with_unfolding_all refine TX_guard_t rfl rfl (fun hc140 => ?_) (fun hc140 => ?_)
              · skip
                replace h120 := ite_t hc140 h120
                obtain ⟨x113, h114, h120⟩ := bind_s h120
                obtain ⟨x115, h116, h120⟩ := bind_s h120
                obtain ⟨x117, h118, h120⟩ := bind_s h120
                with_unfolding_all refine TX_move rfl ?_
                with_unfolding_all refine TX_guard_yes rfl rfl hc140 ?_
                with_unfolding_all refine TX_move rfl ?_
                with_unfolding_all refine TX_guard_yes rfl rfl hc140 ?_
                with_unfolding_all refine TX_move rfl ?_
                with_unfolding_all refine TX_guard_yes rfl rfl hc140 ?_
                with_unfolding_all refine TY_slen (s := x48) rfl rfl rfl rfl rfl ?_
                with_unfolding_all refine TX_guard_yes rfl rfl hc140 ?_
                with_unfolding_all refine TX_ari rfl rfl rfl ?_
                with_unfolding_all refine TX_guard_yes rfl rfl hc140 ?_
                with_unfolding_all refine TY_ssl rfl rfl rfl rfl h114 ?_
                with_unfolding_all refine TX_guard_yes rfl rfl hc140 ?_
                with_unfolding_all refine TY_scat rfl rfl h116 ?_
                with_unfolding_all refine TX_guard_yes rfl rfl hc140 ?_
                have hc141 : CallE Try.prog 18 [.str (bs (x115))] s138 _ := utf_Right_ok h118 rfl
                with_unfolding_all refine TY_call hM137 rfl en18 hc141 ?_
                intro v142 s146 hv143 hX144 hM145
                have hO147 := hO139.ext_call hX144
                obtain rfl := hv143
                with_unfolding_all refine TX_guard_yes rfl rfl hc140 ?_
                with_unfolding_all refine TX_not rfl ?_
                with_unfolding_all refine TX_guard_yes rfl rfl hc132 ?_
                with_unfolding_all refine TX_pick_t rfl hc140 rfl ?_
                obtain rfl := some_s h120
                with_unfolding_all refine TX_guard_yes rfl rfl hc132 ?_
                with_unfolding_all refine TX_move rfl ?_
                with_unfolding_all refine TX_guard_t rfl rfl (fun hc148 => ?_) (fun hc148 => ?_)
                · skip
                  replace h128 := ite_t hc148 h128
                  obtain ⟨x121, h122, h128⟩ := bind_s h128
                  obtain ⟨x123, h124, h128⟩ := bind_s h128
                  obtain ⟨x125, h126, h128⟩ := bind_s h128
                  with_unfolding_all refine TX_move rfl ?_
                  with_unfolding_all refine TX_guard_yes rfl rfl hc148 ?_
                  with_unfolding_all refine TY_ssl rfl rfl rfl rfl h122 ?_
                  with_unfolding_all refine TX_guard_yes rfl rfl hc148 ?_
                  with_unfolding_all refine TX_move rfl ?_
                  with_unfolding_all refine TX_guard_yes rfl rfl hc148 ?_
                  with_unfolding_all refine TY_scat rfl rfl h124 ?_
                  with_unfolding_all refine TX_guard_yes rfl rfl hc148 ?_
                  have hc149 : CallE Try.prog 18 [.str (bs (x123))] s146 _ := utf_Right_ok h126 rfl
                  with_unfolding_all refine TY_call hM145 rfl en18 hc149 ?_
                  intro v150 s154 hv151 hX152 hM153
                  have hO155 := hO147.ext_call hX152
                  obtain rfl := hv151
                  with_unfolding_all refine TX_guard_yes rfl rfl hc148 ?_
                  with_unfolding_all refine TX_not rfl ?_
                  with_unfolding_all refine TX_guard_yes rfl rfl hc132 ?_
                  with_unfolding_all refine TX_pick_t rfl hc148 rfl ?_
                  obtain rfl := some_s h128
                  with_unfolding_all refine TX_pick_f rfl hc132 rfl ?_
                  obtain rfl := some_s h130
                  with_unfolding_all refine TX_assign rfl ?_
                  with_unfolding_all refine TX_nil ?_
                  with_unfolding_all refine thenQ_normal ?_
                  with_unfolding_all refine TE_ret ?_
                  obtain rfl := some_s hF
                  exact done_any (vs := [.bool ((!x125))]) (.inr rfl) rfl (resR_tmp rfl resR_nil) ⟨rfl, hO155.ext⟩
                · skip
                  replace h128 := ite_f hc148 h128
                  obtain rfl := some_s h128
                  with_unfolding_all refine TX_guard_no_t rfl rfl hc148 ?_
                  with_unfolding_all refine TX_guard_no_t rfl rfl hc148 ?_
                  with_unfolding_all refine TX_guard_no_t rfl rfl hc148 ?_
                  with_unfolding_all refine TX_guard_no_t rfl rfl hc148 ?_
                  with_unfolding_all refine TX_guard_no_t rfl rfl hc148 ?_
                  with_unfolding_all refine TX_guard_yes rfl rfl hc132 ?_
                  with_unfolding_all refine TX_pick_f rfl hc148 rfl ?_
                  with_unfolding_all refine TX_pick_f rfl hc132 rfl ?_
                  obtain rfl := some_s h130
                  with_unfolding_all refine TX_assign rfl ?_
                  with_unfolding_all refine TX_nil ?_
                  with_unfolding_all refine thenQ_normal ?_
                  with_unfolding_all refine TE_ret ?_
                  obtain rfl := some_s hF
                  exact done_any (vs := [.bool (false)]) (.inr rfl) rfl (resR_tmp rfl resR_nil) ⟨rfl, hO147.ext⟩
              · skip
                replace h120 := ite_f hc140 h120
                obtain rfl := some_s h120
                with_unfolding_all refine TX_guard_no_t rfl rfl hc140 ?_
                with_unfolding_all refine TX_guard_no_t rfl rfl hc140 ?_
                with_unfolding_all refine TX_guard_no_t rfl rfl hc140 ?_
                with_unfolding_all refine TX_guard_no_t rfl rfl hc140 ?_
                with_unfolding_all refine TX_guard_no_t rfl rfl hc140 ?_
                with_unfolding_all refine TX_guard_no_t rfl rfl hc140 ?_
                with_unfolding_all refine TX_guard_no_t rfl rfl hc140 ?_
                with_unfolding_all refine TX_guard_no_t rfl rfl hc140 ?_
                with_unfolding_all refine TX_guard_yes rfl rfl hc132 ?_
                with_unfolding_all refine TX_pick_f rfl hc140 rfl ?_
                with_unfolding_all refine TX_guard_yes rfl rfl hc132 ?_
                with_unfolding_all refine TX_move rfl ?_
                replace h128 := ite_f rfl h128
                obtain rfl := some_s h128
                with_unfolding_all refine TX_guard_no_t rfl rfl rfl ?_
                with_unfolding_all refine TX_guard_no_t rfl rfl rfl ?_
                with_unfolding_all refine TX_guard_no_t rfl rfl rfl ?_
                with_unfolding_all refine TX_guard_no_t rfl rfl rfl ?_
                with_unfolding_all refine TX_guard_no_t rfl rfl rfl ?_
                with_unfolding_all refine TX_guard_no_t rfl rfl rfl ?_
                with_unfolding_all refine TX_guard_yes rfl rfl hc132 ?_
                with_unfolding_all refine TX_pick_f rfl rfl rfl ?_
                with_unfolding_all refine TX_pick_f rfl hc132 rfl ?_
                obtain rfl := some_s h130
                with_unfolding_all refine TX_assign rfl ?_
                with_unfolding_all refine TX_nil ?_
                with_unfolding_all refine thenQ_normal ?_
                with_unfolding_all refine TE_ret ?_
                obtain rfl := some_s hF
                exact done_any (vs := [.bool (false)]) (.inr rfl) rfl (resR_tmp rfl resR_nil) ⟨rfl, hO139.ext⟩
theorem utf_Map_ok {x0_ : Str} {x1_ : (Int → Option Int)} {y : Str} (hF : F.utf_Map x0_ x1_ = some y) {v0_ : AV} {v1_ : AV} {σ : Mem} (h0_ : eS.rel v0_ x0_) (h1_ : FnOK1 Try.prog v1_ σ (eI .i32).rel (eI .i32).rel x1_)  :
    CallE Try.prog 20 [v0_, v1_] σ (fun v σ' => eS.rel v y ∧ Ext σ σ') := by
  unfold F.utf_Map at hF
  obtain rfl := h0_
  have h1 := h1_
  obtain ⟨g2, fs3, cs4, rfl, hen5, hcall6⟩ := h1_
  refine CallE_of Try.func20 rfl Try.ntmps20 (by simp) ?_
  have hO0 := Own.start σ
  with_unfolding_all refine TE_seq ?_
  with_unfolding_all refine TE_seqY ?_
  have hM7 := MB_none σ
  with_unfolding_all refine TX_assign rfl ?_
  with_unfolding_all refine TX_nil ?_
  with_unfolding_all refine thenQ_normal ?_
  with_unfolding_all refine TE_seq ?_
  with_unfolding_all refine TE_seqY ?_
  have hM8 := MB_none σ
  with_unfolding_all refine TX_assign rfl ?_
  with_unfolding_all refine TX_nil ?_
  with_unfolding_all refine thenQ_normal ?_
  with_unfolding_all refine TE_seq ?_
  with_unfolding_all refine TE_block ?_
  obtain ⟨p15, h21, hF⟩ := bind_s hF
  refine TE_iter (f := F.utf_Map_s1 x1_) (s0 := (x0_, [])) (a := p15) (fun (q9 : (Str × Str)) z => ∃ (u11 : AV) (s13 : Mem), RS eY u11 q9.2 ∧ Own σ [] s13 [.buf u11] ∧ Le z ⟨fr 34 [(0, .str (bs (q9.1))), (1, (.fn (.func g2) fs3 cs4)), (5, u11)], [], s13⟩) (fun (p15 : Str) e z => (e = .exit 0 ∧ ∃ (u16 : AV) (s18 : Mem), RS eY u16 p15 ∧ Own σ [] s18 [.buf u16] ∧ Le z ⟨fr 34 [(5, u16)], [], s18⟩)) h21 ?_ ?_ ?_
  · skip
    have hO22 : Own σ [] σ [.buf .nils] := hO0.buf0
    exact ⟨.nils, σ, (RS.nil _), (hO22.sub 1 rfl), (Le_fr ⟨rfl, ⟨rfl, ⟨rfl, trivial⟩⟩⟩)⟩
  · skip
    clear hF
    rintro q9 zq9 r10 ⟨u11, s13, h12, hO14, hz23⟩ hF
    unfold F.utf_Map_s1 at hF
    refine TE_pre hz23 ?_
    with_unfolding_all refine TE_seq ?_
    with_unfolding_all refine TE_seq ?_
    with_unfolding_all refine TE_seqY ?_
    have hM24 := MB_none s13
    with_unfolding_all refine TX_move rfl ?_
    with_unfolding_all refine TY_scmp (a := q9.1) (b := []) rfl rfl rfl ?_
    with_unfolding_all refine TX_nil ?_
    with_unfolding_all refine thenQ_normal ?_
    with_unfolding_all refine TE_cond rfl (fun hc25 => ?_) (fun hc25 => ?_)
    · skip
      replace hF := ite_t hc25 hF
      with_unfolding_all refine TE_skip ?_
      with_unfolding_all refine thenQ_normal ?_
      with_unfolding_all refine TE_block ?_
      with_unfolding_all refine TE_seq ?_
      obtain ⟨x26, h27, hF⟩ := bind_s hF
      with_unfolding_all refine TE_seqY ?_
      have hM28 := MB_none s13
      with_unfolding_all refine TX_move rfl ?_
      have hc29 : CallE Try.prog 15 [.str (bs (q9.1))] s13 _ := utf_Next_ok h27 rfl
      with_unfolding_all refine TY_call hM28 rfl en15 hc29 ?_
      intro v30 s34 hv31 hX32 hM33
      have hO35 := hO14.ext_call hX32
      obtain ⟨v36, v37, rfl, h38, h39⟩ := hv31
      obtain rfl := h38
      obtain rfl := h39
      with_unfolding_all refine TX_move rfl ?_
      with_unfolding_all refine TX_extract rfl rfl ?_
      with_unfolding_all refine TX_extract rfl rfl ?_
      with_unfolding_all refine TX_assign rfl ?_
      with_unfolding_all refine TX_assign rfl ?_
      with_unfolding_all refine TX_nil ?_
      with_unfolding_all refine thenQ_normal ?_
      with_unfolding_all refine TE_seq ?_
      with_unfolding_all refine TE_seq ?_
      with_unfolding_all refine TE_seqY ?_
      have hM40 := MB_none s34
      with_unfolding_all refine TX_move rfl ?_
      with_unfolding_all refine TX_cmp rfl rfl rfl ?_
      with_unfolding_all refine TX_nil ?_
      with_unfolding_all refine thenQ_normal ?_
      with_unfolding_all refine TE_cond rfl (fun hc41 => ?_) (fun hc41 => ?_)
      · skip
        replace hF := ite_t hc41 hF
        with_unfolding_all refine TE_seq ?_
        obtain ⟨x42, h43, hF⟩ := bind_s hF
        obtain ⟨x44, h45, hF⟩ := bind_s hF
        obtain ⟨x46, h47, hF⟩ := bind_s hF
        have hB48 : Bs [] s34 := Bs.nil _
        with_unfolding_all refine TE_drawY [] (by with_unfolding_all rfl) (by kernel_rfl) hB48 ?_
        have hM49 := MB_some hB48
        with_unfolding_all refine TX_move rfl ?_
        with_unfolding_all refine TX_move rfl ?_
        with_unfolding_all refine TY_sidx rfl rfl rfl h43 ?_
        have h50 : All2 eY.rel ([.int .u8 (x42)] : List AV) ([u8 x42] : Str) := ⟨(eY_u8 (sget_rng h43).1 (sget_rng h43).2), trivial⟩
        with_unfolding_all refine TY_buildSlice rfl rfl rfl rfl rfl h50 rfl (by decide) (by with_unfolding_all exact Nat.le_of_ble_eq_true rfl) ?_
        have h51 : RS eY (.sl [.int .u8 (x42)] .full) ([u8 x42] : Str) := RS.of h50
        with_unfolding_all refine TY_append appT30_30 hO35 hM49 rfl rfl rfl rfl h12 rfl h51 h45 ?_
        rintro u52 s54 (h53 : RS eY u52 x44) (hO55 : Own σ [] s54 [.buf u52]) hM56
        with_unfolding_all refine TX_move rfl ?_
        with_unfolding_all refine TY_ssl rfl rfl rfl rfl h47 ?_
        with_unfolding_all refine TX_assign rfl ?_
        with_unfolding_all refine TX_assign rfl ?_
        with_unfolding_all refine TX_nil ?_
        with_unfolding_all refine thenQ_normal ?_
        with_unfolding_all refine TE_exit ?_
        with_unfolding_all refine thenQ_exit ?_
        with_unfolding_all refine blockQ_out ?_
        obtain rfl := some_s hF
        exact iterQ_again ⟨u52, s54, h53, (hO55.sub 1 rfl), (Le_fr ⟨rfl, ⟨rfl, ⟨rfl, trivial⟩⟩⟩)⟩
      · skip
        replace hF := ite_f hc41 hF
        with_unfolding_all refine TE_skip ?_
        with_unfolding_all refine thenQ_normal ?_
        obtain ⟨x57, h58, hF⟩ := bind_s hF
        obtain ⟨x59, h60, hF⟩ := bind_s hF
        obtain ⟨x61, h62, hF⟩ := bind_s hF
        have hB63 : Bs [] s34 := Bs.nil _
        with_unfolding_all refine TE_drawY [] (by with_unfolding_all rfl) (by kernel_rfl) hB63 ?_
        have hM64 := MB_some hB63
        with_unfolding_all refine TX_move rfl ?_
        with_unfolding_all refine TX_move rfl ?_
        with_unfolding_all refine TX_move rfl ?_
        have hc65 : CallE Try.prog g2 (fs3 ++ [.int .i32 (x26.1)] ++ cs4) s34 _ := hcall6 _ hO35.ext _ _ _ rfl h58
        with_unfolding_all refine TY_call hM64 rfl hen5 hc65 ?_
        intro v66 s70 hv67 hX68 hM69
        have hO71 := hO35.ext_call hX68
        obtain rfl := hv67
        have hc72 : CallE Try.prog 19 [u11, .int .i32 (x57)] s70 _ := utf_Put_ok h60 h12 rfl (hO71.ok _ List.mem_cons_self)
        with_unfolding_all refine TY_callB (u := u11) hM69 (hO71.ok _ List.mem_cons_self) rfl en19 hc72 (fun _ _ h => ⟨_, h.2⟩) ?_
        rintro v73 s77 ⟨hv74, hX75⟩ hM76
        have hO78 : Own σ [] s77 [.buf v73] := Own.call (A := [.buf u11]) hO71 hX75
        with_unfolding_all refine TX_move rfl ?_
        with_unfolding_all refine TX_move rfl ?_
        with_unfolding_all refine TY_ssl rfl rfl rfl rfl h62 ?_
        with_unfolding_all refine TX_assign rfl ?_
        with_unfolding_all refine TX_assign rfl ?_
        with_unfolding_all refine TX_nil ?_
        with_unfolding_all refine blockQ_normal ?_
        obtain rfl := some_s hF
        exact iterQ_again ⟨v73, s77, hv74, (hO78.sub 1 rfl), (Le_fr ⟨rfl, ⟨rfl, ⟨rfl, trivial⟩⟩⟩)⟩
    · skip
      replace hF := ite_f hc25 hF
      with_unfolding_all refine TE_exit ?_
      with_unfolding_all refine thenQ_exit ?_
      obtain rfl := some_s hF
      exact iterQ_exit (⟨rfl, u11, s13, h12, (hO14.sub 1 rfl), (Le_fr ⟨rfl, trivial⟩)⟩)
  · skip
    rintro eq9 zq9 (⟨rfl, u16, s18, h17, hO19, hz79⟩)
    with_unfolding_all refine blockQ_out ?_
    with_unfolding_all refine thenQ_normal ?_
    refine TE_pre hz79 ?_
    with_unfolding_all refine TE_seq ?_
    with_unfolding_all refine TE_seqY ?_
    have hM80 := MB_none s18
    with_unfolding_all refine TX_move rfl ?_
    with_unfolding_all refine TY_conv_text rfl rfl rfl rfl h17 ?_
    with_unfolding_all refine TX_assign rfl ?_
    with_unfolding_all refine TX_nil ?_
    with_unfolding_all refine thenQ_normal ?_
    with_unfolding_all refine TE_ret ?_
    obtain rfl := some_s hF
    exact done_any (vs := [.str (bs (p15))]) (.inr rfl) rfl (resR_tmp rfl resR_nil) ⟨rfl, hO19.ext⟩
end Go.Proofs.Ytkhhmjikohonfaa.K
