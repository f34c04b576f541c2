/-
  Walks of package unipoly: multiples, derivatives, powers.
-/
import Derived.Test.YtppegjbdencefaaUni3
import Derived.Test.YtppegjbdencefaaPolyMath2
import Derived.Test.YtppegjbdencefaaRefPreds
namespace Go.Proofs.Ytppegjbdencefaa
open Go.RowKit Go.Gx
theorem unipoly_Scale1 {w : World} {ga : Bool} {Sa : Nat → Prop} {Aa : Option Addr} {na ca : Nat} {da : List Nat} {pc : Nat} {gc : Bool} {Sc : Nat → Prop} {Ac : Option Addr} {nc cc : Nat} {dc : List Nat} (ha : NatR w Sa Aa na ca da) (Bc : Blk w pc 46 [.bool gc, .slice Ac nc cc]) (hc : NatR w Sc Ac nc cc dc) (hna : na + nc ≤ 1099511627776) : Calls Try.prog 80 #[(.agg #[(.bool ga), (.slice Aa na ca)]), (.pointer (some ⟨pc, 0, none⟩))] w (Ret fun v w' => ∃ (gr : Bool) (Ar : Option Addr) (nr : Nat) (cr : Nat) (dr : List Nat), v = (.agg #[(.bool gr), (.slice Ar nr cr)]) ∧ Ext w w' ∧ NatR w' (fun b => w.heap.size ≤ b) Ar nr cr dr ∧ (zval gr dr = zval gc dc * zval ga da) ∧ (ICan gr dr) ∧ (nr ≤ na + nc)) := by
  have la := ha.len; have ka := ha.cap; have ma := ha.max
  replace ha := ha.low
  have lc := hc.len; have kc := hc.cap; have mc := hc.max
  replace hc := hc.low
  have ltc := Bc.lt
  refine enter Try.func80 rfl Try.ntmps80 rfl ?_
  refine wp_seq_k fun K1 hK1 => ?_
  refine wp_region_lit ?_
  refine sOp rfl (oBox [(.bool ga), (.slice Aa na ca)] rfl rfl ?_)
  intro g2 w3 hg4 hE5 hz6 hB7
  refine sOp rfl (oAlloc [(.bool false), (.slice none 0 0)] zero46 rfl ?_)
  intro g8 w9 hg10 hE11 hz12 hB13
  refine sDone ?_
  refine xN (hK1 _ _ ?_)
  refine wp_seq_k fun K14 hK14 => ?_
  refine wp_region_lit ?_
  have hB15 := (Bc.ext (hE5.trans hE11))
  refine sEv (v := (.agg #[(.bool gc), (.slice Ac nc cc)])) (evLoadAB [(.bool gc), (.slice Ac nc cc)] agg46 sz46 rfl hB15 rfl) rfl rfl ?_
  have hB16 := (hB7.ext hE11)
  refine sEv (v := (.agg #[(.bool ga), (.slice Aa na ca)])) (evLoadAB [(.bool ga), (.slice Aa na ca)] agg46 sz46 rfl hB16 rfl) rfl rfl ?_
  have h17 := (hc.ext (hE5.trans hE11))
  have h18 := (ha.ext (hE5.trans hE11))
  refine sOp rfl (oCall rfl call69 (integer_Mul h17 h18 (by omega)) rfl ?_)
  rintro _ w20 ⟨gr_19, Ar_19, nr_19, cr_19, dr_19, rfl, hE21, hr_19, v_19, cn_19, le_19⟩
  have hz22 := hE21.size
  have lr_19 := hr_19.len; have kr_19 := hr_19.cap; have mr_19 := hr_19.max
  have hB24 := (hB13.ext hE21)
  refine sOp rfl (oStore [(.bool gr_19), (.slice Ar_19 nr_19 cr_19)] rfl rfl rfl sz46 rfl hB24 (Nat.le_of_ble_eq_true rfl) ?_)
  intro w25 hU26 hz27 hB28
  replace hB28 : Blk w25 g8 46 [(.bool gr_19), (.slice Ar_19 nr_19 cr_19)] := hB28
  refine sDone ?_
  refine xN (hK14 _ _ ?_)
  refine wp_ret ?_
  refine ret1 (.agg #[(.bool gr_19), (.slice Ar_19 nr_19 cr_19)]) Try.results80 (resB [(.bool gr_19), (.slice Ar_19 nr_19 cr_19)] agg46 sz46 rfl hB28) ?_
  have h29 := (hr_19.frmB hU26 q3)
  exact ⟨gr_19, Ar_19, nr_19, cr_19, dr_19, rfl, (Frm.mono ((((Frm.of_ext (G := fun b => (b = g8)) hE5).trans (Frm.of_ext (G := fun b => (b = g8)) hE11)).trans (Frm.of_ext (G := fun b => (b = g8)) hE21)).trans hU26) q4), (NatR.sub h29 q5), v_19, cn_19, (by omega)⟩

theorem unipoly_transform_Normal {w : World} {Sf : Nat → Prop} {Af : Option Addr} {nf cf Mf : Nat} {lf : List RI}  (hf : PolyR w Sf Af nf cf lf Mf) (hnf : nf ≤ 1048576) (hMf : Mf ≤ 1073741824) : Calls Try.prog 78 #[(.slice Af nf cf), (.func (.func 73) #[] #[])] w (Ret fun v w' => ∃ (qr : Nat) (nr : Nat) (lr : List RI), v = (.slice (some ⟨qr, 0, none⟩) nr nr) ∧ Ext w w' ∧ (fun b => w.heap.size ≤ b) qr ∧ Blk w' qr 46 (cellsI lr) ∧ AllN w' (fun b => qr < b) (Mf) lr ∧ lr.length = nr ∧ nr ≤ 9223372036854775807 ∧ (zs lr = (zs lf).map (fun x => x)) ∧ (nr = nf) ∧ (AllC lr)) := by
  have kf := hf.len; have jf := hf.cap; have mf := hf.max
  replace hf := hf.low
  refine enter Try.func78 rfl Try.ntmps78 rfl ?_
  refine wp_seq_k fun K1 hK1 => ?_
  refine wp_region_lit ?_
  refine sEv (v := (.slice none 0 0)) (rfl) rfl rfl ?_
  refine sDone ?_
  refine xN (hK1 _ _ ?_)
  refine wp_seq_k fun K2 hK2 => ?_
  refine wp_region_lit ?_
  refine sEv (v := (.slice Af nf cf)) (rfl) rfl rfl ?_
  refine sEv (v := (.int .i64 ((nf : Int)))) (evLen Try.underlying23 rfl) rfl rfl ?_
  refine sOp rfl (oMake2 nf Try.underlying23 inf46 (congrArg (Value.int .i64) (by omega)) (congrArg (Value.int .i64) (by omega)) (by omega) (by omega) ?_)
  intro g3 w4 hg5 hE6 hz7 hB8
  have hB9 : Blk w4 g3 46 (cellsI (List.replicate nf RI.zero)) := hB8
  refine sEv (v := (.slice (some ⟨g3, 0, none⟩) nf nf)) (rfl) rfl rfl ?_
  refine sDone ?_
  refine xN (hK2 _ _ ?_)
  refine wp_seq_k fun K10 hK10 => ?_
  refine wp_seq_k fun K11 hK11 => ?_
  refine wp_region_lit ?_
  refine sEv (v := (.slice Af nf cf)) (rfl) rfl rfl ?_
  refine sEv (v := (.int .i64 ((nf : Int)))) (evLen Try.underlying23 rfl) rfl rfl ?_
  refine sEv (v := (.int .i64 (0))) (rfl) rfl rfl ?_
  refine sDone ?_
  refine xN (hK11 _ _ ?_)
  refine wp_block ?_
  refine lLoop (fun m e w_ => ∃ (k : Nat) (L : List RI), m = nf - k ∧ e 1 = (.func (.func 73) #[] #[]) ∧ e 5 = (.slice (some ⟨g3, 0, none⟩) nf nf) ∧ e 11 = (.slice Af nf cf) ∧ e 12 = (.int .i64 ((nf : Int))) ∧ e 13 = (.int .i64 ((k : Int))) ∧ Frm (fun b => b = g3) w4 w_ ∧ Blk w_ g3 46 (cellsI (L ++ List.replicate (nf - k) RI.zero)) ∧ (k ≤ nf) ∧ (L.length = k) ∧ (AllN w_ (fun b => g3 < b) (Mf) L) ∧ (zs L = ((zs lf).take k).map (fun x => x)) ∧ (AllC L)) (nf - (0)) ?_ ?_
  · refine ⟨(0), ([]), rfl, rfl, rfl, rfl, rfl, (congrArg (Value.int .i64) (by omega)), (Frm.refl _ _), ?_, ?_, ?_, ?_, ?_, ?_⟩
    · simpa using hB9
    · omega
    · rfl
    · exact AllN.nil
    · simp
    · exact AllC.nil
  · rintro m12 e22 w13 ⟨k, L, hm21, hs14, hs15, hs16, hs17, hs18, hF19, hB20, hk, hL, hA, hz, hC⟩
    obtain ⟨r23, rfl⟩ := sq (e := e22) (t := 1) hs14
    obtain ⟨r24, rfl⟩ := sq (e := r23) (t := 5) hs15
    obtain ⟨r25, rfl⟩ := sq (e := r24) (t := 11) hs16
    obtain ⟨r26, rfl⟩ := sq (e := r25) (t := 12) hs17
    obtain ⟨r27, rfl⟩ := sq (e := r26) (t := 13) hs18
    have hz28 := hF19.size
    refine wp_seq_k fun K29 hK29 => ?_
    refine wp_region_lit ?_
    by_cases hc30 : ((k : Int)) < ((nf : Int))
    · refine sEv (v := (.bool true)) (evLss true rfl rfl (dT hc30)) rfl rfl ?_
      refine sDone ?_
      refine xN (hK29 _ _ ?_)
      refine wp_seq_k fun K31 hK31 => ?_
      refine cT rfl ?_
      refine wp_skip ?_
      refine xN (hK31 _ _ ?_)
      refine wp_seq_k fun K32 hK32 => ?_
      refine wp_block ?_
      refine wp_seq_k fun K33 hK33 => ?_
      refine wp_region_lit ?_
      refine sEv (v := (.int .i64 ((k : Int)))) (rfl) rfl rfl ?_
      have h34 := (hf.frmB ((Frm.of_ext (G := fun b => (b = g3)) hE6).trans hF19) q3)
      obtain ⟨b35, o36, rfl⟩ := h34.base (by omega)
      refine sEv (v := (.pointer (some ⟨b35, o36 + (k * 2), none⟩))) (evIndex k Try.underlying23 sz46 rfl rfl (by omega) (by omega) (o36 + (k * 2)) (by omega)) rfl rfl ?_
      obtain ⟨g_37, A_37, n_37, c_37, d_37, he_37, hp_37, hq_37, h_37, hM_37, hS_37, hb_37, z_37⟩ := h34.at_ (i := k) (by omega)
      have l_37 := h_37.len; have k_37 := h_37.cap; have m_37 := h_37.max
      refine sEv (v := (.agg #[(.bool g_37), (.slice A_37 n_37 c_37)])) (evLoadA [(.bool g_37), (.slice A_37 n_37 c_37)] agg46 sz46 rfl (cell2 hp_37 hq_37)) rfl rfl ?_
      refine sOp rfl (oAlloc [(.bool false), (.slice none 0 0)] zero46 rfl ?_)
      intro g39 w40 hg41 hE42 hz43 hB44
      refine sEv (v := (.int .i64 ((k : Int)))) (rfl) rfl rfl ?_
      refine sOp rfl (oStore [(.bool g_37), (.slice A_37 n_37 c_37)] rfl rfl rfl sz46 rfl hB44 (Nat.le_of_ble_eq_true rfl) ?_)
      intro w45 hU46 hz47 hB48
      replace hB48 : Blk w45 g39 46 [(.bool g_37), (.slice A_37 n_37 c_37)] := hB48
      refine sDone ?_
      refine xN (hK33 _ _ ?_)
      refine wp_region_lit ?_
      refine sEv (v := (.slice (some ⟨g3, 0, none⟩) nf nf)) (rfl) rfl rfl ?_
      refine sEv (v := (.int .i64 ((k : Int)))) (rfl) rfl rfl ?_
      refine sEv (v := (.func (.func 73) #[] #[])) (rfl) rfl rfl ?_
      refine sEv (v := (.agg #[(.bool g_37), (.slice A_37 n_37 c_37)])) (evLoadAB [(.bool g_37), (.slice A_37 n_37 c_37)] agg46 sz46 rfl hB48 rfl) rfl rfl ?_
      have h49 := (h_37.frmB ((Frm.of_ext (G := fun b => (b = g39)) hE42).trans hU46) q3)
      refine sOp rfl (oCall rfl call73 (integer_Normal h49 (by omega)) rfl ?_)
      rintro _ w51 ⟨gr_50, Ar_50, nr_50, cr_50, dr_50, rfl, hE52, hr_50, v_50, cn_50, le_50⟩
      have hz53 := hE52.size
      have lr_50 := hr_50.len; have kr_50 := hr_50.cap; have mr_50 := hr_50.max
      refine sEv (v := (.pointer (some ⟨g3, k * 2, none⟩))) (evIndex k Try.underlying23 sz46 rfl rfl (by omega) (by omega) (k * 2) (by omega)) rfl rfl ?_
      have hB55 := (hB20.frm (((Frm.of_ext (G := fun b => (b = g39)) hE42).trans hU46).trans (Frm.of_ext (G := fun b => (b = g39)) hE52)) q1)
      refine sOp rfl (oStore [(.bool gr_50), (.slice Ar_50 nr_50 cr_50)] rfl rfl rfl sz46 rfl hB55 (by rw [cellsI_len]; simp only [List.length_cons, List.length_nil]; exact lq) ?_)
      intro w56 hU57 hz58 hB59
      replace hB59 := (cellsI_set (l := L ++ List.replicate (nf - k) RI.zero) (i := k) ⟨gr_50, Ar_50, nr_50, cr_50, dr_50⟩ (by exact lq)) ▸ hB59
      replace hB59 : Blk w56 g3 46 (cellsI ((L ++ [⟨gr_50, Ar_50, nr_50, cr_50, dr_50⟩]) ++ List.replicate (nf - (k + 1)) RI.zero)) := (fillI_set hL (by omega) : (L ++ List.replicate (nf - k) RI.zero).set k ⟨gr_50, Ar_50, nr_50, cr_50, dr_50⟩ = (L ++ [⟨gr_50, Ar_50, nr_50, cr_50, dr_50⟩]) ++ List.replicate (nf - (k + 1)) RI.zero) ▸ hB59
      refine sDone ?_
      refine bN ?_
      refine xN (hK32 _ _ ?_)
      refine wp_region_lit ?_
      refine sEv (v := (.int .i64 (((k : Int)) + 1))) (evAdd (((k : Int)) + 1) rfl rfl (wI64 (by omega))) rfl rfl ?_
      refine sEv (v := (.int .i64 (((k : Int)) + 1))) (rfl) rfl rfl ?_
      refine sDone ?_
      have h60 := (hA.frmB ((((Frm.of_ext (G := fun b => (b = g39) ∨ (b = g3)) hE42).trans (hU46.mono (G' := fun b => (b = g39) ∨ (b = g3)) fun _ _ h => .inl h)).trans (Frm.of_ext (G := fun b => (b = g39) ∨ (b = g3)) hE52)).trans (hU57.mono (G' := fun b => (b = g39) ∨ (b = g3)) fun _ _ h => .inr h)) q3)
      have h61 := (hr_50.frmB hU57 q3)
      refine again (nf - (k + 1)) (by omega) ⟨(k + 1), (L ++ [⟨gr_50, Ar_50, nr_50, cr_50, dr_50⟩]), rfl, rfl, rfl, rfl, rfl, (congrArg (Value.int .i64) (by omega)), (Frm.mono (((((hF19.mono (G' := fun b => (b = g3) ∨ (b = g39)) fun _ _ h => .inl h).trans (Frm.of_ext (G := fun b => (b = g3) ∨ (b = g39)) hE42)).trans (hU46.mono (G' := fun b => (b = g3) ∨ (b = g39)) fun _ _ h => .inr h)).trans (Frm.of_ext (G := fun b => (b = g3) ∨ (b = g39)) hE52)).trans (hU57.mono (G' := fun b => (b = g3) ∨ (b = g39)) fun _ _ h => .inl h)) q4), ?_, ?_, ?_, ?_, ?_, ?_⟩
      · exact hB59
      · omega
      · simp [hL]
      · exact AllN.snoc h60 (NatR.sub h61 q5) (by (try dsimp only); omega)
      · exact map_snoc hz (by omega) (by show zval _ _ = _; rw [v_50, z_37])
      · exact AllC.snoc hC cn_50
    · refine sEv (v := (.bool false)) (evLss false rfl rfl (dF hc30)) rfl rfl ?_
      refine sDone ?_
      refine xN (hK29 _ _ ?_)
      refine wp_seq_k fun K62 hK62 => ?_
      refine cF rfl ?_
      refine wp_exit (xE (xE (bE ?_)))
      refine xN (hK10 _ _ ?_)
      refine wp_seq_k fun K63 hK63 => ?_
      refine wp_region_lit ?_
      refine sEv (v := (.slice (some ⟨g3, 0, none⟩) nf nf)) (rfl) rfl rfl ?_
      refine sEv (v := (.slice (some ⟨g3, 0, none⟩) nf nf)) (rfl) rfl rfl ?_
      refine sDone ?_
      refine xN (hK63 _ _ ?_)
      refine wp_ret ?_
      refine ret1 (.slice (some ⟨g3, 0, none⟩) nf nf) Try.results78 (resT rfl) ?_
      exact ⟨g3, nf, (L ++ List.replicate (nf - k) RI.zero), rfl, (Frm.mono ((Frm.of_ext (G := fun b => (b = g3)) hE6).trans hF19) q4), (by show _ ≤ _; omega), hB20, (AllN.le (AllN.app (AllN.sub hA q5) (AllN.zeros _)) (by omega)), (by exact lq), (by omega), (map_all hz (by omega) (by omega)), (by omega), (AllC.app hC (AllC.zeros _))⟩

theorem unipoly_transform_Neg {w : World} {Sf : Nat → Prop} {Af : Option Addr} {nf cf Mf : Nat} {lf : List RI}  (hf : PolyR w Sf Af nf cf lf Mf) (hnf : nf ≤ 1048576) (hMf : Mf ≤ 1073741824) : Calls Try.prog 78 #[(.slice Af nf cf), (.func (.func 57) #[] #[])] w (Ret fun v w' => ∃ (Ar : Option Addr) (nr : Nat) (cr : Nat) (lr : List RI), v = (.slice Ar nr cr) ∧ Ext w w' ∧ PolyR w' (fun b => w.heap.size ≤ b) Ar nr cr lr (Mf) ∧ (zs lr = (zs lf).map (fun x => -x)) ∧ (nr = nf) ∧ (AllC lr)) := by
  have kf := hf.len; have jf := hf.cap; have mf := hf.max
  replace hf := hf.low
  refine enter Try.func78 rfl Try.ntmps78 rfl ?_
  refine wp_seq_k fun K1 hK1 => ?_
  refine wp_region_lit ?_
  refine sEv (v := (.slice none 0 0)) (rfl) rfl rfl ?_
  refine sDone ?_
  refine xN (hK1 _ _ ?_)
  refine wp_seq_k fun K2 hK2 => ?_
  refine wp_region_lit ?_
  refine sEv (v := (.slice Af nf cf)) (rfl) rfl rfl ?_
  refine sEv (v := (.int .i64 ((nf : Int)))) (evLen Try.underlying23 rfl) rfl rfl ?_
  refine sOp rfl (oMake2 nf Try.underlying23 inf46 (congrArg (Value.int .i64) (by omega)) (congrArg (Value.int .i64) (by omega)) (by omega) (by omega) ?_)
  intro g3 w4 hg5 hE6 hz7 hB8
  have hB9 : Blk w4 g3 46 (cellsI (List.replicate nf RI.zero)) := hB8
  refine sEv (v := (.slice (some ⟨g3, 0, none⟩) nf nf)) (rfl) rfl rfl ?_
  refine sDone ?_
  refine xN (hK2 _ _ ?_)
  refine wp_seq_k fun K10 hK10 => ?_
  refine wp_seq_k fun K11 hK11 => ?_
  refine wp_region_lit ?_
  refine sEv (v := (.slice Af nf cf)) (rfl) rfl rfl ?_
  refine sEv (v := (.int .i64 ((nf : Int)))) (evLen Try.underlying23 rfl) rfl rfl ?_
  refine sEv (v := (.int .i64 (0))) (rfl) rfl rfl ?_
  refine sDone ?_
  refine xN (hK11 _ _ ?_)
  refine wp_block ?_
  refine lLoop (fun m e w_ => ∃ (k : Nat) (L : List RI), m = nf - k ∧ e 1 = (.func (.func 57) #[] #[]) ∧ e 5 = (.slice (some ⟨g3, 0, none⟩) nf nf) ∧ e 11 = (.slice Af nf cf) ∧ e 12 = (.int .i64 ((nf : Int))) ∧ e 13 = (.int .i64 ((k : Int))) ∧ Frm (fun b => b = g3) w4 w_ ∧ Blk w_ g3 46 (cellsI (L ++ List.replicate (nf - k) RI.zero)) ∧ (k ≤ nf) ∧ (L.length = k) ∧ (AllN w_ (fun b => g3 < b) (Mf) L) ∧ (zs L = ((zs lf).take k).map (fun x => -x)) ∧ (AllC L)) (nf - (0)) ?_ ?_
  · refine ⟨(0), ([]), rfl, rfl, rfl, rfl, rfl, (congrArg (Value.int .i64) (by omega)), (Frm.refl _ _), ?_, ?_, ?_, ?_, ?_, ?_⟩
    · simpa using hB9
    · omega
    · rfl
    · exact AllN.nil
    · simp
    · exact AllC.nil
  · rintro m12 e22 w13 ⟨k, L, hm21, hs14, hs15, hs16, hs17, hs18, hF19, hB20, hk, hL, hA, hz, hC⟩
    obtain ⟨r23, rfl⟩ := sq (e := e22) (t := 1) hs14
    obtain ⟨r24, rfl⟩ := sq (e := r23) (t := 5) hs15
    obtain ⟨r25, rfl⟩ := sq (e := r24) (t := 11) hs16
    obtain ⟨r26, rfl⟩ := sq (e := r25) (t := 12) hs17
    obtain ⟨r27, rfl⟩ := sq (e := r26) (t := 13) hs18
    have hz28 := hF19.size
    refine wp_seq_k fun K29 hK29 => ?_
    refine wp_region_lit ?_
    by_cases hc30 : ((k : Int)) < ((nf : Int))
    · refine sEv (v := (.bool true)) (evLss true rfl rfl (dT hc30)) rfl rfl ?_
      refine sDone ?_
      refine xN (hK29 _ _ ?_)
      refine wp_seq_k fun K31 hK31 => ?_
      refine cT rfl ?_
      refine wp_skip ?_
      refine xN (hK31 _ _ ?_)
      refine wp_seq_k fun K32 hK32 => ?_
      refine wp_block ?_
      refine wp_seq_k fun K33 hK33 => ?_
      refine wp_region_lit ?_
      refine sEv (v := (.int .i64 ((k : Int)))) (rfl) rfl rfl ?_
      have h34 := (hf.frmB ((Frm.of_ext (G := fun b => (b = g3)) hE6).trans hF19) q3)
      obtain ⟨b35, o36, rfl⟩ := h34.base (by omega)
      refine sEv (v := (.pointer (some ⟨b35, o36 + (k * 2), none⟩))) (evIndex k Try.underlying23 sz46 rfl rfl (by omega) (by omega) (o36 + (k * 2)) (by omega)) rfl rfl ?_
      obtain ⟨g_37, A_37, n_37, c_37, d_37, he_37, hp_37, hq_37, h_37, hM_37, hS_37, hb_37, z_37⟩ := h34.at_ (i := k) (by omega)
      have l_37 := h_37.len; have k_37 := h_37.cap; have m_37 := h_37.max
      refine sEv (v := (.agg #[(.bool g_37), (.slice A_37 n_37 c_37)])) (evLoadA [(.bool g_37), (.slice A_37 n_37 c_37)] agg46 sz46 rfl (cell2 hp_37 hq_37)) rfl rfl ?_
      refine sOp rfl (oAlloc [(.bool false), (.slice none 0 0)] zero46 rfl ?_)
      intro g39 w40 hg41 hE42 hz43 hB44
      refine sEv (v := (.int .i64 ((k : Int)))) (rfl) rfl rfl ?_
      refine sOp rfl (oStore [(.bool g_37), (.slice A_37 n_37 c_37)] rfl rfl rfl sz46 rfl hB44 (Nat.le_of_ble_eq_true rfl) ?_)
      intro w45 hU46 hz47 hB48
      replace hB48 : Blk w45 g39 46 [(.bool g_37), (.slice A_37 n_37 c_37)] := hB48
      refine sDone ?_
      refine xN (hK33 _ _ ?_)
      refine wp_region_lit ?_
      refine sEv (v := (.slice (some ⟨g3, 0, none⟩) nf nf)) (rfl) rfl rfl ?_
      refine sEv (v := (.int .i64 ((k : Int)))) (rfl) rfl rfl ?_
      refine sEv (v := (.func (.func 57) #[] #[])) (rfl) rfl rfl ?_
      refine sEv (v := (.agg #[(.bool g_37), (.slice A_37 n_37 c_37)])) (evLoadAB [(.bool g_37), (.slice A_37 n_37 c_37)] agg46 sz46 rfl hB48 rfl) rfl rfl ?_
      have h49 := (h_37.frmB ((Frm.of_ext (G := fun b => (b = g39)) hE42).trans hU46) q3)
      refine sOp rfl (oCall rfl call57 (integer_Neg h49 (by omega)) rfl ?_)
      rintro _ w51 ⟨gr_50, Ar_50, nr_50, cr_50, dr_50, rfl, hE52, hr_50, v_50, cn_50, le_50⟩
      have hz53 := hE52.size
      have lr_50 := hr_50.len; have kr_50 := hr_50.cap; have mr_50 := hr_50.max
      refine sEv (v := (.pointer (some ⟨g3, k * 2, none⟩))) (evIndex k Try.underlying23 sz46 rfl rfl (by omega) (by omega) (k * 2) (by omega)) rfl rfl ?_
      have hB55 := (hB20.frm (((Frm.of_ext (G := fun b => (b = g39)) hE42).trans hU46).trans (Frm.of_ext (G := fun b => (b = g39)) hE52)) q1)
      refine sOp rfl (oStore [(.bool gr_50), (.slice Ar_50 nr_50 cr_50)] rfl rfl rfl sz46 rfl hB55 (by rw [cellsI_len]; simp only [List.length_cons, List.length_nil]; exact lq) ?_)
      intro w56 hU57 hz58 hB59
      replace hB59 := (cellsI_set (l := L ++ List.replicate (nf - k) RI.zero) (i := k) ⟨gr_50, Ar_50, nr_50, cr_50, dr_50⟩ (by exact lq)) ▸ hB59
      replace hB59 : Blk w56 g3 46 (cellsI ((L ++ [⟨gr_50, Ar_50, nr_50, cr_50, dr_50⟩]) ++ List.replicate (nf - (k + 1)) RI.zero)) := (fillI_set hL (by omega) : (L ++ List.replicate (nf - k) RI.zero).set k ⟨gr_50, Ar_50, nr_50, cr_50, dr_50⟩ = (L ++ [⟨gr_50, Ar_50, nr_50, cr_50, dr_50⟩]) ++ List.replicate (nf - (k + 1)) RI.zero) ▸ hB59
      refine sDone ?_
      refine bN ?_
      refine xN (hK32 _ _ ?_)
      refine wp_region_lit ?_
      refine sEv (v := (.int .i64 (((k : Int)) + 1))) (evAdd (((k : Int)) + 1) rfl rfl (wI64 (by omega))) rfl rfl ?_
      refine sEv (v := (.int .i64 (((k : Int)) + 1))) (rfl) rfl rfl ?_
      refine sDone ?_
      have h60 := (hA.frmB ((((Frm.of_ext (G := fun b => (b = g39) ∨ (b = g3)) hE42).trans (hU46.mono (G' := fun b => (b = g39) ∨ (b = g3)) fun _ _ h => .inl h)).trans (Frm.of_ext (G := fun b => (b = g39) ∨ (b = g3)) hE52)).trans (hU57.mono (G' := fun b => (b = g39) ∨ (b = g3)) fun _ _ h => .inr h)) q3)
      have h61 := (hr_50.frmB hU57 q3)
      refine again (nf - (k + 1)) (by omega) ⟨(k + 1), (L ++ [⟨gr_50, Ar_50, nr_50, cr_50, dr_50⟩]), rfl, rfl, rfl, rfl, rfl, (congrArg (Value.int .i64) (by omega)), (Frm.mono (((((hF19.mono (G' := fun b => (b = g3) ∨ (b = g39)) fun _ _ h => .inl h).trans (Frm.of_ext (G := fun b => (b = g3) ∨ (b = g39)) hE42)).trans (hU46.mono (G' := fun b => (b = g3) ∨ (b = g39)) fun _ _ h => .inr h)).trans (Frm.of_ext (G := fun b => (b = g3) ∨ (b = g39)) hE52)).trans (hU57.mono (G' := fun b => (b = g3) ∨ (b = g39)) fun _ _ h => .inl h)) q4), ?_, ?_, ?_, ?_, ?_, ?_⟩
      · exact hB59
      · omega
      · simp [hL]
      · exact AllN.snoc h60 (NatR.sub h61 q5) (by (try dsimp only); omega)
      · exact map_snoc hz (by omega) (by show zval _ _ = _; rw [v_50, z_37])
      · exact AllC.snoc hC cn_50
    · refine sEv (v := (.bool false)) (evLss false rfl rfl (dF hc30)) rfl rfl ?_
      refine sDone ?_
      refine xN (hK29 _ _ ?_)
      refine wp_seq_k fun K62 hK62 => ?_
      refine cF rfl ?_
      refine wp_exit (xE (xE (bE ?_)))
      refine xN (hK10 _ _ ?_)
      refine wp_seq_k fun K63 hK63 => ?_
      refine wp_region_lit ?_
      refine sEv (v := (.slice (some ⟨g3, 0, none⟩) nf nf)) (rfl) rfl rfl ?_
      refine sEv (v := (.slice (some ⟨g3, 0, none⟩) nf nf)) (rfl) rfl rfl ?_
      refine sDone ?_
      refine xN (hK63 _ _ ?_)
      refine wp_ret ?_
      refine ret1 (.slice (some ⟨g3, 0, none⟩) nf nf) Try.results78 (resT rfl) ?_
      have h64 : PolyR w13 (fun b => g3 ≤ b) (some ⟨g3, 0, none⟩) nf nf (L ++ List.replicate (nf - k) RI.zero) (Mf) := PolyR.of_blk hB20 (AllN.app (AllN.sub hA q5) (AllN.zeros _)) (by (try dsimp only); omega) (by exact lq) (by omega) (by unfold CapMax; omega)
      exact ⟨(some ⟨g3, 0, none⟩), nf, nf, (L ++ List.replicate (nf - k) RI.zero), rfl, (Frm.mono ((Frm.of_ext (G := fun b => (b = g3)) hE6).trans hF19) q4), (PolyR.le (PolyR.sub h64 q5) (by omega)), (map_all hz (by omega) (by omega)), (by omega), (AllC.app hC (AllC.zeros _))⟩

theorem unipoly_transform_Scale {w : World} {Sf : Nat → Prop} {Af : Option Addr} {nf cf Mf : Nat} {lf : List RI} {pc : Nat} {gc : Bool} {Sc : Nat → Prop} {Ac : Option Addr} {nc cc : Nat} {dc : List Nat} (hf : PolyR w Sf Af nf cf lf Mf) (Bc : Blk w pc 46 [.bool gc, .slice Ac nc cc]) (hc : NatR w Sc Ac nc cc dc) (hnf : nf ≤ 1048576) (hMf : Mf ≤ 1073741824) (hnc : nc ≤ 1073741824) : Calls Try.prog 78 #[(.slice Af nf cf), (.func (.func 80) #[] #[(.pointer (some ⟨pc, 0, none⟩))])] w (Ret fun v w' => ∃ (Ar : Option Addr) (nr : Nat) (cr : Nat) (lr : List RI), v = (.slice Ar nr cr) ∧ Ext w w' ∧ PolyR w' (fun b => w.heap.size ≤ b) Ar nr cr lr (Mf + nc) ∧ (zs lr = (zs lf).map (fun x => zval gc dc * x)) ∧ (nr = nf) ∧ (AllC lr)) := by
  have kf := hf.len; have jf := hf.cap; have mf := hf.max
  replace hf := hf.low
  have lc := hc.len; have kc := hc.cap; have mc := hc.max
  replace hc := hc.low
  have ltc := Bc.lt
  refine enter Try.func78 rfl Try.ntmps78 rfl ?_
  refine wp_seq_k fun K1 hK1 => ?_
  refine wp_region_lit ?_
  refine sEv (v := (.slice none 0 0)) (rfl) rfl rfl ?_
  refine sDone ?_
  refine xN (hK1 _ _ ?_)
  refine wp_seq_k fun K2 hK2 => ?_
  refine wp_region_lit ?_
  refine sEv (v := (.slice Af nf cf)) (rfl) rfl rfl ?_
  refine sEv (v := (.int .i64 ((nf : Int)))) (evLen Try.underlying23 rfl) rfl rfl ?_
  refine sOp rfl (oMake2 nf Try.underlying23 inf46 (congrArg (Value.int .i64) (by omega)) (congrArg (Value.int .i64) (by omega)) (by omega) (by omega) ?_)
  intro g3 w4 hg5 hE6 hz7 hB8
  have hB9 : Blk w4 g3 46 (cellsI (List.replicate nf RI.zero)) := hB8
  refine sEv (v := (.slice (some ⟨g3, 0, none⟩) nf nf)) (rfl) rfl rfl ?_
  refine sDone ?_
  refine xN (hK2 _ _ ?_)
  refine wp_seq_k fun K10 hK10 => ?_
  refine wp_seq_k fun K11 hK11 => ?_
  refine wp_region_lit ?_
  refine sEv (v := (.slice Af nf cf)) (rfl) rfl rfl ?_
  refine sEv (v := (.int .i64 ((nf : Int)))) (evLen Try.underlying23 rfl) rfl rfl ?_
  refine sEv (v := (.int .i64 (0))) (rfl) rfl rfl ?_
  refine sDone ?_
  refine xN (hK11 _ _ ?_)
  refine wp_block ?_
  refine lLoop (fun m e w_ => ∃ (k : Nat) (L : List RI), m = nf - k ∧ e 1 = (.func (.func 80) #[] #[(.pointer (some ⟨pc, 0, none⟩))]) ∧ e 5 = (.slice (some ⟨g3, 0, none⟩) nf nf) ∧ e 11 = (.slice Af nf cf) ∧ e 12 = (.int .i64 ((nf : Int))) ∧ e 13 = (.int .i64 ((k : Int))) ∧ Frm (fun b => b = g3) w4 w_ ∧ Blk w_ g3 46 (cellsI (L ++ List.replicate (nf - k) RI.zero)) ∧ (k ≤ nf) ∧ (L.length = k) ∧ (AllN w_ (fun b => g3 < b) (Mf + nc) L) ∧ (zs L = ((zs lf).take k).map (fun x => zval gc dc * x)) ∧ (AllC L)) (nf - (0)) ?_ ?_
  · refine ⟨(0), ([]), rfl, rfl, rfl, rfl, rfl, (congrArg (Value.int .i64) (by omega)), (Frm.refl _ _), ?_, ?_, ?_, ?_, ?_, ?_⟩
    · simpa using hB9
    · omega
    · rfl
    · exact AllN.nil
    · simp
    · exact AllC.nil
  · rintro m12 e22 w13 ⟨k, L, hm21, hs14, hs15, hs16, hs17, hs18, hF19, hB20, hk, hL, hA, hz, hC⟩
    obtain ⟨r23, rfl⟩ := sq (e := e22) (t := 1) hs14
    obtain ⟨r24, rfl⟩ := sq (e := r23) (t := 5) hs15
    obtain ⟨r25, rfl⟩ := sq (e := r24) (t := 11) hs16
    obtain ⟨r26, rfl⟩ := sq (e := r25) (t := 12) hs17
    obtain ⟨r27, rfl⟩ := sq (e := r26) (t := 13) hs18
    have hz28 := hF19.size
    refine wp_seq_k fun K29 hK29 => ?_
    refine wp_region_lit ?_
    by_cases hc30 : ((k : Int)) < ((nf : Int))
    · refine sEv (v := (.bool true)) (evLss true rfl rfl (dT hc30)) rfl rfl ?_
      refine sDone ?_
      refine xN (hK29 _ _ ?_)
      refine wp_seq_k fun K31 hK31 => ?_
      refine cT rfl ?_
      refine wp_skip ?_
      refine xN (hK31 _ _ ?_)
      refine wp_seq_k fun K32 hK32 => ?_
      refine wp_block ?_
      refine wp_seq_k fun K33 hK33 => ?_
      refine wp_region_lit ?_
      refine sEv (v := (.int .i64 ((k : Int)))) (rfl) rfl rfl ?_
      have h34 := (hf.frmB ((Frm.of_ext (G := fun b => (b = g3)) hE6).trans hF19) q3)
      obtain ⟨b35, o36, rfl⟩ := h34.base (by omega)
      refine sEv (v := (.pointer (some ⟨b35, o36 + (k * 2), none⟩))) (evIndex k Try.underlying23 sz46 rfl rfl (by omega) (by omega) (o36 + (k * 2)) (by omega)) rfl rfl ?_
      obtain ⟨g_37, A_37, n_37, c_37, d_37, he_37, hp_37, hq_37, h_37, hM_37, hS_37, hb_37, z_37⟩ := h34.at_ (i := k) (by omega)
      have l_37 := h_37.len; have k_37 := h_37.cap; have m_37 := h_37.max
      refine sEv (v := (.agg #[(.bool g_37), (.slice A_37 n_37 c_37)])) (evLoadA [(.bool g_37), (.slice A_37 n_37 c_37)] agg46 sz46 rfl (cell2 hp_37 hq_37)) rfl rfl ?_
      refine sOp rfl (oAlloc [(.bool false), (.slice none 0 0)] zero46 rfl ?_)
      intro g39 w40 hg41 hE42 hz43 hB44
      refine sEv (v := (.int .i64 ((k : Int)))) (rfl) rfl rfl ?_
      refine sOp rfl (oStore [(.bool g_37), (.slice A_37 n_37 c_37)] rfl rfl rfl sz46 rfl hB44 (Nat.le_of_ble_eq_true rfl) ?_)
      intro w45 hU46 hz47 hB48
      replace hB48 : Blk w45 g39 46 [(.bool g_37), (.slice A_37 n_37 c_37)] := hB48
      refine sDone ?_
      refine xN (hK33 _ _ ?_)
      refine wp_region_lit ?_
      refine sEv (v := (.slice (some ⟨g3, 0, none⟩) nf nf)) (rfl) rfl rfl ?_
      refine sEv (v := (.int .i64 ((k : Int)))) (rfl) rfl rfl ?_
      refine sEv (v := (.func (.func 80) #[] #[(.pointer (some ⟨pc, 0, none⟩))])) (rfl) rfl rfl ?_
      refine sEv (v := (.agg #[(.bool g_37), (.slice A_37 n_37 c_37)])) (evLoadAB [(.bool g_37), (.slice A_37 n_37 c_37)] agg46 sz46 rfl hB48 rfl) rfl rfl ?_
      have h49 := (h_37.frmB ((Frm.of_ext (G := fun b => (b = g39)) hE42).trans hU46) q3)
      have hB50 := (Bc.frm ((((Frm.of_ext (G := fun b => (b = g3) ∨ (b = g39)) hE6).trans (hF19.mono (G' := fun b => (b = g3) ∨ (b = g39)) fun _ _ h => .inl h)).trans (Frm.of_ext (G := fun b => (b = g3) ∨ (b = g39)) hE42)).trans (hU46.mono (G' := fun b => (b = g3) ∨ (b = g39)) fun _ _ h => .inr h)) q1)
      have h51 := (hc.frmB ((((Frm.of_ext (G := fun b => (b = g3) ∨ (b = g39)) hE6).trans (hF19.mono (G' := fun b => (b = g3) ∨ (b = g39)) fun _ _ h => .inl h)).trans (Frm.of_ext (G := fun b => (b = g3) ∨ (b = g39)) hE42)).trans (hU46.mono (G' := fun b => (b = g3) ∨ (b = g39)) fun _ _ h => .inr h)) q3)
      refine sOp rfl (oCall rfl call80 (unipoly_Scale1 h49 hB50 h51 (by omega)) rfl ?_)
      rintro _ w53 ⟨gr_52, Ar_52, nr_52, cr_52, dr_52, rfl, hE54, hr_52, v_52, cn_52, le_52⟩
      have hz55 := hE54.size
      have lr_52 := hr_52.len; have kr_52 := hr_52.cap; have mr_52 := hr_52.max
      refine sEv (v := (.pointer (some ⟨g3, k * 2, none⟩))) (evIndex k Try.underlying23 sz46 rfl rfl (by omega) (by omega) (k * 2) (by omega)) rfl rfl ?_
      have hB57 := (hB20.frm (((Frm.of_ext (G := fun b => (b = g39)) hE42).trans hU46).trans (Frm.of_ext (G := fun b => (b = g39)) hE54)) q1)
      refine sOp rfl (oStore [(.bool gr_52), (.slice Ar_52 nr_52 cr_52)] rfl rfl rfl sz46 rfl hB57 (by rw [cellsI_len]; simp only [List.length_cons, List.length_nil]; exact lq) ?_)
      intro w58 hU59 hz60 hB61
      replace hB61 := (cellsI_set (l := L ++ List.replicate (nf - k) RI.zero) (i := k) ⟨gr_52, Ar_52, nr_52, cr_52, dr_52⟩ (by exact lq)) ▸ hB61
      replace hB61 : Blk w58 g3 46 (cellsI ((L ++ [⟨gr_52, Ar_52, nr_52, cr_52, dr_52⟩]) ++ List.replicate (nf - (k + 1)) RI.zero)) := (fillI_set hL (by omega) : (L ++ List.replicate (nf - k) RI.zero).set k ⟨gr_52, Ar_52, nr_52, cr_52, dr_52⟩ = (L ++ [⟨gr_52, Ar_52, nr_52, cr_52, dr_52⟩]) ++ List.replicate (nf - (k + 1)) RI.zero) ▸ hB61
      refine sDone ?_
      refine bN ?_
      refine xN (hK32 _ _ ?_)
      refine wp_region_lit ?_
      refine sEv (v := (.int .i64 (((k : Int)) + 1))) (evAdd (((k : Int)) + 1) rfl rfl (wI64 (by omega))) rfl rfl ?_
      refine sEv (v := (.int .i64 (((k : Int)) + 1))) (rfl) rfl rfl ?_
      refine sDone ?_
      have h62 := (hA.frmB ((((Frm.of_ext (G := fun b => (b = g39) ∨ (b = g3)) hE42).trans (hU46.mono (G' := fun b => (b = g39) ∨ (b = g3)) fun _ _ h => .inl h)).trans (Frm.of_ext (G := fun b => (b = g39) ∨ (b = g3)) hE54)).trans (hU59.mono (G' := fun b => (b = g39) ∨ (b = g3)) fun _ _ h => .inr h)) q3)
      have h63 := (hr_52.frmB hU59 q3)
      refine again (nf - (k + 1)) (by omega) ⟨(k + 1), (L ++ [⟨gr_52, Ar_52, nr_52, cr_52, dr_52⟩]), rfl, rfl, rfl, rfl, rfl, (congrArg (Value.int .i64) (by omega)), (Frm.mono (((((hF19.mono (G' := fun b => (b = g3) ∨ (b = g39)) fun _ _ h => .inl h).trans (Frm.of_ext (G := fun b => (b = g3) ∨ (b = g39)) hE42)).trans (hU46.mono (G' := fun b => (b = g3) ∨ (b = g39)) fun _ _ h => .inr h)).trans (Frm.of_ext (G := fun b => (b = g3) ∨ (b = g39)) hE54)).trans (hU59.mono (G' := fun b => (b = g3) ∨ (b = g39)) fun _ _ h => .inl h)) q4), ?_, ?_, ?_, ?_, ?_, ?_⟩
      · exact hB61
      · omega
      · simp [hL]
      · exact AllN.snoc h62 (NatR.sub h63 q5) (by (try dsimp only); omega)
      · exact map_snoc hz (by omega) (by show zval _ _ = _; rw [v_52, z_37])
      · exact AllC.snoc hC cn_52
    · refine sEv (v := (.bool false)) (evLss false rfl rfl (dF hc30)) rfl rfl ?_
      refine sDone ?_
      refine xN (hK29 _ _ ?_)
      refine wp_seq_k fun K64 hK64 => ?_
      refine cF rfl ?_
      refine wp_exit (xE (xE (bE ?_)))
      refine xN (hK10 _ _ ?_)
      refine wp_seq_k fun K65 hK65 => ?_
      refine wp_region_lit ?_
      refine sEv (v := (.slice (some ⟨g3, 0, none⟩) nf nf)) (rfl) rfl rfl ?_
      refine sEv (v := (.slice (some ⟨g3, 0, none⟩) nf nf)) (rfl) rfl rfl ?_
      refine sDone ?_
      refine xN (hK65 _ _ ?_)
      refine wp_ret ?_
      refine ret1 (.slice (some ⟨g3, 0, none⟩) nf nf) Try.results78 (resT rfl) ?_
      have h66 : PolyR w13 (fun b => g3 ≤ b) (some ⟨g3, 0, none⟩) nf nf (L ++ List.replicate (nf - k) RI.zero) (Mf + nc) := PolyR.of_blk hB20 (AllN.app (AllN.sub hA q5) (AllN.zeros _)) (by (try dsimp only); omega) (by exact lq) (by omega) (by unfold CapMax; omega)
      exact ⟨(some ⟨g3, 0, none⟩), nf, nf, (L ++ List.replicate (nf - k) RI.zero), rfl, (Frm.mono ((Frm.of_ext (G := fun b => (b = g3)) hE6).trans hF19) q4), (PolyR.le (PolyR.sub h66 q5) (by omega)), (map_all hz (by omega) (by omega)), (by omega), (AllC.app hC (AllC.zeros _))⟩

theorem unipoly_Normal {w : World} {Sf : Nat → Prop} {Af : Option Addr} {nf cf Mf : Nat} {lf : List RI} (hf : PolyR w Sf Af nf cf lf Mf) (hnf : nf ≤ 1048576) (hMf : Mf ≤ 1073741824) : Calls Try.prog 37 #[(.slice Af nf cf)] w (Ret fun v w' => ∃ (qr : Nat) (nr : Nat) (lr : List RI), v = (.slice (some ⟨qr, 0, none⟩) nr nr) ∧ Ext w w' ∧ (fun b => w.heap.size ≤ b) qr ∧ Blk w' qr 46 (cellsI lr) ∧ AllN w' (fun b => qr < b) (Mf) lr ∧ lr.length = nr ∧ nr ≤ 9223372036854775807 ∧ (zs lr = trimZ (zs lf)) ∧ (nr ≤ nf) ∧ (AllC lr)) := by
  have kf := hf.len; have jf := hf.cap; have mf := hf.max
  replace hf := hf.low
  refine enter Try.func37 rfl Try.ntmps37 rfl ?_
  refine wp_seq_k fun K1 hK1 => ?_
  refine wp_region_lit ?_
  refine sEv (v := (.slice none 0 0)) (rfl) rfl rfl ?_
  refine sDone ?_
  refine xN (hK1 _ _ ?_)
  refine wp_seq_k fun K2 hK2 => ?_
  refine wp_region_lit ?_
  refine sEv (v := (.slice Af nf cf)) (rfl) rfl rfl ?_
  refine sOp rfl (oCall rfl call68 (unipoly_trim hf) rfl ?_)
  rintro _ w4 ⟨Ar_3, nr_3, cr_3, lr_3, rfl, hE5, hr_3, e_3, le_3⟩
  have hz6 := hE5.size
  have kr_3 := hr_3.len; have jr_3 := hr_3.cap; have mr_3 := hr_3.max
  refine sOp rfl (oCall rfl call78 (unipoly_transform_Normal hr_3 (by omega) (by omega)) rfl ?_)
  rintro _ w9 ⟨qr_8, nr_8, lr_8, rfl, hE10, hgr_8, Br_8, hAr_8, kr_8, mr_8, e_8, ln_8, cn_8⟩
  have hz11 := hE10.size
  have hhr_8 : w4.heap.size ≤ qr_8 := hgr_8; have ltr_8 := Br_8.lt
  refine sEv (v := (.slice (some ⟨qr_8, 0, none⟩) nr_8 nr_8)) (rfl) rfl rfl ?_
  refine sDone ?_
  refine xN (hK2 _ _ ?_)
  refine wp_ret ?_
  refine ret1 (.slice (some ⟨qr_8, 0, none⟩) nr_8 nr_8) Try.results37 (resT rfl) ?_
  exact ⟨qr_8, nr_8, lr_8, rfl, (hE5.trans hE10), (by show _ ≤ _; omega), Br_8, (AllN.le (AllN.sub hAr_8 q5) (by omega)), (by exact lq), (by omega), (by rw [e_8, e_3, zs_trim, map_id2]), (by omega), cn_8⟩

theorem unipoly_Neg {w : World} {Sf : Nat → Prop} {Af : Option Addr} {nf cf Mf : Nat} {lf : List RI} (hf : PolyR w Sf Af nf cf lf Mf) (hnf : nf ≤ 1048576) (hMf : Mf ≤ 1073741824) : Calls Try.prog 40 #[(.slice Af nf cf)] w (Ret fun v w' => ∃ (Ar : Option Addr) (nr : Nat) (cr : Nat) (lr : List RI), v = (.slice Ar nr cr) ∧ Ext w w' ∧ PolyR w' (fun b => w.heap.size ≤ b) Ar nr cr lr (Mf) ∧ (zs lr = trimZ (scaleP (zs lf) (-1))) ∧ (nr ≤ nf) ∧ (AllC lr)) := by
  have kf := hf.len; have jf := hf.cap; have mf := hf.max
  replace hf := hf.low
  refine enter Try.func40 rfl Try.ntmps40 rfl ?_
  refine wp_seq_k fun K1 hK1 => ?_
  refine wp_region_lit ?_
  refine sEv (v := (.slice none 0 0)) (rfl) rfl rfl ?_
  refine sDone ?_
  refine xN (hK1 _ _ ?_)
  refine wp_seq_k fun K2 hK2 => ?_
  refine wp_region_lit ?_
  refine sEv (v := (.slice Af nf cf)) (rfl) rfl rfl ?_
  refine sOp rfl (oCall rfl call68 (unipoly_trim hf) rfl ?_)
  rintro _ w4 ⟨Ar_3, nr_3, cr_3, lr_3, rfl, hE5, hr_3, e_3, le_3⟩
  have hz6 := hE5.size
  have kr_3 := hr_3.len; have jr_3 := hr_3.cap; have mr_3 := hr_3.max
  refine sOp rfl (oCall rfl call78 (unipoly_transform_Neg hr_3 (by omega) (by omega)) rfl ?_)
  rintro _ w9 ⟨Ar_8, nr_8, cr_8, lr_8, rfl, hE10, hr_8, e_8, ln_8, cn_8⟩
  have hz11 := hE10.size
  have kr_8 := hr_8.len; have jr_8 := hr_8.cap; have mr_8 := hr_8.max
  refine sEv (v := (.slice Ar_8 nr_8 cr_8)) (rfl) rfl rfl ?_
  refine sDone ?_
  refine xN (hK2 _ _ ?_)
  refine wp_ret ?_
  refine ret1 (.slice Ar_8 nr_8 cr_8) Try.results40 (resT rfl) ?_
  exact ⟨Ar_8, nr_8, cr_8, lr_8, rfl, (hE5.trans hE10), (PolyR.le (PolyR.sub hr_8 q5) (by omega)), (by rw [e_8, e_3, zs_trim, neg_scale]; exact neg_trim _), (by omega), cn_8⟩

theorem unipoly_Scale {w : World} {Sf : Nat → Prop} {Af : Option Addr} {nf cf Mf : Nat} {lf : List RI} {gc : Bool} {Sc : Nat → Prop} {Ac : Option Addr} {nc cc : Nat} {dc : List Nat} (hf : PolyR w Sf Af nf cf lf Mf) (hc : NatR w Sc Ac nc cc dc) (hnf : nf ≤ 1048576) (hMf : Mf ≤ 1073741824) (hnc : nc ≤ 1073741824) : Calls Try.prog 41 #[(.slice Af nf cf), (.agg #[(.bool gc), (.slice Ac nc cc)])] w (Ret fun v w' => ∃ (Ar : Option Addr) (nr : Nat) (cr : Nat) (lr : List RI), v = (.slice Ar nr cr) ∧ Ext w w' ∧ PolyR w' (fun b => w.heap.size ≤ b) Ar nr cr lr (Mf + nc) ∧ (zs lr = trimZ (scaleP (zs lf) (zval gc dc))) ∧ (nr ≤ nf) ∧ (AllC lr)) := by
  have kf := hf.len; have jf := hf.cap; have mf := hf.max
  replace hf := hf.low
  have lc := hc.len; have kc := hc.cap; have mc := hc.max
  replace hc := hc.low
  refine enter Try.func41 rfl Try.ntmps41 rfl ?_
  refine wp_seq_k fun K1 hK1 => ?_
  refine wp_region_lit ?_
  refine sOp rfl (oBox [(.bool gc), (.slice Ac nc cc)] rfl rfl ?_)
  intro g2 w3 hg4 hE5 hz6 hB7
  refine sEv (v := (.slice none 0 0)) (rfl) rfl rfl ?_
  refine sDone ?_
  refine xN (hK1 _ _ ?_)
  refine wp_seq_k fun K8 hK8 => ?_
  refine wp_region_lit ?_
  refine sEv (v := (.slice Af nf cf)) (rfl) rfl rfl ?_
  refine sEv (v := (.func (.func 80) #[] #[(.pointer (some ⟨g2, 0, none⟩))])) (evK (by kernel_rfl)) rfl rfl ?_
  have h9 := (hf.ext hE5)
  have h10 := (hc.ext hE5)
  refine sOp rfl (oCall rfl call78 (unipoly_transform_Scale h9 hB7 h10 (by omega) (by omega) (by omega)) rfl ?_)
  rintro _ w12 ⟨Ar_11, nr_11, cr_11, lr_11, rfl, hE13, hr_11, e_11, ln_11, cn_11⟩
  have hz14 := hE13.size
  have kr_11 := hr_11.len; have jr_11 := hr_11.cap; have mr_11 := hr_11.max
  refine sOp rfl (oCall rfl call68 (unipoly_trim hr_11) rfl ?_)
  rintro _ w17 ⟨Ar_16, nr_16, cr_16, lr_16, rfl, hE18, hr_16, e_16, le_16⟩
  have hz19 := hE18.size
  have kr_16 := hr_16.len; have jr_16 := hr_16.cap; have mr_16 := hr_16.max
  refine sEv (v := (.slice Ar_16 nr_16 cr_16)) (rfl) rfl rfl ?_
  refine sDone ?_
  refine xN (hK8 _ _ ?_)
  refine wp_ret ?_
  refine ret1 (.slice Ar_16 nr_16 cr_16) Try.results41 (resT rfl) ?_
  exact ⟨Ar_16, nr_16, cr_16, lr_16, rfl, ((hE5.trans hE13).trans hE18), (PolyR.le (PolyR.sub hr_16 q5) (by omega)), (by rw [e_16, zs_trim, e_11, scale_comm]), (by omega), (by rw [e_16]; exact cn_11.trim)⟩

theorem unipoly_Degree {w : World} {Sf : Nat → Prop} {Af : Option Addr} {nf cf Mf : Nat} {lf : List RI} (hf : PolyR w Sf Af nf cf lf Mf) (hnf : nf ≤ 1048576) (hMf : Mf ≤ 1073741824) : Calls Try.prog 42 #[(.slice Af nf cf)] w (Ret fun v w' => ∃ (xr : Int), v = (.int .i64 (xr)) ∧ Ext w w' ∧ (xr = ((trimZ (zs lf)).length : Int) - 1)) := by
  have kf := hf.len; have jf := hf.cap; have mf := hf.max
  replace hf := hf.low
  refine enter Try.func42 rfl Try.ntmps42 rfl ?_
  refine wp_seq_k fun K1 hK1 => ?_
  refine wp_region_lit ?_
  refine sEv (v := (.int .i64 (0))) (rfl) rfl rfl ?_
  refine sDone ?_
  refine xN (hK1 _ _ ?_)
  refine wp_seq_k fun K2 hK2 => ?_
  refine wp_region_lit ?_
  refine sEv (v := (.slice Af nf cf)) (rfl) rfl rfl ?_
  refine sOp rfl (oCall rfl call68 (unipoly_trim hf) rfl ?_)
  rintro _ w4 ⟨Ar_3, nr_3, cr_3, lr_3, rfl, hE5, hr_3, e_3, le_3⟩
  have hz6 := hE5.size
  have kr_3 := hr_3.len; have jr_3 := hr_3.cap; have mr_3 := hr_3.max
  refine sEv (v := (.int .i64 ((nr_3 : Int)))) (evLen Try.underlying23 rfl) rfl rfl ?_
  refine sEv (v := (.int .i64 (((nr_3 : Int)) - 1))) (evSub (((nr_3 : Int)) - 1) rfl rfl (wI64 (by omega))) rfl rfl ?_
  refine sEv (v := (.int .i64 (((nr_3 : Int)) - 1))) (rfl) rfl rfl ?_
  refine sDone ?_
  refine xN (hK2 _ _ ?_)
  refine wp_ret ?_
  refine ret1 (.int .i64 (((nr_3 : Int)) - 1)) Try.results42 (resT rfl) ?_
  exact ⟨(((nr_3 : Int)) - 1), rfl, hE5, (by rw [← zs_trim, ← e_3, zlen]; omega)⟩

theorem unipoly_Lead {w : World} {Sf : Nat → Prop} {Af : Option Addr} {nf cf Mf : Nat} {lf : List RI} (hf : PolyR w Sf Af nf cf lf Mf) (hnf : nf ≤ 1048576) (hMf : Mf ≤ 1073741824) : Calls Try.prog 36 #[(.slice Af nf cf)] w (Ret fun v w' => ∃ (gr : Bool) (Ar : Option Addr) (nr : Nat) (cr : Nat) (dr : List Nat), v = (.agg #[(.bool gr), (.slice Ar nr cr)]) ∧ Ext w w' ∧ NatR w' (fun b => w.heap.size ≤ b) Ar nr cr dr ∧ (zval gr dr = coI (trimZ (zs lf)) (((trimZ (zs lf)).length : Int) - 1)) ∧ (ICan gr dr) ∧ (nr ≤ Mf)) := by
  have kf := hf.len; have jf := hf.cap; have mf := hf.max
  replace hf := hf.low
  refine enter Try.func36 rfl Try.ntmps36 rfl ?_
  refine wp_seq_k fun K1 hK1 => ?_
  refine wp_region_lit ?_
  refine sOp rfl (oAlloc [(.bool false), (.slice none 0 0)] zero46 rfl ?_)
  intro g2 w3 hg4 hE5 hz6 hB7
  refine sDone ?_
  refine xN (hK1 _ _ ?_)
  refine wp_seq_k fun K8 hK8 => ?_
  refine wp_region_lit ?_
  refine sEv (v := (.slice Af nf cf)) (rfl) rfl rfl ?_
  have h9 := (hf.ext hE5)
  refine sOp rfl (oCall rfl call68 (unipoly_trim h9) rfl ?_)
  rintro _ w11 ⟨Ar_10, nr_10, cr_10, lr_10, rfl, hE12, hr_10, e_10, le_10⟩
  have hz13 := hE12.size
  have kr_10 := hr_10.len; have jr_10 := hr_10.cap; have mr_10 := hr_10.max
  refine sEv (v := (.slice Ar_10 nr_10 cr_10)) (rfl) rfl rfl ?_
  refine sDone ?_
  refine xN (hK8 _ _ ?_)
  refine wp_seq_k fun K15 hK15 => ?_
  refine wp_seq_k fun K16 hK16 => ?_
  refine wp_region_lit ?_
  refine sEv (v := (.slice Ar_10 nr_10 cr_10)) (rfl) rfl rfl ?_
  refine sEv (v := (.int .i64 ((nr_10 : Int)))) (evLen Try.underlying23 rfl) rfl rfl ?_
  by_cases hc17 : ((nr_10 : Int)) = 0
  · refine sEv (v := (.bool true)) (evEql true rfl rfl (dT hc17)) rfl rfl ?_
    refine sDone ?_
    refine xN (hK16 _ _ ?_)
    refine cT rfl ?_
    refine wp_seq_k fun K18 hK18 => ?_
    refine wp_region_lit ?_
    refine sEv (v := (.agg #[(.bool false), (.slice none 0 0)])) (evK (by kernel_rfl)) rfl rfl ?_
    have hB19 := (hB7.ext hE12)
    refine sOp rfl (oStore [(.bool false), (.slice none 0 0)] rfl rfl rfl sz46 rfl hB19 (Nat.le_of_ble_eq_true rfl) ?_)
    intro w20 hU21 hz22 hB23
    replace hB23 : Blk w20 g2 46 [(.bool false), (.slice none 0 0)] := hB23
    refine sDone ?_
    refine xN (hK18 _ _ ?_)
    refine wp_ret (xR ?_)
    refine ret1 (.agg #[(.bool false), (.slice none 0 0)]) Try.results36 (resB [(.bool false), (.slice none 0 0)] agg46 sz46 rfl hB23) ?_
    exact ⟨false, none, 0, 0, ([]), rfl, (Frm.mono (((Frm.of_ext (G := fun b => (b = g2)) hE5).trans (Frm.of_ext (G := fun b => (b = g2)) hE12)).trans hU21) q4), NatR.nil, (by rw [zval_nil]; exact coI_out (.inl (by rw [← zs_trim, ← e_10, zlen]; omega))), ICan.zero, (by omega)⟩
  · refine sEv (v := (.bool false)) (evEql false rfl rfl (dF hc17)) rfl rfl ?_
    refine sDone ?_
    refine xN (hK16 _ _ ?_)
    refine cF rfl ?_
    refine wp_skip ?_
    refine xN (hK15 _ _ ?_)
    refine wp_seq_k fun K24 hK24 => ?_
    refine wp_region_lit ?_
    refine sEv (v := (.slice Ar_10 nr_10 cr_10)) (rfl) rfl rfl ?_
    refine sEv (v := (.slice Ar_10 nr_10 cr_10)) (rfl) rfl rfl ?_
    refine sEv (v := (.int .i64 ((nr_10 : Int)))) (evLen Try.underlying23 rfl) rfl rfl ?_
    refine sEv (v := (.int .i64 (((nr_10 : Int)) - 1))) (evSub (((nr_10 : Int)) - 1) rfl rfl (wI64 (by omega))) rfl rfl ?_
    obtain ⟨b25, o26, rfl⟩ := hr_10.base (by omega)
    refine sEv (v := (.pointer (some ⟨b25, o26 + ((nr_10 - 1) * 2), none⟩))) (evIndex (nr_10 - 1) Try.underlying23 sz46 rfl rfl (by omega) (by omega) (o26 + ((nr_10 - 1) * 2)) (by omega)) rfl rfl ?_
    obtain ⟨g_27, A_27, n_27, c_27, d_27, he_27, hp_27, hq_27, h_27, hM_27, hS_27, hb_27, z_27⟩ := hr_10.at_ (i := nr_10 - 1) (by omega)
    have l_27 := h_27.len; have k_27 := h_27.cap; have m_27 := h_27.max
    refine sEv (v := (.agg #[(.bool g_27), (.slice A_27 n_27 c_27)])) (evLoadA [(.bool g_27), (.slice A_27 n_27 c_27)] agg46 sz46 rfl (cell2 hp_27 hq_27)) rfl rfl ?_
    refine sOp rfl (oCall rfl call73 (integer_Normal h_27 (by omega)) rfl ?_)
    rintro _ w30 ⟨gr_29, Ar_29, nr_29, cr_29, dr_29, rfl, hE31, hr_29, v_29, cn_29, le_29⟩
    have hz32 := hE31.size
    have lr_29 := hr_29.len; have kr_29 := hr_29.cap; have mr_29 := hr_29.max
    have hB34 := (hB7.ext (hE12.trans hE31))
    refine sOp rfl (oStore [(.bool gr_29), (.slice Ar_29 nr_29 cr_29)] rfl rfl rfl sz46 rfl hB34 (Nat.le_of_ble_eq_true rfl) ?_)
    intro w35 hU36 hz37 hB38
    replace hB38 : Blk w35 g2 46 [(.bool gr_29), (.slice Ar_29 nr_29 cr_29)] := hB38
    refine sDone ?_
    refine xN (hK24 _ _ ?_)
    refine wp_ret ?_
    refine ret1 (.agg #[(.bool gr_29), (.slice Ar_29 nr_29 cr_29)]) Try.results36 (resB [(.bool gr_29), (.slice Ar_29 nr_29 cr_29)] agg46 sz46 rfl hB38) ?_
    have h39 := (hr_29.frmB hU36 q3)
    exact ⟨gr_29, Ar_29, nr_29, cr_29, dr_29, rfl, (Frm.mono ((((Frm.of_ext (G := fun b => (b = g2)) hE5).trans (Frm.of_ext (G := fun b => (b = g2)) hE12)).trans (Frm.of_ext (G := fun b => (b = g2)) hE31)).trans hU36) q4), (NatR.sub h39 q5), (by rw [v_29, z_27, ← zs_trim, ← e_10, zlen, kr_10, show ((nr_10 : Int) - 1) = ((nr_10 - 1 : Nat) : Int) by omega, coI_nat]), cn_29, (by omega)⟩

theorem unipoly_Derivative {w : World} {Sf : Nat → Prop} {Af : Option Addr} {nf cf Mf : Nat} {lf : List RI} (hf : PolyR w Sf Af nf cf lf Mf) (hnf : nf ≤ 1048576) (hMf : Mf ≤ 1073741824) : Calls Try.prog 20 #[(.slice Af nf cf)] w (Ret fun v w' => ∃ (Ar : Option Addr) (nr : Nat) (cr : Nat) (lr : List RI), v = (.slice Ar nr cr) ∧ Ext w w' ∧ PolyR w' (fun b => w.heap.size ≤ b) Ar nr cr lr (Mf + 2) ∧ (zs lr = trimZ (derivP (zs lf))) ∧ (nr ≤ nf) ∧ (AllC lr)) := by
  have kf := hf.len; have jf := hf.cap; have mf := hf.max
  replace hf := hf.low
  refine enter Try.func20 rfl Try.ntmps20 rfl ?_
  refine wp_seq_k fun K1 hK1 => ?_
  refine wp_region_lit ?_
  refine sEv (v := (.slice none 0 0)) (rfl) rfl rfl ?_
  refine sDone ?_
  refine xN (hK1 _ _ ?_)
  refine wp_seq_k fun K2 hK2 => ?_
  refine wp_region_lit ?_
  refine sEv (v := (.slice Af nf cf)) (rfl) rfl rfl ?_
  refine sOp rfl (oCall rfl call68 (unipoly_trim hf) rfl ?_)
  rintro _ w4 ⟨Ar_3, nr_3, cr_3, lr_3, rfl, hE5, hr_3, e_3, le_3⟩
  have hz6 := hE5.size
  have kr_3 := hr_3.len; have jr_3 := hr_3.cap; have mr_3 := hr_3.max
  refine sEv (v := (.slice Ar_3 nr_3 cr_3)) (rfl) rfl rfl ?_
  refine sDone ?_
  refine xN (hK2 _ _ ?_)
  refine wp_seq_k fun K8 hK8 => ?_
  refine wp_seq_k fun K9 hK9 => ?_
  refine wp_region_lit ?_
  refine sEv (v := (.slice Ar_3 nr_3 cr_3)) (rfl) rfl rfl ?_
  refine sEv (v := (.int .i64 ((nr_3 : Int)))) (evLen Try.underlying23 rfl) rfl rfl ?_
  by_cases hc10 : ((nr_3 : Int)) = 0
  · refine sEv (v := (.bool true)) (evEql true rfl rfl (dT hc10)) rfl rfl ?_
    refine sDone ?_
    refine xN (hK9 _ _ ?_)
    refine cT rfl ?_
    refine wp_seq_k fun K11 hK11 => ?_
    refine wp_region_lit ?_
    refine sEv (v := (.slice none 0 0)) (rfl) rfl rfl ?_
    refine sDone ?_
    refine xN (hK11 _ _ ?_)
    refine wp_ret (xR ?_)
    refine ret1 (.slice none 0 0) Try.results20 (resT rfl) ?_
    exact ⟨none, 0, 0, [], rfl, hE5, PolyR.nil, (by rw [← deriv_trim, ← zs_trim, ← e_3, show lr_3 = [] from List.eq_nil_of_length_eq_zero (by omega)]; rfl), (by omega), AllC.nil⟩
  · refine sEv (v := (.bool false)) (evEql false rfl rfl (dF hc10)) rfl rfl ?_
    refine sDone ?_
    refine xN (hK9 _ _ ?_)
    refine cF rfl ?_
    refine wp_skip ?_
    refine xN (hK8 _ _ ?_)
    refine wp_seq_k fun K12 hK12 => ?_
    refine wp_region_lit ?_
    refine sEv (v := (.slice Ar_3 nr_3 cr_3)) (rfl) rfl rfl ?_
    refine sEv (v := (.int .i64 ((nr_3 : Int)))) (evLen Try.underlying23 rfl) rfl rfl ?_
    refine sEv (v := (.int .i64 (((nr_3 : Int)) - 1))) (evSub (((nr_3 : Int)) - 1) rfl rfl (wI64 (by omega))) rfl rfl ?_
    refine sOp rfl (oMake2 (nr_3 - 1) Try.underlying23 inf46 (congrArg (Value.int .i64) (by omega)) (congrArg (Value.int .i64) (by omega)) (by omega) (by omega) ?_)
    intro g13 w14 hg15 hE16 hz17 hB18
    have hB19 : Blk w14 g13 46 (cellsI (List.replicate (nr_3 - 1) RI.zero)) := hB18
    refine sEv (v := (.slice (some ⟨g13, 0, none⟩) (nr_3 - 1) (nr_3 - 1))) (rfl) rfl rfl ?_
    refine sDone ?_
    refine xN (hK12 _ _ ?_)
    refine wp_seq_k fun K20 hK20 => ?_
    refine wp_seq_k fun K21 hK21 => ?_
    refine wp_region_lit ?_
    refine sEv (v := (.slice (some ⟨g13, 0, none⟩) (nr_3 - 1) (nr_3 - 1))) (rfl) rfl rfl ?_
    refine sEv (v := (.int .i64 (((nr_3 - 1 : Nat) : Int)))) (evLen Try.underlying23 rfl) rfl rfl ?_
    refine sEv (v := (.int .i64 (0))) (rfl) rfl rfl ?_
    refine sDone ?_
    refine xN (hK21 _ _ ?_)
    refine wp_block ?_
    refine lLoop (fun m e w_ => ∃ (k : Nat) (L : List RI), m = (nr_3 - 1) - k ∧ e 0 = (.slice Ar_3 nr_3 cr_3) ∧ e 3 = (.slice (some ⟨g13, 0, none⟩) (nr_3 - 1) (nr_3 - 1)) ∧ e 15 = (.int .i64 (((nr_3 - 1 : Nat) : Int))) ∧ e 16 = (.int .i64 ((k : Int))) ∧ Frm (fun b => b = g13) w14 w_ ∧ Blk w_ g13 46 (cellsI (L ++ List.replicate ((nr_3 - 1) - k) RI.zero)) ∧ (k ≤ nr_3 - 1) ∧ (L.length = k) ∧ (AllN w_ (fun b => g13 < b) (Mf + 2) L) ∧ (zs L = (List.range k).map (fun i => co (zs lr_3) (i + 1) * ((i + 1 : Nat) : Int))) ∧ (AllC L)) ((nr_3 - 1) - (0)) ?_ ?_
    · refine ⟨(0), ([]), rfl, rfl, rfl, rfl, (congrArg (Value.int .i64) (by omega)), (Frm.refl _ _), ?_, ?_, ?_, ?_, ?_, ?_⟩
      · simpa using hB19
      · omega
      · rfl
      · exact AllN.nil
      · simp
      · exact AllC.nil
    · rintro m22 e31 w23 ⟨k, L, hm30, hs24, hs25, hs26, hs27, hF28, hB29, hk, hL, hA, hz, hC⟩
      obtain ⟨r32, rfl⟩ := sq (e := e31) (t := 0) hs24
      obtain ⟨r33, rfl⟩ := sq (e := r32) (t := 3) hs25
      obtain ⟨r34, rfl⟩ := sq (e := r33) (t := 15) hs26
      obtain ⟨r35, rfl⟩ := sq (e := r34) (t := 16) hs27
      have hz36 := hF28.size
      refine wp_seq_k fun K37 hK37 => ?_
      refine wp_region_lit ?_
      by_cases hc38 : ((k : Int)) < (((nr_3 - 1 : Nat) : Int))
      · refine sEv (v := (.bool true)) (evLss true rfl rfl (dT hc38)) rfl rfl ?_
        refine sDone ?_
        refine xN (hK37 _ _ ?_)
        refine wp_seq_k fun K39 hK39 => ?_
        refine cT rfl ?_
        refine wp_skip ?_
        refine xN (hK39 _ _ ?_)
        refine wp_seq_k fun K40 hK40 => ?_
        refine wp_block ?_
        refine wp_seq_k fun K41 hK41 => ?_
        refine wp_region_lit ?_
        refine sEv (v := (.int .i64 ((k : Int)))) (rfl) rfl rfl ?_
        refine sEv (v := (.int .i64 ((k : Int)))) (rfl) rfl rfl ?_
        refine sDone ?_
        refine xN (hK41 _ _ ?_)
        refine dBegin (fun b => b = g13) mixed ?_
        intro w42 hE43 hz44
        refine dEv 0 rfl (v := (.slice (some ⟨g13, 0, none⟩) (nr_3 - 1) (nr_3 - 1))) (fun _ _ => rfl) rfl rfl (by kernel_rfl) ?_
        refine dEv 1 rfl (v := (.int .i64 ((k : Int)))) (fun _ _ => rfl) rfl rfl (by kernel_rfl) ?_
        refine dEv 2 rfl (v := (.slice Ar_3 nr_3 cr_3)) (fun _ _ => rfl) rfl rfl (by kernel_rfl) ?_
        refine dEv 3 rfl (v := (.int .i64 ((k : Int)))) (fun _ _ => rfl) rfl rfl (by kernel_rfl) ?_
        refine dEv 4 rfl (v := (.int .i64 (((k : Int)) + 1))) (fun _ _ => evAdd (((k : Int)) + 1) rfl rfl (wI64 (by omega))) rfl rfl (by kernel_rfl) ?_
        have h45 := (hr_3.frmB (((Frm.of_ext (G := fun b => (b = g13)) hE16).trans hF28).trans (Frm.of_ext (G := fun b => (b = g13)) hE43)) q3)
        obtain ⟨b46, o47, rfl⟩ := h45.base (by omega)
        refine dEv 5 rfl (v := (.pointer (some ⟨b46, o47 + ((k + 1) * 2), none⟩))) (fun _ _ => evIndex (k + 1) Try.underlying23 sz46 rfl rfl (by omega) (by omega) (o47 + ((k + 1) * 2)) (by omega)) rfl rfl (by kernel_rfl) ?_
        obtain ⟨g_48, A_48, n_48, c_48, d_48, he_48, hp_48, hq_48, h_48, hM_48, hS_48, hb_48, z_48⟩ := h45.at_ (i := k + 1) (by omega)
        have l_48 := h_48.len; have k_48 := h_48.cap; have m_48 := h_48.max
        refine dEv 6 rfl (v := (.agg #[(.bool g_48), (.slice A_48 n_48 c_48)])) (fun _ hf => evLoadA [(.bool g_48), (.slice A_48 n_48 c_48)] agg46 sz46 rfl (cell2F hp_48 hq_48 hf hb_48 (by (try dsimp only at hS_48 ⊢); omega))) rfl rfl (by kernel_rfl) ?_
        refine dEv 7 rfl (v := (.int .i64 ((k : Int)))) (fun _ _ => rfl) rfl rfl (by kernel_rfl) ?_
        refine dEv 8 rfl (v := (.int .i64 (((k : Int)) + 1))) (fun _ _ => evAdd (((k : Int)) + 1) rfl rfl (wI64 (by omega))) rfl rfl (by kernel_rfl) ?_
        refine dOp 9 rfl rfl (by kernel_rfl) (oCall rfl call48 (integer_Of (by omega)) rfl ?_)
        rintro _ w51 ⟨gr_50, Ar_50, nr_50, cr_50, dr_50, rfl, hE52, hr_50, v_50, cn_50, le_50⟩
        refine ⟨(Frm.of_ext hE52), ?_⟩
        have hz53 := hE52.size
        have lr_50 := hr_50.len; have kr_50 := hr_50.cap; have mr_50 := hr_50.max
        have h55 := (h_48.ext hE52)
        refine dOp 10 rfl rfl (by kernel_rfl) (oCall rfl call69 (integer_Mul h55 hr_50 (by omega)) rfl ?_)
        rintro _ w57 ⟨gr_56, Ar_56, nr_56, cr_56, dr_56, rfl, hE58, hr_56, v_56, cn_56, le_56⟩
        refine ⟨(Frm.of_ext hE58), ?_⟩
        have hz59 := hE58.size
        have lr_56 := hr_56.len; have kr_56 := hr_56.cap; have mr_56 := hr_56.max
        refine dEv 11 rfl (v := (.pointer (some ⟨g13, k * 2, none⟩))) (fun _ _ => evIndex k Try.underlying23 sz46 rfl rfl (by omega) (by omega) (k * 2) (by omega)) rfl rfl (by kernel_rfl) ?_
        have hB61 := (hB29.ext ((hE43.trans hE52).trans hE58))
        refine dOp 12 rfl rfl (by kernel_rfl) (oStore [(.bool gr_56), (.slice Ar_56 nr_56 cr_56)] rfl rfl rfl sz46 rfl hB61 (by rw [cellsI_len]; simp only [List.length_cons, List.length_nil]; exact lq) ?_)
        intro w62 hU63 hz64 hB65
        replace hB65 := (cellsI_set (l := L ++ List.replicate ((nr_3 - 1) - k) RI.zero) (i := k) ⟨gr_56, Ar_56, nr_56, cr_56, dr_56⟩ (by exact lq)) ▸ hB65
        replace hB65 : Blk w62 g13 46 (cellsI ((L ++ [⟨gr_56, Ar_56, nr_56, cr_56, dr_56⟩]) ++ List.replicate ((nr_3 - 1) - (k + 1)) RI.zero)) := (fillI_set hL (by omega) : (L ++ List.replicate ((nr_3 - 1) - k) RI.zero).set k ⟨gr_56, Ar_56, nr_56, cr_56, dr_56⟩ = (L ++ [⟨gr_56, Ar_56, nr_56, cr_56, dr_56⟩]) ++ List.replicate ((nr_3 - 1) - (k + 1)) RI.zero) ▸ hB65
        refine ⟨hU63, ?_⟩
        refine dDone (by kernel_rfl) ?_
        refine bN ?_
        refine xN (hK40 _ _ ?_)
        refine wp_region_lit ?_
        refine sEv (v := (.int .i64 (((k : Int)) + 1))) (evAdd (((k : Int)) + 1) rfl rfl (wI64 (by omega))) rfl rfl ?_
        refine sEv (v := (.int .i64 (((k : Int)) + 1))) (rfl) rfl rfl ?_
        refine sDone ?_
        have h66 := (hA.frmB ((((Frm.of_ext (G := fun b => (b = g13)) hE43).trans (Frm.of_ext (G := fun b => (b = g13)) hE52)).trans (Frm.of_ext (G := fun b => (b = g13)) hE58)).trans hU63) q3)
        have h67 := (hr_56.frmB hU63 q3)
        refine again ((nr_3 - 1) - (k + 1)) (by omega) ⟨(k + 1), (L ++ [⟨gr_56, Ar_56, nr_56, cr_56, dr_56⟩]), rfl, rfl, rfl, rfl, (congrArg (Value.int .i64) (by omega)), ((((hF28.trans (Frm.of_ext (G := fun b => (b = g13)) hE43)).trans (Frm.of_ext (G := fun b => (b = g13)) hE52)).trans (Frm.of_ext (G := fun b => (b = g13)) hE58)).trans hU63), ?_, ?_, ?_, ?_, ?_, ?_⟩
        · exact hB65
        · omega
        · simp [hL]
        · exact AllN.snoc h66 (NatR.sub h67 q5) (by (try dsimp only); omega)
        · exact zs_snoc hz (by show zval _ _ = _; rw [v_56, z_48, v_50]; rfl)
        · exact AllC.snoc hC cn_56
      · refine sEv (v := (.bool false)) (evLss false rfl rfl (dF hc38)) rfl rfl ?_
        refine sDone ?_
        refine xN (hK37 _ _ ?_)
        refine wp_seq_k fun K68 hK68 => ?_
        refine cF rfl ?_
        refine wp_exit (xE (xE (bE ?_)))
        refine xN (hK20 _ _ ?_)
        refine wp_seq_k fun K69 hK69 => ?_
        refine wp_region_lit ?_
        refine sEv (v := (.slice (some ⟨g13, 0, none⟩) (nr_3 - 1) (nr_3 - 1))) (rfl) rfl rfl ?_
        refine sEv (v := (.slice (some ⟨g13, 0, none⟩) (nr_3 - 1) (nr_3 - 1))) (rfl) rfl rfl ?_
        refine sDone ?_
        refine xN (hK69 _ _ ?_)
        refine wp_ret ?_
        refine ret1 (.slice (some ⟨g13, 0, none⟩) (nr_3 - 1) (nr_3 - 1)) Try.results20 (resT rfl) ?_
        have h70 : PolyR w23 (fun b => g13 ≤ b) (some ⟨g13, 0, none⟩) (nr_3 - 1) (nr_3 - 1) (L ++ List.replicate ((nr_3 - 1) - k) RI.zero) (Mf + 2) := PolyR.of_blk hB29 (AllN.app (AllN.sub hA q5) (AllN.zeros _)) (by (try dsimp only); omega) (by exact lq) (by omega) (by unfold CapMax; omega)
        exact ⟨(some ⟨g13, 0, none⟩), (nr_3 - 1), (nr_3 - 1), (L ++ List.replicate ((nr_3 - 1) - k) RI.zero), rfl, (Frm.mono (((Frm.of_ext (G := fun b => (b = g13)) hE5).trans (Frm.of_ext (G := fun b => (b = g13)) hE16)).trans hF28) q4), (PolyR.le (PolyR.sub h70 q5) (by omega)), (by rw [show nr_3 - 1 - k = 0 by omega, List.replicate_zero, List.append_nil, hz, ← deriv_trim, ← zs_trim, ← e_3]; unfold derivP; congr 2; rw [zlen]; omega), (by omega), (AllC.app hC (AllC.zeros _))⟩

set_option maxHeartbeats 2000000 in
theorem unipoly_Pow {w : World} {Sf : Nat → Prop} {Af : Option Addr} {nf cf Mf : Nat} {lf : List RI} {xn : Int} (hf : PolyR w Sf Af nf cf lf Mf) (hnf : nf ≤ 64) (hMf : Mf ≤ 65536) (hxn : xn ≤ 127) : Calls Try.prog 19 #[(.slice Af nf cf), (.int .i64 (xn))] w (Ret fun v w' => ∃ (Ar : Option Addr) (nr : Nat) (cr : Nat) (lr : List RI), v = (.slice Ar nr cr) ∧ Ext w w' ∧ PolyR w' (fun b => w.heap.size ≤ b) Ar nr cr lr (33554432) ∧ (zs lr = trimZ (ppow (zs lf) xn.toNat)) ∧ (nr ≤ 16384) ∧ (AllC lr)) := by
  have kf := hf.len; have jf := hf.cap; have mf := hf.max
  replace hf := hf.low
  refine enter Try.func19 rfl Try.ntmps19 rfl ?_
  refine wp_seq_k fun K1 hK1 => ?_
  refine wp_region_lit ?_
  refine sEv (v := (.slice none 0 0)) (rfl) rfl rfl ?_
  refine sDone ?_
  refine xN (hK1 _ _ ?_)
  refine wp_seq_k fun K2 hK2 => ?_
  refine wp_region_lit ?_
  refine sOp rfl (oBuildSlice [(.int .i64 (1))] [[(.int .i64 (1))]] Try.underlying93 inf2 rfl rfl rfl rfl rfl ?_)
  intro g3 w4 hg5 hE6 hz7 hB8
  replace hB8 : Blk w4 g3 2 [(.int .i64 (1))] := hB8
  refine sOp rfl (oCall rfl call25 (unipoly_Of (IntsR.of_blk (S := fun b => b = g3) (n := 1) (c := 1) (xs := [1]) hB8 rfl (by decide) rfl (Nat.le_refl _) (by decide)) (by decide)) rfl ?_)
  rintro _ w10 ⟨Ar_9, nr_9, cr_9, lr_9, rfl, hE11, hr_9, e_9, le_9, cn_9⟩
  have hz12 := hE11.size
  have kr_9 := hr_9.len; have jr_9 := hr_9.cap; have mr_9 := hr_9.max
  refine sEv (v := (.slice Af nf cf)) (rfl) rfl rfl ?_
  have h14 := (hf.ext (hE6.trans hE11))
  refine sOp rfl (oCall rfl call37 (unipoly_Normal h14 (by omega) (by omega)) rfl ?_)
  rintro _ w16 ⟨qr_15, nr_15, lr_15, rfl, hE17, hgr_15, Br_15, hAr_15, kr_15, mr_15, e_15, ln_15, cn_15⟩
  have hz18 := hE17.size
  have hhr_15 : w10.heap.size ≤ qr_15 := hgr_15; have ltr_15 := Br_15.lt
  refine sEv (v := (.slice Ar_9 nr_9 cr_9)) (rfl) rfl rfl ?_
  refine sEv (v := (.slice (some ⟨qr_15, 0, none⟩) nr_15 nr_15)) (rfl) rfl rfl ?_
  refine sDone ?_
  refine xN (hK2 _ _ ?_)
  refine wp_seq_k fun K20 hK20 => ?_
  refine wp_block ?_
  have h22 := (hr_9.ext hE17)
  have h23 : PolyR w16 (fun b => qr_15 ≤ b) (some ⟨qr_15, 0, none⟩) nr_15 nr_15 (lr_15) ((Mf)) := PolyR.of_blk Br_15 (AllN.sub hAr_15 q5) (by (try dsimp only); omega) (by exact lq) (by omega) (by unfold CapMax; omega)
  refine lLoop (fun m e w_ => ∃ (y : Int) (u : Nat) (a : Nat) (b : Nat) (Ar : Option Addr) (nR : Nat) (cr : Nat) (lR : List RI) (As : Option Addr) (nS : Nat) (cs : Nat) (lS : List RI), m = u ∧ e 1 = (.int .i64 (y)) ∧ e 5 = (.slice Ar nR cr) ∧ e 6 = (.slice As nS cs) ∧ Frm (fun b => False) w16 w_ ∧ (u = y.toNat) ∧ (PowI u a b) ∧ (nR ≤ 64 * a + 1) ∧ (nS ≤ 64 * b) ∧ (PolyR w_ (fun b => w.heap.size ≤ b) Ar nR cr lR (2 + 131072 * a)) ∧ (PolyR w_ (fun b => w.heap.size ≤ b) As nS cs lS (131072 * b - 65536)) ∧ (AllC lR) ∧ (Canon isZI (zs lR)) ∧ (trimZ (pmul (zs lR) (ppow (zs lS) u)) = trimZ (ppow (zs lf) xn.toNat))) ((xn.toNat)) ?_ ?_
  · refine ⟨(xn), (xn.toNat), (0), (1), (Ar_9), (nr_9), (cr_9), (lr_9), ((some ⟨qr_15, 0, none⟩)), (nr_15), (nr_15), (lr_15), rfl, (congrArg (Value.int .i64) (by omega)), rfl, rfl, (Frm.refl _ _), ?_, ?_, ?_, ?_, ?_, ?_, ?_, ?_, ?_⟩
    · omega
    · exact PowI.start (by omega)
    · omega
    · omega
    · exact PolyR.le (PolyR.sub h22 q5) (by omega)
    · exact PolyR.le (PolyR.sub h23 q5) (by omega)
    · exact cn_9
    · rw [e_9]; exact canon_trim _ _
    · rw [e_9, e_15]; exact pow_init _ _
  · rintro m21 e30 w24 ⟨y, u, a, b, Ar, nR, cr, lR, As, nS, cs, lS, hm29, hs25, hs26, hs27, hF28, hu, hI, hnR, hnS, hR, hS, hC, hcR, hv⟩
    obtain ⟨r31, rfl⟩ := sq (e := e30) (t := 1) hs25
    obtain ⟨r32, rfl⟩ := sq (e := r31) (t := 5) hs26
    obtain ⟨r33, rfl⟩ := sq (e := r32) (t := 6) hs27
    have hz34 := hF28.size
    have hIb := hI.bnd; have qR := hR.len; have jR := hR.cap; have mR := hR.max; have qS := hS.len; have jS := hS.cap; have mS := hS.max
    refine wp_seq_k fun K35 hK35 => ?_
    refine wp_seq_k fun K36 hK36 => ?_
    refine wp_region_lit ?_
    refine sEv (v := (.int .i64 (y))) (rfl) rfl rfl ?_
    by_cases hc37 : y > 0
    · refine sEv (v := (.bool true)) (evGtr true rfl rfl (dT hc37)) rfl rfl ?_
      refine sDone ?_
      refine xN (hK36 _ _ ?_)
      refine cT rfl ?_
      refine wp_skip ?_
      refine xN (hK35 _ _ ?_)
      refine wp_block ?_
      refine wp_seq_k fun K38 hK38 => ?_
      refine wp_seq_k fun K39 hK39 => ?_
      refine wp_region_lit ?_
      refine sEv (v := (.int .i64 ((u : Int)))) (by rw [show (u : Int) = y by omega]; rfl) rfl rfl ?_
      refine sEv (v := (.int .i64 (((u % 2 : Nat) : Int)))) (evAndOne rfl rfl (by omega)) rfl rfl ?_
      by_cases hc40 : (((u % 2 : Nat) : Int)) ≠ 0
      · refine sEv (v := (.bool true)) (evNeq true rfl rfl (dT hc40)) rfl rfl ?_
        refine sDone ?_
        refine xN (hK39 _ _ ?_)
        refine cT rfl ?_
        refine wp_region_lit ?_
        refine sEv (v := (.slice Ar nR cr)) (rfl) rfl rfl ?_
        refine sEv (v := (.slice As nS cs)) (rfl) rfl rfl ?_
        refine sOp rfl (oCall rfl call18 (unipoly_Mul hR hS (by omega) (by omega) (by omega) (by omega)) rfl ?_)
        rintro _ w42 ⟨Ar_41, nr_41, cr_41, lr_41, rfl, hE43, hr_41, e_41, ln_41, cn_41⟩
        have hz44 := hE43.size
        have kr_41 := hr_41.len; have jr_41 := hr_41.cap; have mr_41 := hr_41.max
        refine sEv (v := (.slice Ar_41 nr_41 cr_41)) (rfl) rfl rfl ?_
        refine sDone ?_
        refine xN (hK38 _ _ ?_)
        refine wp_seq_k fun K46 hK46 => ?_
        refine wp_region_lit ?_
        refine sEv (v := (.int .i64 ((u : Int)))) (by rw [show (u : Int) = y by omega]; rfl) rfl rfl ?_
        refine sEv (v := (.int .i64 (((u / 2 ^ 1 : Nat) : Int)))) (evShr (((u / 2 ^ 1 : Nat) : Int)) rfl rfl (by omega) (shrE (x := u) (s := 1) (by omega) (by omega) (by show _ ≤ 64; omega))) rfl rfl ?_
        refine sEv (v := (.int .i64 (((u / 2 ^ 1 : Nat) : Int)))) (rfl) rfl rfl ?_
        refine sDone ?_
        refine xN (hK46 _ _ ?_)
        refine wp_seq_k fun K47 hK47 => ?_
        refine wp_region_lit ?_
        refine sEv (v := (.int .i64 (((u / 2 ^ 1 : Nat) : Int)))) (rfl) rfl rfl ?_
        by_cases hc48 : (((u / 2 ^ 1 : Nat) : Int)) > 0
        · refine sEv (v := (.bool true)) (evGtr true rfl rfl (dT hc48)) rfl rfl ?_
          refine sDone ?_
          refine xN (hK47 _ _ ?_)
          refine cT rfl ?_
          refine wp_region_lit ?_
          refine sEv (v := (.slice As nS cs)) (rfl) rfl rfl ?_
          refine sEv (v := (.slice As nS cs)) (rfl) rfl rfl ?_
          have h49 := (hS.ext hE43)
          refine sOp rfl (oCall rfl call18 (unipoly_Mul h49 h49 (by omega) (by omega) (by omega) (by omega)) rfl ?_)
          rintro _ w51 ⟨Ar_50, nr_50, cr_50, lr_50, rfl, hE52, hr_50, e_50, ln_50, cn_50⟩
          have hz53 := hE52.size
          have kr_50 := hr_50.len; have jr_50 := hr_50.cap; have mr_50 := hr_50.max
          refine sEv (v := (.slice Ar_50 nr_50 cr_50)) (rfl) rfl rfl ?_
          refine sDone ?_
          refine bN ?_
          have h55 := (hr_41.ext hE52)
          refine again ((u / 2 ^ 1)) (by omega) ⟨(((u / 2 ^ 1 : Nat) : Int)), (u / 2 ^ 1), (a + b), (2 * b), (Ar_41), (nr_41), (cr_41), (lr_41), (Ar_50), (nr_50), (cr_50), (lr_50), rfl, (congrArg (Value.int .i64) (by omega)), rfl, rfl, ((hF28.trans hE43).trans hE52), ?_, ?_, ?_, ?_, ?_, ?_, ?_, ?_, ?_⟩
          · omega
          · exact hI.odd (by omega)
          · omega
          · omega
          · exact PolyR.le (PolyR.sub h55 q5) (by omega)
          · exact PolyR.le (PolyR.sub hr_50 q5) (by omega)
          · exact cn_41
          · rw [e_41]; exact canon_trim _ _
          · exact pow_odd1 hv (by omega) e_41 e_50
        · refine sEv (v := (.bool false)) (evGtr false rfl rfl (dF hc48)) rfl rfl ?_
          refine sDone ?_
          refine xN (hK47 _ _ ?_)
          refine cF rfl ?_
          refine wp_skip ?_
          refine bN ?_
          have h56 := (hS.ext hE43)
          refine again ((u / 2 ^ 1)) (by omega) ⟨(((u / 2 ^ 1 : Nat) : Int)), (u / 2 ^ 1), (a + b), (2 * b), (Ar_41), (nr_41), (cr_41), (lr_41), (As), (nS), (cs), (lS), rfl, (congrArg (Value.int .i64) (by omega)), rfl, rfl, (hF28.trans hE43), ?_, ?_, ?_, ?_, ?_, ?_, ?_, ?_, ?_⟩
          · omega
          · exact hI.odd (by omega)
          · omega
          · omega
          · exact PolyR.le (PolyR.sub hr_41 q5) (by omega)
          · exact PolyR.le (PolyR.sub h56 q5) (by omega)
          · exact cn_41
          · rw [e_41]; exact canon_trim _ _
          · exact pow_last hv (by omega) (by omega) e_41
      · refine sEv (v := (.bool false)) (evNeq false rfl rfl (dF hc40)) rfl rfl ?_
        refine sDone ?_
        refine xN (hK39 _ _ ?_)
        refine cF rfl ?_
        refine wp_skip ?_
        refine xN (hK38 _ _ ?_)
        refine wp_seq_k fun K57 hK57 => ?_
        refine wp_region_lit ?_
        refine sEv (v := (.int .i64 ((u : Int)))) (by rw [show (u : Int) = y by omega]; rfl) rfl rfl ?_
        refine sEv (v := (.int .i64 (((u / 2 ^ 1 : Nat) : Int)))) (evShr (((u / 2 ^ 1 : Nat) : Int)) rfl rfl (by omega) (shrE (x := u) (s := 1) (by omega) (by omega) (by show _ ≤ 64; omega))) rfl rfl ?_
        refine sEv (v := (.int .i64 (((u / 2 ^ 1 : Nat) : Int)))) (rfl) rfl rfl ?_
        refine sDone ?_
        refine xN (hK57 _ _ ?_)
        refine wp_seq_k fun K58 hK58 => ?_
        refine wp_region_lit ?_
        refine sEv (v := (.int .i64 (((u / 2 ^ 1 : Nat) : Int)))) (rfl) rfl rfl ?_
        by_cases hc59 : (((u / 2 ^ 1 : Nat) : Int)) > 0
        · refine sEv (v := (.bool true)) (evGtr true rfl rfl (dT hc59)) rfl rfl ?_
          refine sDone ?_
          refine xN (hK58 _ _ ?_)
          refine cT rfl ?_
          refine wp_region_lit ?_
          refine sEv (v := (.slice As nS cs)) (rfl) rfl rfl ?_
          refine sEv (v := (.slice As nS cs)) (rfl) rfl rfl ?_
          refine sOp rfl (oCall rfl call18 (unipoly_Mul hS hS (by omega) (by omega) (by omega) (by omega)) rfl ?_)
          rintro _ w61 ⟨Ar_60, nr_60, cr_60, lr_60, rfl, hE62, hr_60, e_60, ln_60, cn_60⟩
          have hz63 := hE62.size
          have kr_60 := hr_60.len; have jr_60 := hr_60.cap; have mr_60 := hr_60.max
          refine sEv (v := (.slice Ar_60 nr_60 cr_60)) (rfl) rfl rfl ?_
          refine sDone ?_
          refine bN ?_
          have h65 := (hR.ext hE62)
          refine again ((u / 2 ^ 1)) (by omega) ⟨(((u / 2 ^ 1 : Nat) : Int)), (u / 2 ^ 1), (a + 0), (2 * b), (Ar), (nR), (cr), (lR), (Ar_60), (nr_60), (cr_60), (lr_60), rfl, (congrArg (Value.int .i64) (by omega)), rfl, rfl, (hF28.trans hE62), ?_, ?_, ?_, ?_, ?_, ?_, ?_, ?_, ?_⟩
          · omega
          · exact hI.even (by omega) (by omega)
          · omega
          · omega
          · exact PolyR.le (PolyR.sub h65 q5) (by omega)
          · exact PolyR.le (PolyR.sub hr_60 q5) (by omega)
          · exact hC
          · exact hcR
          · exact pow_even1 hv (by omega) e_60
        · refine sEv (v := (.bool false)) (evGtr false rfl rfl (dF hc59)) rfl rfl ?_
          refine sDone ?_
          refine xN (hK58 _ _ ?_)
          refine cF rfl ?_
          refine wp_skip ?_
          refine bN ?_
          refine again ((u / 2 ^ 1)) (by omega) ⟨(((u / 2 ^ 1 : Nat) : Int)), (u / 2 ^ 1), (a + 0), (2 * b), (Ar), (nR), (cr), (lR), (As), (nS), (cs), (lS), rfl, (congrArg (Value.int .i64) (by omega)), rfl, rfl, hF28, ?_, ?_, ?_, ?_, ?_, ?_, ?_, ?_, ?_⟩
          · omega
          · exact hI.even (by omega) (by omega)
          · omega
          · omega
          · exact PolyR.le (PolyR.sub hR q5) (by omega)
          · exact PolyR.le (PolyR.sub hS q5) (by omega)
          · exact hC
          · exact hcR
          · exfalso; omega
    · refine sEv (v := (.bool false)) (evGtr false rfl rfl (dF hc37)) rfl rfl ?_
      refine sDone ?_
      refine xN (hK36 _ _ ?_)
      refine cF rfl ?_
      refine wp_exit (xE (xE (bE ?_)))
      refine xN (hK20 _ _ ?_)
      refine wp_seq_k fun K66 hK66 => ?_
      refine wp_region_lit ?_
      refine sEv (v := (.slice Ar nR cr)) (rfl) rfl rfl ?_
      refine sEv (v := (.slice Ar nR cr)) (rfl) rfl rfl ?_
      refine sDone ?_
      refine xN (hK66 _ _ ?_)
      refine wp_ret ?_
      refine ret1 (.slice Ar nR cr) Try.results19 (resT rfl) ?_
      exact ⟨Ar, nR, cr, lR, rfl, (((hE6.trans hE11).trans hE17).trans hF28), (PolyR.le (PolyR.sub hR q5) (by omega)), (pow_end hv (by omega) hcR), (by omega), hC⟩

end Go.Proofs.Ytppegjbdencefaa
