/-
  Walk of the law UnipolyChanges.
-/
import Derived.Test.YtppegjbdencefaaLaw2
import Derived.Test.YtppegjbdencefaaUni5
import Derived.Test.YtppegjbdencefaaRef5
namespace Go.Proofs.Ytppegjbdencefaa
open Go.RowKit Go.Gx
set_option maxHeartbeats 2000000 in
theorem law08_changes {w : World} {Sf : Nat → Prop} {Af : Option Addr} {nf cf Mf : Nat} {lf : List RI} {Sg : Nat → Prop} {Ag : Option Addr} {ng cg Mg : Nat} {lg : List RI} {gc : Bool} {Sc : Nat → Prop} {Ac : Option Addr} {nc cc : Nat} {dc : List Nat} (hf : PolyR w Sf Af nf cf lf Mf) (hg : PolyR w Sg Ag ng cg lg Mg) (hc : NatR w Sc Ac nc cc dc)  : Calls Try.prog 5 #[(.slice Af nf cf), (.slice Ag ng cg), (.agg #[(.bool gc), (.slice Ac nc cc)])] w (Ret fun v w' => ∃ (gr : Bool), v = (.bool gr) ∧ Ext w w' ∧ (gr = true)) := by
  have kf := hf.len; have jf := hf.cap; have mf := hf.max
  replace hf := hf.low
  have kg := hg.len; have jg := hg.cap; have mg := hg.max
  replace hg := hg.low
  have lc := hc.len; have kc := hc.cap; have mc := hc.max
  replace hc := hc.low
  refine enter Try.func5 rfl Try.ntmps5 rfl ?_
  refine wp_seq_k fun K1 hK1 => ?_
  refine wp_region_lit ?_
  refine sOp rfl (oBox [(.bool gc), (.slice Ac nc cc)] rfl rfl ?_)
  intro g2 w3 hg4 hE5 hz6 hB7
  refine sEv (v := (.bool false)) (rfl) rfl rfl ?_
  refine sDone ?_
  refine xN (hK1 _ _ ?_)
  refine wp_seq_k fun K8 hK8 => ?_
  refine wp_seq_k fun K9 hK9 => ?_
  refine wp_region_lit ?_
  refine sOp rfl (oCall rfl call12 (law08_awake) rfl ?_)
  rintro _ w11 ⟨gr_10, rfl, hE12, e_10⟩
  have hz13 := hE12.size
  obtain rfl : gr_10 = true := e_10
  refine sEv (v := (.bool false)) (evNot _ rfl rfl) rfl rfl ?_
  refine sEv (v := (.bool false)) (rfl) rfl rfl ?_
  refine sEv (v := (.slice Af nf cf)) (rfl) rfl rfl ?_
  have h14 := (hf.ext (hE5.trans hE12))
  refine sOp rfl (oCall rfl call13 (cylinderlaw08_Few h14) rfl ?_)
  rintro _ w16 ⟨gr_15, rfl, hE17, e_15⟩
  have hz18 := hE17.size
  refine sEv (v := (.bool (!gr_15))) (evNot _ rfl rfl) rfl rfl ?_
  refine sEv (v := (.bool (!gr_15))) (rfl) rfl rfl ?_
  refine sEv (v := (.bool (!gr_15))) (rfl) rfl rfl ?_
  cases gr_15
  · refine sSkip rfl rfl ?_
    refine sSkip rfl rfl ?_
    refine sSkip rfl rfl ?_
    refine sEv (v := (.bool true)) (rfl) rfl rfl ?_
    refine sEv (v := (.bool true)) (rfl) rfl rfl ?_
    refine sSkip rfl rfl ?_
    refine sSkip rfl rfl ?_
    refine sSkip rfl rfl ?_
    refine sSkip rfl rfl ?_
    refine sEv (v := (.bool true)) (rfl) rfl rfl ?_
    refine sDone ?_
    refine xN (hK9 _ _ ?_)
    refine cT rfl ?_
    refine wp_seq_k fun K19 hK19 => ?_
    refine wp_region_lit ?_
    refine sOp rfl (oCall rfl call12 (law08_awake) rfl ?_)
    rintro _ w21 ⟨gr_20, rfl, hE22, e_20⟩
    have hz23 := hE22.size
    obtain rfl : gr_20 = true := e_20
    refine sEv (v := (.bool true)) (rfl) rfl rfl ?_
    refine sDone ?_
    refine xN (hK19 _ _ ?_)
    refine wp_ret (xR ?_)
    refine ret1 (.bool true) Try.results5 (resT rfl) ?_
    exact ⟨(true), rfl, (((hE5.trans hE12).trans hE17).trans hE22), rfl⟩
  · refine sEv (v := (.slice Ag ng cg)) (rfl) rfl rfl ?_
    have h24 := (hg.ext ((hE5.trans hE12).trans hE17))
    refine sOp rfl (oCall rfl call13 (cylinderlaw08_Few h24) rfl ?_)
    rintro _ w26 ⟨gr_25, rfl, hE27, e_25⟩
    have hz28 := hE27.size
    refine sEv (v := (.bool (!gr_25))) (evNot _ rfl rfl) rfl rfl ?_
    refine sEv (v := (.bool (!gr_25))) (rfl) rfl rfl ?_
    refine sEv (v := (.bool (!gr_25))) (rfl) rfl rfl ?_
    cases gr_25
    · refine sSkip rfl rfl ?_
      refine sSkip rfl rfl ?_
      refine sSkip rfl rfl ?_
      refine sSkip rfl rfl ?_
      refine sEv (v := (.bool true)) (rfl) rfl rfl ?_
      refine sDone ?_
      refine xN (hK9 _ _ ?_)
      refine cT rfl ?_
      refine wp_seq_k fun K29 hK29 => ?_
      refine wp_region_lit ?_
      refine sOp rfl (oCall rfl call12 (law08_awake) rfl ?_)
      rintro _ w31 ⟨gr_30, rfl, hE32, e_30⟩
      have hz33 := hE32.size
      obtain rfl : gr_30 = true := e_30
      refine sEv (v := (.bool true)) (rfl) rfl rfl ?_
      refine sDone ?_
      refine xN (hK29 _ _ ?_)
      refine wp_ret (xR ?_)
      refine ret1 (.bool true) Try.results5 (resT rfl) ?_
      exact ⟨(true), rfl, ((((hE5.trans hE12).trans hE17).trans hE27).trans hE32), rfl⟩
    · refine sEv (v := (.pointer (some ⟨g2, 1, none⟩))) (evFA 1 fa46_1 rfl rfl) rfl rfl ?_
      have hB34 := (hB7.ext ((hE12.trans hE17).trans hE27))
      refine sEv (v := (.slice Ac nc cc)) (evLoadB one44 rfl hB34 rfl) rfl rfl ?_
      refine sEv (v := (.int .i64 ((nc : Int)))) (evLen Try.underlying44 rfl) rfl rfl ?_
      by_cases hc35 : ((nc : Int)) > 2
      · refine sEv (v := (.bool true)) (evGtr true rfl rfl (dT hc35)) rfl rfl ?_
        refine sEv (v := (.bool true)) (rfl) rfl rfl ?_
        refine sDone ?_
        refine xN (hK9 _ _ ?_)
        refine cT rfl ?_
        refine wp_seq_k fun K36 hK36 => ?_
        refine wp_region_lit ?_
        refine sOp rfl (oCall rfl call12 (law08_awake) rfl ?_)
        rintro _ w38 ⟨gr_37, rfl, hE39, e_37⟩
        have hz40 := hE39.size
        obtain rfl : gr_37 = true := e_37
        refine sEv (v := (.bool true)) (rfl) rfl rfl ?_
        refine sDone ?_
        refine xN (hK36 _ _ ?_)
        refine wp_ret (xR ?_)
        refine ret1 (.bool true) Try.results5 (resT rfl) ?_
        exact ⟨(true), rfl, ((((hE5.trans hE12).trans hE17).trans hE27).trans hE39), rfl⟩
      · refine sEv (v := (.bool false)) (evGtr false rfl rfl (dF hc35)) rfl rfl ?_
        refine sEv (v := (.bool false)) (rfl) rfl rfl ?_
        refine sDone ?_
        refine xN (hK9 _ _ ?_)
        refine cF rfl ?_
        refine wp_skip ?_
        refine xN (hK8 _ _ ?_)
        refine wp_seq_k fun K41 hK41 => ?_
        have qf := e_15 rfl
        have qnf := qf.1
        have hf2 := hf.reM (M' := 2) (by intro r hr; have := qf.2 r hr; omega)
        have qg := e_25 rfl
        have qng := qg.1
        have hg2 := hg.reM (M' := 2) (by intro r hr; have := qg.2 r hr; omega)
        refine wpJoin (n := 89) (fun e w_ => ∃ (Ax : Option Addr) (nx : Nat) (cx : Nat) (fx : List Int) (sa : Int) (Aa : Option Addr) (na : Nat) (ca : Nat) (za : Int) (q8 : Nat), e 0 = (.slice Af nf cf) ∧ e 1 = (.slice Ag ng cg) ∧ e 5 = (.pointer (some ⟨g2, 0, none⟩)) ∧ e 7 = (.slice Ax nx cx) ∧ e 8 = (.pointer (some ⟨q8, 0, none⟩)) ∧ Frm (fun _ => False) w26 w_ ∧ Blk w_ q8 31 ([.int .i64 sa, .slice Aa na ca]) ∧ (PZR w_ (fun b => b < w_.heap.size) Ax nx cx fx 64) ∧ (ZR w_ (fun b => b < w_.heap.size) sa Aa na ca za) ∧ (fx = trimZ (zs lf)) ∧ (za = zval gc dc) ∧ (na ≤ 64) ∧ (nx ≤ nf)) ?_ ?_
        · refine dBegin (fun b => w26.heap.size ≤ b) mixed ?_
          intro w42 hE43 hz44
          refine dEv 0 rfl (v := (.slice Af nf cf)) (fun _ _ => rfl) rfl rfl (by kernel_rfl) ?_
          have hB45 := (hB34.ext hE43)
          refine dEv 2 rfl (v := (.agg #[(.bool gc), (.slice Ac nc cc)])) (fun _ hf => evLoadAB [(.bool gc), (.slice Ac nc cc)] agg46 sz46 rfl (hB45.frm hf q1) rfl) rfl rfl (by kernel_rfl) ?_
          refine dTwo 1 4 (by kernel_rfl) ?_ ?_
          · have h46 := (hf2.ext ((((hE5.trans hE12).trans hE17).trans hE27).trans hE43))
            refine dWp (i := 1) rfl rfl (oCall rfl call14 (law08_Of h46 (by omega) (by omega)) rfl ?_)
            rintro _ w48 ⟨Ar_47, nr_47, cr_47, fr_47, rfl, hE49, hr_47, e_47, ln_47⟩
            refine ⟨(Frm.of_ext hE49), ?_⟩
            have hz50 := hE49.size
            have lr_47 := hr_47.len; have kr_47 := hr_47.cap; have mr_47 := hr_47.max
            refine dTwo 3 4 (by kernel_rfl) ?_ ?_
            · have h52 := (hc.ext (((((hE5.trans hE12).trans hE17).trans hE27).trans hE43).trans hE49))
              refine dWp (i := 3) rfl rfl (oCall rfl call26 (law08_z h52 (by omega)) rfl ?_)
              rintro _ w54 ⟨sr_53, Ar_53, nr_53, cr_53, zr_53, rfl, hE55, hr_53, v_53, le_53⟩
              refine ⟨(Frm.of_ext hE55), ?_⟩
              have hz56 := hE55.size
              have sgr_53 := hr_53.1; have kr_53 := hr_53.cap; have mr_53 := hr_53.max
              refine dOp 4 rfl rfl (by kernel_rfl) (oAlloc [(.int .i64 (0)), (.slice none 0 0)] zero31 rfl ?_)
              intro g58 w59 hg60 hE61 hz62 hB63
              refine ⟨(Frm.of_ext hE61), ?_⟩
              refine dEv 5 rfl (v := (.slice Ar_47 nr_47 cr_47)) (fun _ _ => rfl) rfl rfl (by kernel_rfl) ?_
              refine dOp 6 rfl rfl (by kernel_rfl) (oStore [(.int .i64 (sr_53)), (.slice Ar_53 nr_53 cr_53)] rfl rfl rfl sz31 rfl hB63 (Nat.le_of_ble_eq_true rfl) ?_)
              intro w64 hU65 hz66 hB67
              replace hB67 : Blk w64 g58 31 [(.int .i64 (sr_53)), (.slice Ar_53 nr_53 cr_53)] := hB67
              refine ⟨(hU65.mono q4), ?_⟩
              refine dDone (by kernel_rfl) ?_
              have h68 := (hr_47.frmB (((Frm.of_ext (G := fun b => (b = g58)) hE55).trans (Frm.of_ext (G := fun b => (b = g58)) hE61)).trans hU65) q3)
              have h69 := (hr_53.frmB ((Frm.of_ext (G := fun b => (b = g58)) hE61).trans hU65) q3)
              exact ⟨rfl, _, rfl, (Ar_47), (nr_47), (cr_47), (fr_47), (sr_53), (Ar_53), (nr_53), (cr_53), (zr_53), (g58), rfl, rfl, rfl, rfl, rfl, (Frm.mono (((((Frm.of_ext (G := fun b => (b = g58)) hE43).trans (Frm.of_ext (G := fun b => (b = g58)) hE49)).trans (Frm.of_ext (G := fun b => (b = g58)) hE55)).trans (Frm.of_ext (G := fun b => (b = g58)) hE61)).trans hU65) q4), hB67, (PZR.low (PZR.le h68 (by omega))), (ZR.low h69), (e_47), (v_53), (by omega), (by omega)⟩
            · refine dWp (i := 4) rfl rfl (oAlloc [(.int .i64 (0)), (.slice none 0 0)] zero31 rfl ?_)
              intro g70 w71 hg72 hE73 hz74 hB75
              refine ⟨(Frm.of_ext hE73), ?_⟩
              have h76 := (hc.ext ((((((hE5.trans hE12).trans hE17).trans hE27).trans hE43).trans hE49).trans hE73))
              refine dOp 3 rfl rfl (by kernel_rfl) (oCall rfl call26 (law08_z h76 (by omega)) rfl ?_)
              rintro _ w78 ⟨sr_77, Ar_77, nr_77, cr_77, zr_77, rfl, hE79, hr_77, v_77, le_77⟩
              refine ⟨(Frm.of_ext hE79), ?_⟩
              have hz80 := hE79.size
              have sgr_77 := hr_77.1; have kr_77 := hr_77.cap; have mr_77 := hr_77.max
              refine dEv 5 rfl (v := (.slice Ar_47 nr_47 cr_47)) (fun _ _ => rfl) rfl rfl (by kernel_rfl) ?_
              have hB82 := (hB75.ext hE79)
              refine dOp 6 rfl rfl (by kernel_rfl) (oStore [(.int .i64 (sr_77)), (.slice Ar_77 nr_77 cr_77)] rfl rfl rfl sz31 rfl hB82 (Nat.le_of_ble_eq_true rfl) ?_)
              intro w83 hU84 hz85 hB86
              replace hB86 : Blk w83 g70 31 [(.int .i64 (sr_77)), (.slice Ar_77 nr_77 cr_77)] := hB86
              refine ⟨(hU84.mono q4), ?_⟩
              refine dDone (by kernel_rfl) ?_
              have h87 := (hr_47.frmB (((Frm.of_ext (G := fun b => (b = g70)) hE73).trans (Frm.of_ext (G := fun b => (b = g70)) hE79)).trans hU84) q3)
              have h88 := (hr_77.frmB hU84 q3)
              exact ⟨rfl, _, rfl, (Ar_47), (nr_47), (cr_47), (fr_47), (sr_77), (Ar_77), (nr_77), (cr_77), (zr_77), (g70), rfl, rfl, rfl, rfl, rfl, (Frm.mono (((((Frm.of_ext (G := fun b => (b = g70)) hE43).trans (Frm.of_ext (G := fun b => (b = g70)) hE49)).trans (Frm.of_ext (G := fun b => (b = g70)) hE73)).trans (Frm.of_ext (G := fun b => (b = g70)) hE79)).trans hU84) q4), hB86, (PZR.low (PZR.le h87 (by omega))), (ZR.low h88), (e_47), (v_77), (by omega), (by omega)⟩
          · refine dWp (i := 4) rfl rfl (oAlloc [(.int .i64 (0)), (.slice none 0 0)] zero31 rfl ?_)
            intro g89 w90 hg91 hE92 hz93 hB94
            refine ⟨(Frm.of_ext hE92), ?_⟩
            have h95 := (hf2.ext (((((hE5.trans hE12).trans hE17).trans hE27).trans hE43).trans hE92))
            refine dOp 1 rfl rfl (by kernel_rfl) (oCall rfl call14 (law08_Of h95 (by omega) (by omega)) rfl ?_)
            rintro _ w97 ⟨Ar_96, nr_96, cr_96, fr_96, rfl, hE98, hr_96, e_96, ln_96⟩
            refine ⟨(Frm.of_ext hE98), ?_⟩
            have hz99 := hE98.size
            have lr_96 := hr_96.len; have kr_96 := hr_96.cap; have mr_96 := hr_96.max
            have h101 := (hc.ext ((((((hE5.trans hE12).trans hE17).trans hE27).trans hE43).trans hE92).trans hE98))
            refine dOp 3 rfl rfl (by kernel_rfl) (oCall rfl call26 (law08_z h101 (by omega)) rfl ?_)
            rintro _ w103 ⟨sr_102, Ar_102, nr_102, cr_102, zr_102, rfl, hE104, hr_102, v_102, le_102⟩
            refine ⟨(Frm.of_ext hE104), ?_⟩
            have hz105 := hE104.size
            have sgr_102 := hr_102.1; have kr_102 := hr_102.cap; have mr_102 := hr_102.max
            refine dEv 5 rfl (v := (.slice Ar_96 nr_96 cr_96)) (fun _ _ => rfl) rfl rfl (by kernel_rfl) ?_
            have hB107 := (hB94.ext (hE98.trans hE104))
            refine dOp 6 rfl rfl (by kernel_rfl) (oStore [(.int .i64 (sr_102)), (.slice Ar_102 nr_102 cr_102)] rfl rfl rfl sz31 rfl hB107 (Nat.le_of_ble_eq_true rfl) ?_)
            intro w108 hU109 hz110 hB111
            replace hB111 : Blk w108 g89 31 [(.int .i64 (sr_102)), (.slice Ar_102 nr_102 cr_102)] := hB111
            refine ⟨(hU109.mono q4), ?_⟩
            refine dDone (by kernel_rfl) ?_
            have h112 := (hr_96.frmB ((Frm.of_ext (G := fun b => (b = g89)) hE104).trans hU109) q3)
            have h113 := (hr_102.frmB hU109 q3)
            exact ⟨rfl, _, rfl, (Ar_96), (nr_96), (cr_96), (fr_96), (sr_102), (Ar_102), (nr_102), (cr_102), (zr_102), (g89), rfl, rfl, rfl, rfl, rfl, (Frm.mono (((((Frm.of_ext (G := fun b => (b = g89)) hE43).trans (Frm.of_ext (G := fun b => (b = g89)) hE92)).trans (Frm.of_ext (G := fun b => (b = g89)) hE98)).trans (Frm.of_ext (G := fun b => (b = g89)) hE104)).trans hU109) q4), hB111, (PZR.low (PZR.le h112 (by omega))), (ZR.low h113), (e_96), (v_102), (by omega), (by omega)⟩
        · rintro e115 w114 ⟨Ax, nx, cx, fx, sa, Aa, na, ca, za, q8, hs117, hs118, hs119, hs120, hs121, hF116, hB122, hX, hAz, heX, hza, hna, hnx⟩
          obtain ⟨r123, rfl⟩ := sq (e := e115) (t := 0) hs117
          obtain ⟨r124, rfl⟩ := sq (e := r123) (t := 1) hs118
          obtain ⟨r125, rfl⟩ := sq (e := r124) (t := 5) hs119
          obtain ⟨r126, rfl⟩ := sq (e := r125) (t := 7) hs120
          obtain ⟨r127, rfl⟩ := sq (e := r126) (t := 8) hs121
          have hz128 := hF116.size
          have lX := hX.len; have kX := hX.cap; have mX := hX.max; have sga := hAz.1; have kA := hAz.cap; have mA := hAz.max; have ltq := hB122.lt
          refine xN (hK41 _ _ ?_)
          refine wp_seq_k fun K129 hK129 => ?_
          refine wp_region_lit ?_
          refine sEv (v := (.slice none 0 0)) (rfl) rfl rfl ?_
          refine sDone ?_
          refine xN (hK129 _ _ ?_)
          refine wp_seq_k fun K130 hK130 => ?_
          refine wp_seq_k fun K131 hK131 => ?_
          refine wp_region_lit ?_
          refine sEv (v := (.slice Ax nx cx)) (rfl) rfl rfl ?_
          refine sEv (v := (.int .i64 ((nx : Int)))) (evLen Try.underlying27 rfl) rfl rfl ?_
          refine sEv (v := (.int .i64 (((nx : Int)) - 1))) (evSub (((nx : Int)) - 1) rfl rfl (wI64 (by omega))) rfl rfl ?_
          refine sEv (v := (.int .i64 (((nx : Int)) - 1))) (rfl) rfl rfl ?_
          refine sDone ?_
          refine xN (hK131 _ _ ?_)
          refine wp_block ?_
          refine lLoop (fun m e w_ => ∃ (k : Nat) (O : List Int) (Ao : Option Addr) (cp : Nat) (no : Nat), m = k ∧ e 0 = (.slice Af nf cf) ∧ e 1 = (.slice Ag ng cg) ∧ e 5 = (.pointer (some ⟨g2, 0, none⟩)) ∧ e 7 = (.slice Ax nx cx) ∧ e 8 = (.pointer (some ⟨q8, 0, none⟩)) ∧ e 9 = (.slice Ao no cp) ∧ e 10 = (.int .i64 ((k : Int) - 1)) ∧ Frm (fun b => w114.heap.size ≤ b) w114 w_ ∧ (k ≤ nx) ∧ (no = nx - k) ∧ (O = (fx.drop k).reverse) ∧ (OwnZ (fun _ => True) w_ w114.heap.size 31 Ao no cp O (64))) ((nx)) ?_ ?_
          · refine ⟨(nx), ([]), (none), (0), (0), rfl, rfl, rfl, rfl, rfl, rfl, rfl, (congrArg (Value.int .i64) (by omega)), (Frm.refl _ _), ?_, ?_, ?_, ?_⟩
            · omega
            · omega
            · rw [List.drop_of_length_le (by omega)]; rfl
            · exact OwnZ.nil
          · rintro m132 e143 w133 ⟨k, O, Ao, cp, no, hm142, hs134, hs135, hs136, hs137, hs138, hs139, hs140, hF141, hk, hno, hF, hO⟩
            obtain ⟨r144, rfl⟩ := sq (e := e143) (t := 0) hs134
            obtain ⟨r145, rfl⟩ := sq (e := r144) (t := 1) hs135
            obtain ⟨r146, rfl⟩ := sq (e := r145) (t := 5) hs136
            obtain ⟨r147, rfl⟩ := sq (e := r146) (t := 7) hs137
            obtain ⟨r148, rfl⟩ := sq (e := r147) (t := 8) hs138
            obtain ⟨r149, rfl⟩ := sq (e := r148) (t := 9) hs139
            obtain ⟨r150, rfl⟩ := sq (e := r149) (t := 10) hs140
            have hz151 := hF141.size
            have lO := hO.len; have kO := hO.cap; have mO := hO.max
            refine wp_seq_k fun K152 hK152 => ?_
            refine wp_seq_k fun K153 hK153 => ?_
            refine wp_region_lit ?_
            refine sEv (v := (.int .i64 ((k : Int) - 1))) (rfl) rfl rfl ?_
            by_cases hc154 : ((k : Int) - 1) ≥ 0
            · refine sEv (v := (.bool true)) (evGeq true rfl rfl (dT hc154)) rfl rfl ?_
              refine sDone ?_
              refine xN (hK153 _ _ ?_)
              refine cT rfl ?_
              refine wp_skip ?_
              refine xN (hK152 _ _ ?_)
              refine wp_seq_k fun K155 hK155 => ?_
              refine wp_block ?_
              refine wp_region_lit ?_
              refine sEv (v := (.slice Ao no cp)) (rfl) rfl rfl ?_
              refine sEv (v := (.slice Ax nx cx)) (rfl) rfl rfl ?_
              refine sEv (v := (.int .i64 ((k : Int) - 1))) (rfl) rfl rfl ?_
              have h156 := (hX.frmB hF141 q3)
              obtain ⟨b157, o158, rfl⟩ := h156.base (by omega)
              refine sEv (v := (.pointer (some ⟨b157, o158 + ((k - 1) * 2), none⟩))) (evIndex (k - 1) Try.underlying27 sz31 rfl rfl (by omega) (by omega) (o158 + ((k - 1) * 2)) (by omega)) rfl rfl ?_
              obtain ⟨s_159, A_159, n_159, c_159, z_159, hp_159, hq_159, h_159, hM_159, hS_159, hb_159, hz_159⟩ := h156.at_ (i := k - 1) (by omega)
              have sg_159 := h_159.1; have k_159 := h_159.cap; have m_159 := h_159.max
              refine sEv (v := (.agg #[(.int .i64 (s_159)), (.slice A_159 n_159 c_159)])) (evLoadA [(.int .i64 (s_159)), (.slice A_159 n_159 c_159)] agg31 sz31 rfl (cell2 hp_159 hq_159)) rfl rfl ?_
              refine sOp rfl (oBuildSlice [(.agg #[(.int .i64 (s_159)), (.slice A_159 n_159 c_159)])] [[(.int .i64 (s_159)), (.slice A_159 n_159 c_159)]] Try.underlying27 inf31 rfl rfl rfl rfl rfl ?_)
              intro g161 w162 hg163 hE164 hz165 hB166
              replace hB166 : Blk w162 g161 31 [(.int .i64 (s_159)), (.slice A_159 n_159 c_159)] := hB166
              have hO167 := (hO.ext hE164)
              have h173 := (h_159.ext hE164)
              refine sOp rfl (oAppZ (B := w114.heap.size) Try.underlying27 inf31 rfl rfl rfl hO167 hB166 h173 (by omega) (by intro b hlt hb a ha; have h1 := hO.lt a ha; (try dsimp only at hb); omega) (fun _ _ _ => trivial) (by omega) (by omega) (by omega) ?_)
              intro A168 c169 w170 hO171 hF172
              refine sEv (v := (.slice A168 (no + 1) c169)) (rfl) rfl rfl ?_
              refine sDone ?_
              refine bN ?_
              refine xN (hK155 _ _ ?_)
              refine wp_region_lit ?_
              refine sEv (v := (.int .i64 ((k : Int) - 1))) (rfl) rfl rfl ?_
              refine sEv (v := (.int .i64 (((k : Int) - 1) - 1))) (evSub (((k : Int) - 1) - 1) rfl rfl (wI64 (by omega))) rfl rfl ?_
              refine sEv (v := (.int .i64 (((k : Int) - 1) - 1))) (rfl) rfl rfl ?_
              refine sDone ?_
              refine again ((k - 1)) (by omega) ⟨(k - 1), (O ++ [z_159]), (A168), (c169), (no + 1), rfl, rfl, rfl, rfl, rfl, rfl, rfl, (congrArg (Value.int .i64) (by omega)), ((hF141.trans (Frm.of_ext (G := fun b => (w114.heap.size ≤ b)) hE164)).trans hF172), ?_, ?_, ?_, ?_⟩
              · omega
              · omega
              · exact rev_snoc hF (by omega) (by omega) hz_159
              · exact hO171
            · refine sEv (v := (.bool false)) (evGeq false rfl rfl (dF hc154)) rfl rfl ?_
              refine sDone ?_
              refine xN (hK153 _ _ ?_)
              refine cF rfl ?_
              refine wp_exit (xE (xE (bE ?_)))
              refine xN (hK130 _ _ ?_)
              refine wp_seq_k fun K174 hK174 => ?_
              have h175 := (OwnZ.pzr hO).low
              refine wp_region_lit ?_
              refine sOp rfl (oCall rfl call15 (ref02_Small (by omega)) rfl ?_)
              rintro _ w178 ⟨sr_177, Ar_177, nr_177, cr_177, zr_177, rfl, hE179, hr_177, v_177, le_177⟩
              have hz180 := hE179.size
              have sgr_177 := hr_177.1; have kr_177 := hr_177.cap; have mr_177 := hr_177.max
              refine sOp rfl (oAlloc [(.int .i64 (0)), (.slice none 0 0)] zero31 rfl ?_)
              intro g182 w183 hg184 hE185 hz186 hB187
              refine sOp rfl (oStore [(.int .i64 (sr_177)), (.slice Ar_177 nr_177 cr_177)] rfl rfl rfl sz31 rfl hB187 (Nat.le_of_ble_eq_true rfl) ?_)
              intro w188 hU189 hz190 hB191
              replace hB191 : Blk w188 g182 31 [(.int .i64 (sr_177)), (.slice Ar_177 nr_177 cr_177)] := hB191
              refine sDone ?_
              refine xN (hK174 _ _ ?_)
              refine wp_seq_k fun K192 hK192 => ?_
              refine dBegin (fun _ => False) mixed ?_
              intro w193 hE194 hz195
              refine dEv 0 rfl (v := (.slice Af nf cf)) (fun _ _ => rfl) rfl rfl (by kernel_rfl) ?_
              have hB196 := (hB34.frm ((((((Frm.of_ext (G := fun b => (w114.heap.size ≤ b) ∨ (b = g182)) hF116).trans (hF141.mono (G' := fun b => (w114.heap.size ≤ b) ∨ (b = g182)) fun _ _ h => .inl h)).trans (Frm.of_ext (G := fun b => (w114.heap.size ≤ b) ∨ (b = g182)) hE179)).trans (Frm.of_ext (G := fun b => (w114.heap.size ≤ b) ∨ (b = g182)) hE185)).trans (hU189.mono (G' := fun b => (w114.heap.size ≤ b) ∨ (b = g182)) fun _ _ h => .inr h)).trans (Frm.of_ext (G := fun b => (w114.heap.size ≤ b) ∨ (b = g182)) hE194)) q1)
              refine dEv 1 rfl (v := (.agg #[(.bool gc), (.slice Ac nc cc)])) (fun _ hf => evLoadAB [(.bool gc), (.slice Ac nc cc)] agg46 sz46 rfl (hB196.ext hf) rfl) rfl rfl (by kernel_rfl) ?_
              refine dEv 3 rfl (v := (.slice Ax nx cx)) (fun _ _ => rfl) rfl rfl (by kernel_rfl) ?_
              have hB197 := (hB122.frm (((((hF141.mono (G' := fun b => (w114.heap.size ≤ b) ∨ (b = g182)) fun _ _ h => .inl h).trans (Frm.of_ext (G := fun b => (w114.heap.size ≤ b) ∨ (b = g182)) hE179)).trans (Frm.of_ext (G := fun b => (w114.heap.size ≤ b) ∨ (b = g182)) hE185)).trans (hU189.mono (G' := fun b => (w114.heap.size ≤ b) ∨ (b = g182)) fun _ _ h => .inr h)).trans (Frm.of_ext (G := fun b => (w114.heap.size ≤ b) ∨ (b = g182)) hE194)) q1)
              refine dEv 4 rfl (v := (.agg #[(.int .i64 (sa)), (.slice Aa na ca)])) (fun _ hf => evLoadAB [(.int .i64 (sa)), (.slice Aa na ca)] agg31 sz31 rfl (hB197.ext hf) rfl) rfl rfl (by kernel_rfl) ?_
              have hB198 := (hB191.ext hE194)
              refine dEv 5 rfl (v := (.agg #[(.int .i64 (sr_177)), (.slice Ar_177 nr_177 cr_177)])) (fun _ hf => evLoadAB [(.int .i64 (sr_177)), (.slice Ar_177 nr_177 cr_177)] agg31 sz31 rfl (hB198.ext hf) rfl) rfl rfl (by kernel_rfl) ?_
              refine dTwo 2 6 (by kernel_rfl) ?_ ?_
              · have h199 := (hf2.frmB ((((((((((Frm.of_ext (G := fun b => (w114.heap.size ≤ b) ∨ (b = g182)) hE5).trans (Frm.of_ext (G := fun b => (w114.heap.size ≤ b) ∨ (b = g182)) hE12)).trans (Frm.of_ext (G := fun b => (w114.heap.size ≤ b) ∨ (b = g182)) hE17)).trans (Frm.of_ext (G := fun b => (w114.heap.size ≤ b) ∨ (b = g182)) hE27)).trans (Frm.of_ext (G := fun b => (w114.heap.size ≤ b) ∨ (b = g182)) hF116)).trans (hF141.mono (G' := fun b => (w114.heap.size ≤ b) ∨ (b = g182)) fun _ _ h => .inl h)).trans (Frm.of_ext (G := fun b => (w114.heap.size ≤ b) ∨ (b = g182)) hE179)).trans (Frm.of_ext (G := fun b => (w114.heap.size ≤ b) ∨ (b = g182)) hE185)).trans (hU189.mono (G' := fun b => (w114.heap.size ≤ b) ∨ (b = g182)) fun _ _ h => .inr h)).trans (Frm.of_ext (G := fun b => (w114.heap.size ≤ b) ∨ (b = g182)) hE194)) q3)
                have h200 := (hc.frmB ((((((((((Frm.of_ext (G := fun b => (w114.heap.size ≤ b) ∨ (b = g182)) hE5).trans (Frm.of_ext (G := fun b => (w114.heap.size ≤ b) ∨ (b = g182)) hE12)).trans (Frm.of_ext (G := fun b => (w114.heap.size ≤ b) ∨ (b = g182)) hE17)).trans (Frm.of_ext (G := fun b => (w114.heap.size ≤ b) ∨ (b = g182)) hE27)).trans (Frm.of_ext (G := fun b => (w114.heap.size ≤ b) ∨ (b = g182)) hF116)).trans (hF141.mono (G' := fun b => (w114.heap.size ≤ b) ∨ (b = g182)) fun _ _ h => .inl h)).trans (Frm.of_ext (G := fun b => (w114.heap.size ≤ b) ∨ (b = g182)) hE179)).trans (Frm.of_ext (G := fun b => (w114.heap.size ≤ b) ∨ (b = g182)) hE185)).trans (hU189.mono (G' := fun b => (w114.heap.size ≤ b) ∨ (b = g182)) fun _ _ h => .inr h)).trans (Frm.of_ext (G := fun b => (w114.heap.size ≤ b) ∨ (b = g182)) hE194)) q3)
                refine dWp (i := 2) rfl rfl (oCall rfl call27 (unipoly_Shift h199 h200 (by omega) (by omega) (by omega)) rfl ?_)
                rintro _ w202 ⟨Ar_201, nr_201, cr_201, lr_201, rfl, hE203, hr_201, e_201, ln_201, cn_201⟩
                refine ⟨(Frm.of_ext hE203), ?_⟩
                have hz204 := hE203.size
                have kr_201 := hr_201.len; have jr_201 := hr_201.cap; have mr_201 := hr_201.max
                refine dOp 6 rfl rfl (by kernel_rfl) (oBuildSlice [(.agg #[(.int .i64 (sa)), (.slice Aa na ca)]), (.agg #[(.int .i64 (sr_177)), (.slice Ar_177 nr_177 cr_177)])] [[(.int .i64 (sa)), (.slice Aa na ca)], [(.int .i64 (sr_177)), (.slice Ar_177 nr_177 cr_177)]] Try.underlying27 inf31 rfl rfl rfl rfl rfl ?_)
                intro g206 w207 hg208 hE209 hz210 hB211
                refine ⟨(Frm.of_ext hE209), ?_⟩
                replace hB211 : Blk w207 g206 31 [(.int .i64 (sa)), (.slice Aa na ca), (.int .i64 (sr_177)), (.slice Ar_177 nr_177 cr_177)] := hB211
                have h213 := (hAz.frmB (((((((hF141.mono (G' := fun b => (w114.heap.size ≤ b) ∨ (b = g182)) fun _ _ h => .inl h).trans (Frm.of_ext (G := fun b => (w114.heap.size ≤ b) ∨ (b = g182)) hE179)).trans (Frm.of_ext (G := fun b => (w114.heap.size ≤ b) ∨ (b = g182)) hE185)).trans (hU189.mono (G' := fun b => (w114.heap.size ≤ b) ∨ (b = g182)) fun _ _ h => .inr h)).trans (Frm.of_ext (G := fun b => (w114.heap.size ≤ b) ∨ (b = g182)) hE194)).trans (Frm.of_ext (G := fun b => (w114.heap.size ≤ b) ∨ (b = g182)) hE203)).trans (Frm.of_ext (G := fun b => (w114.heap.size ≤ b) ∨ (b = g182)) hE209)) q3)
                have h214 := (hr_177.frmB (((((Frm.of_ext (G := fun b => (b = g182)) hE185).trans hU189).trans (Frm.of_ext (G := fun b => (b = g182)) hE194)).trans (Frm.of_ext (G := fun b => (b = g182)) hE203)).trans (Frm.of_ext (G := fun b => (b = g182)) hE209)) q3)
                have h212 : PZR w207 (fun _ => True) (some ⟨g206, 0, none⟩) 2 2 ([za, zr_177]) (na + nr_177) := PZR.two hB211 h213 h214 (by omega) (by omega)
                refine dOp 7 rfl rfl (by kernel_rfl) (oCall rfl call29 (ref08_Trim h212) rfl ?_)
                rintro _ w216 ⟨Ar_215, nr_215, cr_215, fr_215, rfl, hE217, hr_215, e_215, le_215⟩
                refine ⟨(Frm.of_ext hE217), ?_⟩
                have hz218 := hE217.size
                have lr_215 := hr_215.len; have kr_215 := hr_215.cap; have mr_215 := hr_215.max
                replace hr_215 := hr_215.low
                have h220 := (hX.frmB ((((((((hF141.mono (G' := fun b => (w114.heap.size ≤ b) ∨ (b = g182)) fun _ _ h => .inl h).trans (Frm.of_ext (G := fun b => (w114.heap.size ≤ b) ∨ (b = g182)) hE179)).trans (Frm.of_ext (G := fun b => (w114.heap.size ≤ b) ∨ (b = g182)) hE185)).trans (hU189.mono (G' := fun b => (w114.heap.size ≤ b) ∨ (b = g182)) fun _ _ h => .inr h)).trans (Frm.of_ext (G := fun b => (w114.heap.size ≤ b) ∨ (b = g182)) hE194)).trans (Frm.of_ext (G := fun b => (w114.heap.size ≤ b) ∨ (b = g182)) hE203)).trans (Frm.of_ext (G := fun b => (w114.heap.size ≤ b) ∨ (b = g182)) hE209)).trans (Frm.of_ext (G := fun b => (w114.heap.size ≤ b) ∨ (b = g182)) hE217)) q3)
                refine dOp 8 rfl rfl (by kernel_rfl) (oCall rfl call28 (ref08_Compose h220 hr_215 (by omega) (by omega) (by omega) (by omega)) rfl ?_)
                rintro _ w222 ⟨Ar_221, nr_221, cr_221, fr_221, rfl, hE223, hr_221, e_221, ln_221⟩
                refine ⟨(Frm.of_ext hE223), ?_⟩
                have hz224 := hE223.size
                have lr_221 := hr_221.len; have kr_221 := hr_221.cap; have mr_221 := hr_221.max
                replace hr_221 := hr_221.low
                have hE1 : zs lr_201 = fr_221 := by rw [e_201, e_221, e_215, heX, hza, v_177]; exact law_comp (fun i => co_trim _ i) (by rw [← heX]; exact lX)
                have h226 := (hr_201.ext ((hE209.trans hE217).trans hE223))
                refine dOp 9 rfl rfl (by kernel_rfl) (oCall rfl call17 (law08_Is h226 hr_221 (by omega) (by assumption) (by assumption)) rfl ?_)
                rintro _ w228 ⟨gr_227, rfl, hE229, e_227⟩
                refine ⟨(Frm.of_ext hE229), ?_⟩
                have hz230 := hE229.size
                obtain rfl : gr_227 = true := e_227
                refine dEv 10 rfl (v := (.bool true)) (fun _ _ => rfl) rfl rfl (by kernel_rfl) ?_
                refine dEv 11 rfl (v := (.slice Af nf cf)) (fun _ _ => rfl) rfl rfl (by kernel_rfl) ?_
                have hB231 := (hB196.ext ((((hE203.trans hE209).trans hE217).trans hE223).trans hE229))
                refine dEv 12 rfl (v := (.agg #[(.bool gc), (.slice Ac nc cc)])) (fun _ hf => evLoadAB [(.bool gc), (.slice Ac nc cc)] agg46 sz46 rfl (hB231.ext hf) rfl) rfl rfl (by kernel_rfl) ?_
                refine dEv 14 rfl (v := (.slice Ax nx cx)) (fun _ _ => rfl) rfl rfl (by kernel_rfl) ?_
                refine dEv 15 rfl (v := (.agg #[(.int .i64 (0)), (.slice none 0 0)])) (fun _ _ => evK (by kernel_rfl)) rfl rfl (by kernel_rfl) ?_
                have hB232 := (hB197.ext ((((hE203.trans hE209).trans hE217).trans hE223).trans hE229))
                refine dEv 16 rfl (v := (.agg #[(.int .i64 (sa)), (.slice Aa na ca)])) (fun _ hf => evLoadAB [(.int .i64 (sa)), (.slice Aa na ca)] agg31 sz31 rfl (hB232.ext hf) rfl) rfl rfl (by kernel_rfl) ?_
                refine dTwo 13 17 (by kernel_rfl) ?_ ?_
                · have h233 := (h199.ext ((((hE203.trans hE209).trans hE217).trans hE223).trans hE229))
                  have h234 := (h200.ext ((((hE203.trans hE209).trans hE217).trans hE223).trans hE229))
                  refine dWp (i := 13) rfl rfl (oCall rfl call30 (unipoly_Stretch h233 h234 (by omega) (by omega) (by omega)) rfl ?_)
                  rintro _ w236 ⟨Ar_235, nr_235, cr_235, lr_235, rfl, hE237, hr_235, e_235, ln_235, cn_235⟩
                  refine ⟨(Frm.of_ext hE237), ?_⟩
                  have hz238 := hE237.size
                  have kr_235 := hr_235.len; have jr_235 := hr_235.cap; have mr_235 := hr_235.max
                  refine dOp 17 rfl rfl (by kernel_rfl) (oBuildSlice [(.agg #[(.int .i64 (0)), (.slice none 0 0)]), (.agg #[(.int .i64 (sa)), (.slice Aa na ca)])] [[(.int .i64 (0)), (.slice none 0 0)], [(.int .i64 (sa)), (.slice Aa na ca)]] Try.underlying27 inf31 rfl rfl rfl rfl rfl ?_)
                  intro g240 w241 hg242 hE243 hz244 hB245
                  refine ⟨(Frm.of_ext hE243), ?_⟩
                  replace hB245 : Blk w241 g240 31 [(.int .i64 (0)), (.slice none 0 0), (.int .i64 (sa)), (.slice Aa na ca)] := hB245
                  have h247 := (h213.ext ((((hE217.trans hE223).trans hE229).trans hE237).trans hE243))
                  have h246 : PZR w241 (fun _ => True) (some ⟨g240, 0, none⟩) 2 2 ([0, za]) (0 + na) := PZR.two hB245 (ZR.zero (S := fun _ => True)) h247 (by omega) (by omega)
                  refine dOp 18 rfl rfl (by kernel_rfl) (oCall rfl call29 (ref08_Trim h246) rfl ?_)
                  rintro _ w249 ⟨Ar_248, nr_248, cr_248, fr_248, rfl, hE250, hr_248, e_248, le_248⟩
                  refine ⟨(Frm.of_ext hE250), ?_⟩
                  have hz251 := hE250.size
                  have lr_248 := hr_248.len; have kr_248 := hr_248.cap; have mr_248 := hr_248.max
                  replace hr_248 := hr_248.low
                  have h253 := (h220.ext ((((hE223.trans hE229).trans hE237).trans hE243).trans hE250))
                  refine dOp 19 rfl rfl (by kernel_rfl) (oCall rfl call28 (ref08_Compose h253 hr_248 (by omega) (by omega) (by omega) (by omega)) rfl ?_)
                  rintro _ w255 ⟨Ar_254, nr_254, cr_254, fr_254, rfl, hE256, hr_254, e_254, ln_254⟩
                  refine ⟨(Frm.of_ext hE256), ?_⟩
                  have hz257 := hE256.size
                  have lr_254 := hr_254.len; have kr_254 := hr_254.cap; have mr_254 := hr_254.max
                  replace hr_254 := hr_254.low
                  have hE2 : zs lr_235 = fr_254 := by rw [e_235, e_254, e_248, heX, hza]; exact law_comp (fun i => co_trim _ i) (by rw [← heX]; exact lX)
                  have h259 := (hr_235.ext ((hE243.trans hE250).trans hE256))
                  refine dOp 20 rfl rfl (by kernel_rfl) (oCall rfl call17 (law08_Is h259 hr_254 (by omega) (by assumption) (by assumption)) rfl ?_)
                  rintro _ w261 ⟨gr_260, rfl, hE262, e_260⟩
                  refine ⟨(Frm.of_ext hE262), ?_⟩
                  have hz263 := hE262.size
                  obtain rfl : gr_260 = true := e_260
                  refine dEv 21 rfl (v := (.bool true)) (fun _ _ => rfl) rfl rfl (by kernel_rfl) ?_
                  refine dEv 22 rfl (v := (.bool true)) (fun _ _ => rfl) rfl rfl (by kernel_rfl) ?_
                  refine dEv 23 rfl (v := (.slice Af nf cf)) (fun _ _ => rfl) rfl rfl (by kernel_rfl) ?_
                  refine dEv 25 rfl (v := (.slice Ao no cp)) (fun _ _ => rfl) rfl rfl (by kernel_rfl) ?_
                  have h264 := (h233.ext ((((hE237.trans hE243).trans hE250).trans hE256).trans hE262))
                  refine dOp 24 rfl rfl (by kernel_rfl) (oCall rfl call31 (unipoly_Reverse h264 (by omega) (by omega)) rfl ?_)
                  rintro _ w266 ⟨Ar_265, nr_265, cr_265, lr_265, rfl, hE267, hr_265, e_265, ln_265, cn_265⟩
                  refine ⟨(Frm.of_ext hE267), ?_⟩
                  have hz268 := hE267.size
                  have kr_265 := hr_265.len; have jr_265 := hr_265.cap; have mr_265 := hr_265.max
                  have h270 := (h175.frmB (((((((((((((((Frm.of_ext (G := fun b => (b = g182)) hE179).trans (Frm.of_ext (G := fun b => (b = g182)) hE185)).trans hU189).trans (Frm.of_ext (G := fun b => (b = g182)) hE194)).trans (Frm.of_ext (G := fun b => (b = g182)) hE203)).trans (Frm.of_ext (G := fun b => (b = g182)) hE209)).trans (Frm.of_ext (G := fun b => (b = g182)) hE217)).trans (Frm.of_ext (G := fun b => (b = g182)) hE223)).trans (Frm.of_ext (G := fun b => (b = g182)) hE229)).trans (Frm.of_ext (G := fun b => (b = g182)) hE237)).trans (Frm.of_ext (G := fun b => (b = g182)) hE243)).trans (Frm.of_ext (G := fun b => (b = g182)) hE250)).trans (Frm.of_ext (G := fun b => (b = g182)) hE256)).trans (Frm.of_ext (G := fun b => (b = g182)) hE262)).trans (Frm.of_ext (G := fun b => (b = g182)) hE267)) q3)
                  refine dOp 26 rfl rfl (by kernel_rfl) (oCall rfl call29 (ref08_Trim h270) rfl ?_)
                  rintro _ w272 ⟨Ar_271, nr_271, cr_271, fr_271, rfl, hE273, hr_271, e_271, le_271⟩
                  refine ⟨(Frm.of_ext hE273), ?_⟩
                  have hz274 := hE273.size
                  have lr_271 := hr_271.len; have kr_271 := hr_271.cap; have mr_271 := hr_271.max
                  have hE3 : zs lr_265 = fr_271 := by rw [e_265, e_271, hF, show k = 0 by omega, List.drop_zero, heX]
                  have h276 := (hr_265.ext hE273)
                  refine dOp 27 rfl rfl (by kernel_rfl) (oCall rfl call17 (law08_Is h276 hr_271 (by omega) (by assumption) (by assumption)) rfl ?_)
                  rintro _ w278 ⟨gr_277, rfl, hE279, e_277⟩
                  refine ⟨(Frm.of_ext hE279), ?_⟩
                  have hz280 := hE279.size
                  obtain rfl : gr_277 = true := e_277
                  refine dEv 28 rfl (v := (.bool true)) (fun _ _ => rfl) rfl rfl (by kernel_rfl) ?_
                  refine dEv 29 rfl (v := (.bool true)) (fun _ _ => rfl) rfl rfl (by kernel_rfl) ?_
                  refine dEv 30 rfl (v := (.slice Af nf cf)) (fun _ _ => rfl) rfl rfl (by kernel_rfl) ?_
                  refine dEv 31 rfl (v := (.slice Ag ng cg)) (fun _ _ => rfl) rfl rfl (by kernel_rfl) ?_
                  refine dEv 33 rfl (v := (.slice Ax nx cx)) (fun _ _ => rfl) rfl rfl (by kernel_rfl) ?_
                  refine dEv 34 rfl (v := (.slice Ag ng cg)) (fun _ _ => rfl) rfl rfl (by kernel_rfl) ?_
                  have h281 := (h264.ext ((hE267.trans hE273).trans hE279))
                  have h282 := (hg2.frmB (((((((((((((((((((((((Frm.of_ext (G := fun b => (w114.heap.size ≤ b) ∨ (b = g182)) hE5).trans (Frm.of_ext (G := fun b => (w114.heap.size ≤ b) ∨ (b = g182)) hE12)).trans (Frm.of_ext (G := fun b => (w114.heap.size ≤ b) ∨ (b = g182)) hE17)).trans (Frm.of_ext (G := fun b => (w114.heap.size ≤ b) ∨ (b = g182)) hE27)).trans (Frm.of_ext (G := fun b => (w114.heap.size ≤ b) ∨ (b = g182)) hF116)).trans (hF141.mono (G' := fun b => (w114.heap.size ≤ b) ∨ (b = g182)) fun _ _ h => .inl h)).trans (Frm.of_ext (G := fun b => (w114.heap.size ≤ b) ∨ (b = g182)) hE179)).trans (Frm.of_ext (G := fun b => (w114.heap.size ≤ b) ∨ (b = g182)) hE185)).trans (hU189.mono (G' := fun b => (w114.heap.size ≤ b) ∨ (b = g182)) fun _ _ h => .inr h)).trans (Frm.of_ext (G := fun b => (w114.heap.size ≤ b) ∨ (b = g182)) hE194)).trans (Frm.of_ext (G := fun b => (w114.heap.size ≤ b) ∨ (b = g182)) hE203)).trans (Frm.of_ext (G := fun b => (w114.heap.size ≤ b) ∨ (b = g182)) hE209)).trans (Frm.of_ext (G := fun b => (w114.heap.size ≤ b) ∨ (b = g182)) hE217)).trans (Frm.of_ext (G := fun b => (w114.heap.size ≤ b) ∨ (b = g182)) hE223)).trans (Frm.of_ext (G := fun b => (w114.heap.size ≤ b) ∨ (b = g182)) hE229)).trans (Frm.of_ext (G := fun b => (w114.heap.size ≤ b) ∨ (b = g182)) hE237)).trans (Frm.of_ext (G := fun b => (w114.heap.size ≤ b) ∨ (b = g182)) hE243)).trans (Frm.of_ext (G := fun b => (w114.heap.size ≤ b) ∨ (b = g182)) hE250)).trans (Frm.of_ext (G := fun b => (w114.heap.size ≤ b) ∨ (b = g182)) hE256)).trans (Frm.of_ext (G := fun b => (w114.heap.size ≤ b) ∨ (b = g182)) hE262)).trans (Frm.of_ext (G := fun b => (w114.heap.size ≤ b) ∨ (b = g182)) hE267)).trans (Frm.of_ext (G := fun b => (w114.heap.size ≤ b) ∨ (b = g182)) hE273)).trans (Frm.of_ext (G := fun b => (w114.heap.size ≤ b) ∨ (b = g182)) hE279)) q3)
                  refine dOp 32 rfl rfl (by kernel_rfl) (oCall rfl call32 (unipoly_Compose h281 h282 (by omega) (by omega) (by omega) (by omega)) rfl ?_)
                  rintro _ w284 ⟨Ar_283, nr_283, cr_283, lr_283, rfl, hE285, hr_283, e_283, ln_283, cn_283⟩
                  refine ⟨(Frm.of_ext hE285), ?_⟩
                  have hz286 := hE285.size
                  have kr_283 := hr_283.len; have jr_283 := hr_283.cap; have mr_283 := hr_283.max
                  have h288 := (h282.ext hE285)
                  refine dOp 35 rfl rfl (by kernel_rfl) (oCall rfl call14 (law08_Of h288 (by omega) (by omega)) rfl ?_)
                  rintro _ w290 ⟨Ar_289, nr_289, cr_289, fr_289, rfl, hE291, hr_289, e_289, ln_289⟩
                  refine ⟨(Frm.of_ext hE291), ?_⟩
                  have hz292 := hE291.size
                  have lr_289 := hr_289.len; have kr_289 := hr_289.cap; have mr_289 := hr_289.max
                  have h294 := (h253.ext ((((((hE256.trans hE262).trans hE267).trans hE273).trans hE279).trans hE285).trans hE291))
                  refine dOp 36 rfl rfl (by kernel_rfl) (oCall rfl call28 (ref08_Compose h294 hr_289 (by omega) (by omega) (by omega) (by omega)) rfl ?_)
                  rintro _ w296 ⟨Ar_295, nr_295, cr_295, fr_295, rfl, hE297, hr_295, e_295, ln_295⟩
                  refine ⟨(Frm.of_ext hE297), ?_⟩
                  have hz298 := hE297.size
                  have lr_295 := hr_295.len; have kr_295 := hr_295.cap; have mr_295 := hr_295.max
                  replace hr_295 := hr_295.low
                  have hE4 : zs lr_283 = fr_295 := by rw [e_283, e_295, e_289, heX]; exact law_comp (fun i => co_trim _ i) (by rw [← heX]; exact lX)
                  have h300 := (hr_283.ext (hE291.trans hE297))
                  refine dOp 37 rfl rfl (by kernel_rfl) (oCall rfl call17 (law08_Is h300 hr_295 (by omega) (by assumption) (by assumption)) rfl ?_)
                  rintro _ w302 ⟨gr_301, rfl, hE303, e_301⟩
                  refine ⟨(Frm.of_ext hE303), ?_⟩
                  have hz304 := hE303.size
                  obtain rfl : gr_301 = true := e_301
                  refine dEv 38 rfl (v := (.bool true)) (fun _ _ => rfl) rfl rfl (by kernel_rfl) ?_
                  refine dEv 39 rfl (v := (.bool true)) (fun _ _ => rfl) rfl rfl (by kernel_rfl) ?_
                  refine dDone (by kernel_rfl) ?_
                  refine xN (hK192 _ _ ?_)
                  refine wp_ret ?_
                  refine ret1 (.bool true) Try.results5 (resT rfl) ?_
                  exact ⟨(true), rfl, (Frm.mono (((((((((((((((((((((((((((Frm.of_ext (G := fun b => (w114.heap.size ≤ b) ∨ (b = g182)) hE5).trans (Frm.of_ext (G := fun b => (w114.heap.size ≤ b) ∨ (b = g182)) hE12)).trans (Frm.of_ext (G := fun b => (w114.heap.size ≤ b) ∨ (b = g182)) hE17)).trans (Frm.of_ext (G := fun b => (w114.heap.size ≤ b) ∨ (b = g182)) hE27)).trans (Frm.of_ext (G := fun b => (w114.heap.size ≤ b) ∨ (b = g182)) hF116)).trans (hF141.mono (G' := fun b => (w114.heap.size ≤ b) ∨ (b = g182)) fun _ _ h => .inl h)).trans (Frm.of_ext (G := fun b => (w114.heap.size ≤ b) ∨ (b = g182)) hE179)).trans (Frm.of_ext (G := fun b => (w114.heap.size ≤ b) ∨ (b = g182)) hE185)).trans (hU189.mono (G' := fun b => (w114.heap.size ≤ b) ∨ (b = g182)) fun _ _ h => .inr h)).trans (Frm.of_ext (G := fun b => (w114.heap.size ≤ b) ∨ (b = g182)) hE194)).trans (Frm.of_ext (G := fun b => (w114.heap.size ≤ b) ∨ (b = g182)) hE203)).trans (Frm.of_ext (G := fun b => (w114.heap.size ≤ b) ∨ (b = g182)) hE209)).trans (Frm.of_ext (G := fun b => (w114.heap.size ≤ b) ∨ (b = g182)) hE217)).trans (Frm.of_ext (G := fun b => (w114.heap.size ≤ b) ∨ (b = g182)) hE223)).trans (Frm.of_ext (G := fun b => (w114.heap.size ≤ b) ∨ (b = g182)) hE229)).trans (Frm.of_ext (G := fun b => (w114.heap.size ≤ b) ∨ (b = g182)) hE237)).trans (Frm.of_ext (G := fun b => (w114.heap.size ≤ b) ∨ (b = g182)) hE243)).trans (Frm.of_ext (G := fun b => (w114.heap.size ≤ b) ∨ (b = g182)) hE250)).trans (Frm.of_ext (G := fun b => (w114.heap.size ≤ b) ∨ (b = g182)) hE256)).trans (Frm.of_ext (G := fun b => (w114.heap.size ≤ b) ∨ (b = g182)) hE262)).trans (Frm.of_ext (G := fun b => (w114.heap.size ≤ b) ∨ (b = g182)) hE267)).trans (Frm.of_ext (G := fun b => (w114.heap.size ≤ b) ∨ (b = g182)) hE273)).trans (Frm.of_ext (G := fun b => (w114.heap.size ≤ b) ∨ (b = g182)) hE279)).trans (Frm.of_ext (G := fun b => (w114.heap.size ≤ b) ∨ (b = g182)) hE285)).trans (Frm.of_ext (G := fun b => (w114.heap.size ≤ b) ∨ (b = g182)) hE291)).trans (Frm.of_ext (G := fun b => (w114.heap.size ≤ b) ∨ (b = g182)) hE297)).trans (Frm.of_ext (G := fun b => (w114.heap.size ≤ b) ∨ (b = g182)) hE303)) q4), rfl⟩
                · refine dWp (i := 17) rfl rfl (oBuildSlice [(.agg #[(.int .i64 (0)), (.slice none 0 0)]), (.agg #[(.int .i64 (sa)), (.slice Aa na ca)])] [[(.int .i64 (0)), (.slice none 0 0)], [(.int .i64 (sa)), (.slice Aa na ca)]] Try.underlying27 inf31 rfl rfl rfl rfl rfl ?_)
                  intro g305 w306 hg307 hE308 hz309 hB310
                  refine ⟨(Frm.of_ext hE308), ?_⟩
                  replace hB310 : Blk w306 g305 31 [(.int .i64 (0)), (.slice none 0 0), (.int .i64 (sa)), (.slice Aa na ca)] := hB310
                  have h311 := (h199.ext (((((hE203.trans hE209).trans hE217).trans hE223).trans hE229).trans hE308))
                  have h312 := (h200.ext (((((hE203.trans hE209).trans hE217).trans hE223).trans hE229).trans hE308))
                  refine dOp 13 rfl rfl (by kernel_rfl) (oCall rfl call30 (unipoly_Stretch h311 h312 (by omega) (by omega) (by omega)) rfl ?_)
                  rintro _ w314 ⟨Ar_313, nr_313, cr_313, lr_313, rfl, hE315, hr_313, e_313, ln_313, cn_313⟩
                  refine ⟨(Frm.of_ext hE315), ?_⟩
                  have hz316 := hE315.size
                  have kr_313 := hr_313.len; have jr_313 := hr_313.cap; have mr_313 := hr_313.max
                  have hB318 := (hB310.ext hE315)
                  have h320 := (h213.ext ((((hE217.trans hE223).trans hE229).trans hE308).trans hE315))
                  have h319 : PZR w314 (fun _ => True) (some ⟨g305, 0, none⟩) 2 2 ([0, za]) (0 + na) := PZR.two hB318 (ZR.zero (S := fun _ => True)) h320 (by omega) (by omega)
                  refine dOp 18 rfl rfl (by kernel_rfl) (oCall rfl call29 (ref08_Trim h319) rfl ?_)
                  rintro _ w322 ⟨Ar_321, nr_321, cr_321, fr_321, rfl, hE323, hr_321, e_321, le_321⟩
                  refine ⟨(Frm.of_ext hE323), ?_⟩
                  have hz324 := hE323.size
                  have lr_321 := hr_321.len; have kr_321 := hr_321.cap; have mr_321 := hr_321.max
                  replace hr_321 := hr_321.low
                  have h326 := (h220.ext ((((hE223.trans hE229).trans hE308).trans hE315).trans hE323))
                  refine dOp 19 rfl rfl (by kernel_rfl) (oCall rfl call28 (ref08_Compose h326 hr_321 (by omega) (by omega) (by omega) (by omega)) rfl ?_)
                  rintro _ w328 ⟨Ar_327, nr_327, cr_327, fr_327, rfl, hE329, hr_327, e_327, ln_327⟩
                  refine ⟨(Frm.of_ext hE329), ?_⟩
                  have hz330 := hE329.size
                  have lr_327 := hr_327.len; have kr_327 := hr_327.cap; have mr_327 := hr_327.max
                  replace hr_327 := hr_327.low
                  have hE2 : zs lr_313 = fr_327 := by rw [e_313, e_327, e_321, heX, hza]; exact law_comp (fun i => co_trim _ i) (by rw [← heX]; exact lX)
                  have h332 := (hr_313.ext (hE323.trans hE329))
                  refine dOp 20 rfl rfl (by kernel_rfl) (oCall rfl call17 (law08_Is h332 hr_327 (by omega) (by assumption) (by assumption)) rfl ?_)
                  rintro _ w334 ⟨gr_333, rfl, hE335, e_333⟩
                  refine ⟨(Frm.of_ext hE335), ?_⟩
                  have hz336 := hE335.size
                  obtain rfl : gr_333 = true := e_333
                  refine dEv 21 rfl (v := (.bool true)) (fun _ _ => rfl) rfl rfl (by kernel_rfl) ?_
                  refine dEv 22 rfl (v := (.bool true)) (fun _ _ => rfl) rfl rfl (by kernel_rfl) ?_
                  refine dEv 23 rfl (v := (.slice Af nf cf)) (fun _ _ => rfl) rfl rfl (by kernel_rfl) ?_
                  refine dEv 25 rfl (v := (.slice Ao no cp)) (fun _ _ => rfl) rfl rfl (by kernel_rfl) ?_
                  have h337 := (h311.ext (((hE315.trans hE323).trans hE329).trans hE335))
                  refine dOp 24 rfl rfl (by kernel_rfl) (oCall rfl call31 (unipoly_Reverse h337 (by omega) (by omega)) rfl ?_)
                  rintro _ w339 ⟨Ar_338, nr_338, cr_338, lr_338, rfl, hE340, hr_338, e_338, ln_338, cn_338⟩
                  refine ⟨(Frm.of_ext hE340), ?_⟩
                  have hz341 := hE340.size
                  have kr_338 := hr_338.len; have jr_338 := hr_338.cap; have mr_338 := hr_338.max
                  have h343 := (h175.frmB (((((((((((((((Frm.of_ext (G := fun b => (b = g182)) hE179).trans (Frm.of_ext (G := fun b => (b = g182)) hE185)).trans hU189).trans (Frm.of_ext (G := fun b => (b = g182)) hE194)).trans (Frm.of_ext (G := fun b => (b = g182)) hE203)).trans (Frm.of_ext (G := fun b => (b = g182)) hE209)).trans (Frm.of_ext (G := fun b => (b = g182)) hE217)).trans (Frm.of_ext (G := fun b => (b = g182)) hE223)).trans (Frm.of_ext (G := fun b => (b = g182)) hE229)).trans (Frm.of_ext (G := fun b => (b = g182)) hE308)).trans (Frm.of_ext (G := fun b => (b = g182)) hE315)).trans (Frm.of_ext (G := fun b => (b = g182)) hE323)).trans (Frm.of_ext (G := fun b => (b = g182)) hE329)).trans (Frm.of_ext (G := fun b => (b = g182)) hE335)).trans (Frm.of_ext (G := fun b => (b = g182)) hE340)) q3)
                  refine dOp 26 rfl rfl (by kernel_rfl) (oCall rfl call29 (ref08_Trim h343) rfl ?_)
                  rintro _ w345 ⟨Ar_344, nr_344, cr_344, fr_344, rfl, hE346, hr_344, e_344, le_344⟩
                  refine ⟨(Frm.of_ext hE346), ?_⟩
                  have hz347 := hE346.size
                  have lr_344 := hr_344.len; have kr_344 := hr_344.cap; have mr_344 := hr_344.max
                  have hE3 : zs lr_338 = fr_344 := by rw [e_338, e_344, hF, show k = 0 by omega, List.drop_zero, heX]
                  have h349 := (hr_338.ext hE346)
                  refine dOp 27 rfl rfl (by kernel_rfl) (oCall rfl call17 (law08_Is h349 hr_344 (by omega) (by assumption) (by assumption)) rfl ?_)
                  rintro _ w351 ⟨gr_350, rfl, hE352, e_350⟩
                  refine ⟨(Frm.of_ext hE352), ?_⟩
                  have hz353 := hE352.size
                  obtain rfl : gr_350 = true := e_350
                  refine dEv 28 rfl (v := (.bool true)) (fun _ _ => rfl) rfl rfl (by kernel_rfl) ?_
                  refine dEv 29 rfl (v := (.bool true)) (fun _ _ => rfl) rfl rfl (by kernel_rfl) ?_
                  refine dEv 30 rfl (v := (.slice Af nf cf)) (fun _ _ => rfl) rfl rfl (by kernel_rfl) ?_
                  refine dEv 31 rfl (v := (.slice Ag ng cg)) (fun _ _ => rfl) rfl rfl (by kernel_rfl) ?_
                  refine dEv 33 rfl (v := (.slice Ax nx cx)) (fun _ _ => rfl) rfl rfl (by kernel_rfl) ?_
                  refine dEv 34 rfl (v := (.slice Ag ng cg)) (fun _ _ => rfl) rfl rfl (by kernel_rfl) ?_
                  have h354 := (h337.ext ((hE340.trans hE346).trans hE352))
                  have h355 := (hg2.frmB (((((((((((((((((((((((Frm.of_ext (G := fun b => (w114.heap.size ≤ b) ∨ (b = g182)) hE5).trans (Frm.of_ext (G := fun b => (w114.heap.size ≤ b) ∨ (b = g182)) hE12)).trans (Frm.of_ext (G := fun b => (w114.heap.size ≤ b) ∨ (b = g182)) hE17)).trans (Frm.of_ext (G := fun b => (w114.heap.size ≤ b) ∨ (b = g182)) hE27)).trans (Frm.of_ext (G := fun b => (w114.heap.size ≤ b) ∨ (b = g182)) hF116)).trans (hF141.mono (G' := fun b => (w114.heap.size ≤ b) ∨ (b = g182)) fun _ _ h => .inl h)).trans (Frm.of_ext (G := fun b => (w114.heap.size ≤ b) ∨ (b = g182)) hE179)).trans (Frm.of_ext (G := fun b => (w114.heap.size ≤ b) ∨ (b = g182)) hE185)).trans (hU189.mono (G' := fun b => (w114.heap.size ≤ b) ∨ (b = g182)) fun _ _ h => .inr h)).trans (Frm.of_ext (G := fun b => (w114.heap.size ≤ b) ∨ (b = g182)) hE194)).trans (Frm.of_ext (G := fun b => (w114.heap.size ≤ b) ∨ (b = g182)) hE203)).trans (Frm.of_ext (G := fun b => (w114.heap.size ≤ b) ∨ (b = g182)) hE209)).trans (Frm.of_ext (G := fun b => (w114.heap.size ≤ b) ∨ (b = g182)) hE217)).trans (Frm.of_ext (G := fun b => (w114.heap.size ≤ b) ∨ (b = g182)) hE223)).trans (Frm.of_ext (G := fun b => (w114.heap.size ≤ b) ∨ (b = g182)) hE229)).trans (Frm.of_ext (G := fun b => (w114.heap.size ≤ b) ∨ (b = g182)) hE308)).trans (Frm.of_ext (G := fun b => (w114.heap.size ≤ b) ∨ (b = g182)) hE315)).trans (Frm.of_ext (G := fun b => (w114.heap.size ≤ b) ∨ (b = g182)) hE323)).trans (Frm.of_ext (G := fun b => (w114.heap.size ≤ b) ∨ (b = g182)) hE329)).trans (Frm.of_ext (G := fun b => (w114.heap.size ≤ b) ∨ (b = g182)) hE335)).trans (Frm.of_ext (G := fun b => (w114.heap.size ≤ b) ∨ (b = g182)) hE340)).trans (Frm.of_ext (G := fun b => (w114.heap.size ≤ b) ∨ (b = g182)) hE346)).trans (Frm.of_ext (G := fun b => (w114.heap.size ≤ b) ∨ (b = g182)) hE352)) q3)
                  refine dOp 32 rfl rfl (by kernel_rfl) (oCall rfl call32 (unipoly_Compose h354 h355 (by omega) (by omega) (by omega) (by omega)) rfl ?_)
                  rintro _ w357 ⟨Ar_356, nr_356, cr_356, lr_356, rfl, hE358, hr_356, e_356, ln_356, cn_356⟩
                  refine ⟨(Frm.of_ext hE358), ?_⟩
                  have hz359 := hE358.size
                  have kr_356 := hr_356.len; have jr_356 := hr_356.cap; have mr_356 := hr_356.max
                  have h361 := (h355.ext hE358)
                  refine dOp 35 rfl rfl (by kernel_rfl) (oCall rfl call14 (law08_Of h361 (by omega) (by omega)) rfl ?_)
                  rintro _ w363 ⟨Ar_362, nr_362, cr_362, fr_362, rfl, hE364, hr_362, e_362, ln_362⟩
                  refine ⟨(Frm.of_ext hE364), ?_⟩
                  have hz365 := hE364.size
                  have lr_362 := hr_362.len; have kr_362 := hr_362.cap; have mr_362 := hr_362.max
                  have h367 := (h326.ext ((((((hE329.trans hE335).trans hE340).trans hE346).trans hE352).trans hE358).trans hE364))
                  refine dOp 36 rfl rfl (by kernel_rfl) (oCall rfl call28 (ref08_Compose h367 hr_362 (by omega) (by omega) (by omega) (by omega)) rfl ?_)
                  rintro _ w369 ⟨Ar_368, nr_368, cr_368, fr_368, rfl, hE370, hr_368, e_368, ln_368⟩
                  refine ⟨(Frm.of_ext hE370), ?_⟩
                  have hz371 := hE370.size
                  have lr_368 := hr_368.len; have kr_368 := hr_368.cap; have mr_368 := hr_368.max
                  replace hr_368 := hr_368.low
                  have hE4 : zs lr_356 = fr_368 := by rw [e_356, e_368, e_362, heX]; exact law_comp (fun i => co_trim _ i) (by rw [← heX]; exact lX)
                  have h373 := (hr_356.ext (hE364.trans hE370))
                  refine dOp 37 rfl rfl (by kernel_rfl) (oCall rfl call17 (law08_Is h373 hr_368 (by omega) (by assumption) (by assumption)) rfl ?_)
                  rintro _ w375 ⟨gr_374, rfl, hE376, e_374⟩
                  refine ⟨(Frm.of_ext hE376), ?_⟩
                  have hz377 := hE376.size
                  obtain rfl : gr_374 = true := e_374
                  refine dEv 38 rfl (v := (.bool true)) (fun _ _ => rfl) rfl rfl (by kernel_rfl) ?_
                  refine dEv 39 rfl (v := (.bool true)) (fun _ _ => rfl) rfl rfl (by kernel_rfl) ?_
                  refine dDone (by kernel_rfl) ?_
                  refine xN (hK192 _ _ ?_)
                  refine wp_ret ?_
                  refine ret1 (.bool true) Try.results5 (resT rfl) ?_
                  exact ⟨(true), rfl, (Frm.mono (((((((((((((((((((((((((((Frm.of_ext (G := fun b => (w114.heap.size ≤ b) ∨ (b = g182)) hE5).trans (Frm.of_ext (G := fun b => (w114.heap.size ≤ b) ∨ (b = g182)) hE12)).trans (Frm.of_ext (G := fun b => (w114.heap.size ≤ b) ∨ (b = g182)) hE17)).trans (Frm.of_ext (G := fun b => (w114.heap.size ≤ b) ∨ (b = g182)) hE27)).trans (Frm.of_ext (G := fun b => (w114.heap.size ≤ b) ∨ (b = g182)) hF116)).trans (hF141.mono (G' := fun b => (w114.heap.size ≤ b) ∨ (b = g182)) fun _ _ h => .inl h)).trans (Frm.of_ext (G := fun b => (w114.heap.size ≤ b) ∨ (b = g182)) hE179)).trans (Frm.of_ext (G := fun b => (w114.heap.size ≤ b) ∨ (b = g182)) hE185)).trans (hU189.mono (G' := fun b => (w114.heap.size ≤ b) ∨ (b = g182)) fun _ _ h => .inr h)).trans (Frm.of_ext (G := fun b => (w114.heap.size ≤ b) ∨ (b = g182)) hE194)).trans (Frm.of_ext (G := fun b => (w114.heap.size ≤ b) ∨ (b = g182)) hE203)).trans (Frm.of_ext (G := fun b => (w114.heap.size ≤ b) ∨ (b = g182)) hE209)).trans (Frm.of_ext (G := fun b => (w114.heap.size ≤ b) ∨ (b = g182)) hE217)).trans (Frm.of_ext (G := fun b => (w114.heap.size ≤ b) ∨ (b = g182)) hE223)).trans (Frm.of_ext (G := fun b => (w114.heap.size ≤ b) ∨ (b = g182)) hE229)).trans (Frm.of_ext (G := fun b => (w114.heap.size ≤ b) ∨ (b = g182)) hE308)).trans (Frm.of_ext (G := fun b => (w114.heap.size ≤ b) ∨ (b = g182)) hE315)).trans (Frm.of_ext (G := fun b => (w114.heap.size ≤ b) ∨ (b = g182)) hE323)).trans (Frm.of_ext (G := fun b => (w114.heap.size ≤ b) ∨ (b = g182)) hE329)).trans (Frm.of_ext (G := fun b => (w114.heap.size ≤ b) ∨ (b = g182)) hE335)).trans (Frm.of_ext (G := fun b => (w114.heap.size ≤ b) ∨ (b = g182)) hE340)).trans (Frm.of_ext (G := fun b => (w114.heap.size ≤ b) ∨ (b = g182)) hE346)).trans (Frm.of_ext (G := fun b => (w114.heap.size ≤ b) ∨ (b = g182)) hE352)).trans (Frm.of_ext (G := fun b => (w114.heap.size ≤ b) ∨ (b = g182)) hE358)).trans (Frm.of_ext (G := fun b => (w114.heap.size ≤ b) ∨ (b = g182)) hE364)).trans (Frm.of_ext (G := fun b => (w114.heap.size ≤ b) ∨ (b = g182)) hE370)).trans (Frm.of_ext (G := fun b => (w114.heap.size ≤ b) ∨ (b = g182)) hE376)) q4), rfl⟩
              · refine dWp (i := 6) rfl rfl (oBuildSlice [(.agg #[(.int .i64 (sa)), (.slice Aa na ca)]), (.agg #[(.int .i64 (sr_177)), (.slice Ar_177 nr_177 cr_177)])] [[(.int .i64 (sa)), (.slice Aa na ca)], [(.int .i64 (sr_177)), (.slice Ar_177 nr_177 cr_177)]] Try.underlying27 inf31 rfl rfl rfl rfl rfl ?_)
                intro g378 w379 hg380 hE381 hz382 hB383
                refine ⟨(Frm.of_ext hE381), ?_⟩
                replace hB383 : Blk w379 g378 31 [(.int .i64 (sa)), (.slice Aa na ca), (.int .i64 (sr_177)), (.slice Ar_177 nr_177 cr_177)] := hB383
                have h384 := (hf2.frmB (((((((((((Frm.of_ext (G := fun b => (w114.heap.size ≤ b) ∨ (b = g182)) hE5).trans (Frm.of_ext (G := fun b => (w114.heap.size ≤ b) ∨ (b = g182)) hE12)).trans (Frm.of_ext (G := fun b => (w114.heap.size ≤ b) ∨ (b = g182)) hE17)).trans (Frm.of_ext (G := fun b => (w114.heap.size ≤ b) ∨ (b = g182)) hE27)).trans (Frm.of_ext (G := fun b => (w114.heap.size ≤ b) ∨ (b = g182)) hF116)).trans (hF141.mono (G' := fun b => (w114.heap.size ≤ b) ∨ (b = g182)) fun _ _ h => .inl h)).trans (Frm.of_ext (G := fun b => (w114.heap.size ≤ b) ∨ (b = g182)) hE179)).trans (Frm.of_ext (G := fun b => (w114.heap.size ≤ b) ∨ (b = g182)) hE185)).trans (hU189.mono (G' := fun b => (w114.heap.size ≤ b) ∨ (b = g182)) fun _ _ h => .inr h)).trans (Frm.of_ext (G := fun b => (w114.heap.size ≤ b) ∨ (b = g182)) hE194)).trans (Frm.of_ext (G := fun b => (w114.heap.size ≤ b) ∨ (b = g182)) hE381)) q3)
                have h385 := (hc.frmB (((((((((((Frm.of_ext (G := fun b => (w114.heap.size ≤ b) ∨ (b = g182)) hE5).trans (Frm.of_ext (G := fun b => (w114.heap.size ≤ b) ∨ (b = g182)) hE12)).trans (Frm.of_ext (G := fun b => (w114.heap.size ≤ b) ∨ (b = g182)) hE17)).trans (Frm.of_ext (G := fun b => (w114.heap.size ≤ b) ∨ (b = g182)) hE27)).trans (Frm.of_ext (G := fun b => (w114.heap.size ≤ b) ∨ (b = g182)) hF116)).trans (hF141.mono (G' := fun b => (w114.heap.size ≤ b) ∨ (b = g182)) fun _ _ h => .inl h)).trans (Frm.of_ext (G := fun b => (w114.heap.size ≤ b) ∨ (b = g182)) hE179)).trans (Frm.of_ext (G := fun b => (w114.heap.size ≤ b) ∨ (b = g182)) hE185)).trans (hU189.mono (G' := fun b => (w114.heap.size ≤ b) ∨ (b = g182)) fun _ _ h => .inr h)).trans (Frm.of_ext (G := fun b => (w114.heap.size ≤ b) ∨ (b = g182)) hE194)).trans (Frm.of_ext (G := fun b => (w114.heap.size ≤ b) ∨ (b = g182)) hE381)) q3)
                refine dOp 2 rfl rfl (by kernel_rfl) (oCall rfl call27 (unipoly_Shift h384 h385 (by omega) (by omega) (by omega)) rfl ?_)
                rintro _ w387 ⟨Ar_386, nr_386, cr_386, lr_386, rfl, hE388, hr_386, e_386, ln_386, cn_386⟩
                refine ⟨(Frm.of_ext hE388), ?_⟩
                have hz389 := hE388.size
                have kr_386 := hr_386.len; have jr_386 := hr_386.cap; have mr_386 := hr_386.max
                have hB391 := (hB383.ext hE388)
                have h393 := (hAz.frmB (((((((hF141.mono (G' := fun b => (w114.heap.size ≤ b) ∨ (b = g182)) fun _ _ h => .inl h).trans (Frm.of_ext (G := fun b => (w114.heap.size ≤ b) ∨ (b = g182)) hE179)).trans (Frm.of_ext (G := fun b => (w114.heap.size ≤ b) ∨ (b = g182)) hE185)).trans (hU189.mono (G' := fun b => (w114.heap.size ≤ b) ∨ (b = g182)) fun _ _ h => .inr h)).trans (Frm.of_ext (G := fun b => (w114.heap.size ≤ b) ∨ (b = g182)) hE194)).trans (Frm.of_ext (G := fun b => (w114.heap.size ≤ b) ∨ (b = g182)) hE381)).trans (Frm.of_ext (G := fun b => (w114.heap.size ≤ b) ∨ (b = g182)) hE388)) q3)
                have h394 := (hr_177.frmB (((((Frm.of_ext (G := fun b => (b = g182)) hE185).trans hU189).trans (Frm.of_ext (G := fun b => (b = g182)) hE194)).trans (Frm.of_ext (G := fun b => (b = g182)) hE381)).trans (Frm.of_ext (G := fun b => (b = g182)) hE388)) q3)
                have h392 : PZR w387 (fun _ => True) (some ⟨g378, 0, none⟩) 2 2 ([za, zr_177]) (na + nr_177) := PZR.two hB391 h393 h394 (by omega) (by omega)
                refine dOp 7 rfl rfl (by kernel_rfl) (oCall rfl call29 (ref08_Trim h392) rfl ?_)
                rintro _ w396 ⟨Ar_395, nr_395, cr_395, fr_395, rfl, hE397, hr_395, e_395, le_395⟩
                refine ⟨(Frm.of_ext hE397), ?_⟩
                have hz398 := hE397.size
                have lr_395 := hr_395.len; have kr_395 := hr_395.cap; have mr_395 := hr_395.max
                replace hr_395 := hr_395.low
                have h400 := (hX.frmB ((((((((hF141.mono (G' := fun b => (w114.heap.size ≤ b) ∨ (b = g182)) fun _ _ h => .inl h).trans (Frm.of_ext (G := fun b => (w114.heap.size ≤ b) ∨ (b = g182)) hE179)).trans (Frm.of_ext (G := fun b => (w114.heap.size ≤ b) ∨ (b = g182)) hE185)).trans (hU189.mono (G' := fun b => (w114.heap.size ≤ b) ∨ (b = g182)) fun _ _ h => .inr h)).trans (Frm.of_ext (G := fun b => (w114.heap.size ≤ b) ∨ (b = g182)) hE194)).trans (Frm.of_ext (G := fun b => (w114.heap.size ≤ b) ∨ (b = g182)) hE381)).trans (Frm.of_ext (G := fun b => (w114.heap.size ≤ b) ∨ (b = g182)) hE388)).trans (Frm.of_ext (G := fun b => (w114.heap.size ≤ b) ∨ (b = g182)) hE397)) q3)
                refine dOp 8 rfl rfl (by kernel_rfl) (oCall rfl call28 (ref08_Compose h400 hr_395 (by omega) (by omega) (by omega) (by omega)) rfl ?_)
                rintro _ w402 ⟨Ar_401, nr_401, cr_401, fr_401, rfl, hE403, hr_401, e_401, ln_401⟩
                refine ⟨(Frm.of_ext hE403), ?_⟩
                have hz404 := hE403.size
                have lr_401 := hr_401.len; have kr_401 := hr_401.cap; have mr_401 := hr_401.max
                replace hr_401 := hr_401.low
                have hE1 : zs lr_386 = fr_401 := by rw [e_386, e_401, e_395, heX, hza, v_177]; exact law_comp (fun i => co_trim _ i) (by rw [← heX]; exact lX)
                have h406 := (hr_386.ext (hE397.trans hE403))
                refine dOp 9 rfl rfl (by kernel_rfl) (oCall rfl call17 (law08_Is h406 hr_401 (by omega) (by assumption) (by assumption)) rfl ?_)
                rintro _ w408 ⟨gr_407, rfl, hE409, e_407⟩
                refine ⟨(Frm.of_ext hE409), ?_⟩
                have hz410 := hE409.size
                obtain rfl : gr_407 = true := e_407
                refine dEv 10 rfl (v := (.bool true)) (fun _ _ => rfl) rfl rfl (by kernel_rfl) ?_
                refine dEv 11 rfl (v := (.slice Af nf cf)) (fun _ _ => rfl) rfl rfl (by kernel_rfl) ?_
                have hB411 := (hB196.ext ((((hE381.trans hE388).trans hE397).trans hE403).trans hE409))
                refine dEv 12 rfl (v := (.agg #[(.bool gc), (.slice Ac nc cc)])) (fun _ hf => evLoadAB [(.bool gc), (.slice Ac nc cc)] agg46 sz46 rfl (hB411.ext hf) rfl) rfl rfl (by kernel_rfl) ?_
                refine dEv 14 rfl (v := (.slice Ax nx cx)) (fun _ _ => rfl) rfl rfl (by kernel_rfl) ?_
                refine dEv 15 rfl (v := (.agg #[(.int .i64 (0)), (.slice none 0 0)])) (fun _ _ => evK (by kernel_rfl)) rfl rfl (by kernel_rfl) ?_
                have hB412 := (hB197.ext ((((hE381.trans hE388).trans hE397).trans hE403).trans hE409))
                refine dEv 16 rfl (v := (.agg #[(.int .i64 (sa)), (.slice Aa na ca)])) (fun _ hf => evLoadAB [(.int .i64 (sa)), (.slice Aa na ca)] agg31 sz31 rfl (hB412.ext hf) rfl) rfl rfl (by kernel_rfl) ?_
                refine dTwo 13 17 (by kernel_rfl) ?_ ?_
                · have h413 := (h384.ext (((hE388.trans hE397).trans hE403).trans hE409))
                  have h414 := (h385.ext (((hE388.trans hE397).trans hE403).trans hE409))
                  refine dWp (i := 13) rfl rfl (oCall rfl call30 (unipoly_Stretch h413 h414 (by omega) (by omega) (by omega)) rfl ?_)
                  rintro _ w416 ⟨Ar_415, nr_415, cr_415, lr_415, rfl, hE417, hr_415, e_415, ln_415, cn_415⟩
                  refine ⟨(Frm.of_ext hE417), ?_⟩
                  have hz418 := hE417.size
                  have kr_415 := hr_415.len; have jr_415 := hr_415.cap; have mr_415 := hr_415.max
                  refine dOp 17 rfl rfl (by kernel_rfl) (oBuildSlice [(.agg #[(.int .i64 (0)), (.slice none 0 0)]), (.agg #[(.int .i64 (sa)), (.slice Aa na ca)])] [[(.int .i64 (0)), (.slice none 0 0)], [(.int .i64 (sa)), (.slice Aa na ca)]] Try.underlying27 inf31 rfl rfl rfl rfl rfl ?_)
                  intro g420 w421 hg422 hE423 hz424 hB425
                  refine ⟨(Frm.of_ext hE423), ?_⟩
                  replace hB425 : Blk w421 g420 31 [(.int .i64 (0)), (.slice none 0 0), (.int .i64 (sa)), (.slice Aa na ca)] := hB425
                  have h427 := (h393.ext ((((hE397.trans hE403).trans hE409).trans hE417).trans hE423))
                  have h426 : PZR w421 (fun _ => True) (some ⟨g420, 0, none⟩) 2 2 ([0, za]) (0 + na) := PZR.two hB425 (ZR.zero (S := fun _ => True)) h427 (by omega) (by omega)
                  refine dOp 18 rfl rfl (by kernel_rfl) (oCall rfl call29 (ref08_Trim h426) rfl ?_)
                  rintro _ w429 ⟨Ar_428, nr_428, cr_428, fr_428, rfl, hE430, hr_428, e_428, le_428⟩
                  refine ⟨(Frm.of_ext hE430), ?_⟩
                  have hz431 := hE430.size
                  have lr_428 := hr_428.len; have kr_428 := hr_428.cap; have mr_428 := hr_428.max
                  replace hr_428 := hr_428.low
                  have h433 := (h400.ext ((((hE403.trans hE409).trans hE417).trans hE423).trans hE430))
                  refine dOp 19 rfl rfl (by kernel_rfl) (oCall rfl call28 (ref08_Compose h433 hr_428 (by omega) (by omega) (by omega) (by omega)) rfl ?_)
                  rintro _ w435 ⟨Ar_434, nr_434, cr_434, fr_434, rfl, hE436, hr_434, e_434, ln_434⟩
                  refine ⟨(Frm.of_ext hE436), ?_⟩
                  have hz437 := hE436.size
                  have lr_434 := hr_434.len; have kr_434 := hr_434.cap; have mr_434 := hr_434.max
                  replace hr_434 := hr_434.low
                  have hE2 : zs lr_415 = fr_434 := by rw [e_415, e_434, e_428, heX, hza]; exact law_comp (fun i => co_trim _ i) (by rw [← heX]; exact lX)
                  have h439 := (hr_415.ext ((hE423.trans hE430).trans hE436))
                  refine dOp 20 rfl rfl (by kernel_rfl) (oCall rfl call17 (law08_Is h439 hr_434 (by omega) (by assumption) (by assumption)) rfl ?_)
                  rintro _ w441 ⟨gr_440, rfl, hE442, e_440⟩
                  refine ⟨(Frm.of_ext hE442), ?_⟩
                  have hz443 := hE442.size
                  obtain rfl : gr_440 = true := e_440
                  refine dEv 21 rfl (v := (.bool true)) (fun _ _ => rfl) rfl rfl (by kernel_rfl) ?_
                  refine dEv 22 rfl (v := (.bool true)) (fun _ _ => rfl) rfl rfl (by kernel_rfl) ?_
                  refine dEv 23 rfl (v := (.slice Af nf cf)) (fun _ _ => rfl) rfl rfl (by kernel_rfl) ?_
                  refine dEv 25 rfl (v := (.slice Ao no cp)) (fun _ _ => rfl) rfl rfl (by kernel_rfl) ?_
                  have h444 := (h413.ext ((((hE417.trans hE423).trans hE430).trans hE436).trans hE442))
                  refine dOp 24 rfl rfl (by kernel_rfl) (oCall rfl call31 (unipoly_Reverse h444 (by omega) (by omega)) rfl ?_)
                  rintro _ w446 ⟨Ar_445, nr_445, cr_445, lr_445, rfl, hE447, hr_445, e_445, ln_445, cn_445⟩
                  refine ⟨(Frm.of_ext hE447), ?_⟩
                  have hz448 := hE447.size
                  have kr_445 := hr_445.len; have jr_445 := hr_445.cap; have mr_445 := hr_445.max
                  have h450 := (h175.frmB (((((((((((((((Frm.of_ext (G := fun b => (b = g182)) hE179).trans (Frm.of_ext (G := fun b => (b = g182)) hE185)).trans hU189).trans (Frm.of_ext (G := fun b => (b = g182)) hE194)).trans (Frm.of_ext (G := fun b => (b = g182)) hE381)).trans (Frm.of_ext (G := fun b => (b = g182)) hE388)).trans (Frm.of_ext (G := fun b => (b = g182)) hE397)).trans (Frm.of_ext (G := fun b => (b = g182)) hE403)).trans (Frm.of_ext (G := fun b => (b = g182)) hE409)).trans (Frm.of_ext (G := fun b => (b = g182)) hE417)).trans (Frm.of_ext (G := fun b => (b = g182)) hE423)).trans (Frm.of_ext (G := fun b => (b = g182)) hE430)).trans (Frm.of_ext (G := fun b => (b = g182)) hE436)).trans (Frm.of_ext (G := fun b => (b = g182)) hE442)).trans (Frm.of_ext (G := fun b => (b = g182)) hE447)) q3)
                  refine dOp 26 rfl rfl (by kernel_rfl) (oCall rfl call29 (ref08_Trim h450) rfl ?_)
                  rintro _ w452 ⟨Ar_451, nr_451, cr_451, fr_451, rfl, hE453, hr_451, e_451, le_451⟩
                  refine ⟨(Frm.of_ext hE453), ?_⟩
                  have hz454 := hE453.size
                  have lr_451 := hr_451.len; have kr_451 := hr_451.cap; have mr_451 := hr_451.max
                  have hE3 : zs lr_445 = fr_451 := by rw [e_445, e_451, hF, show k = 0 by omega, List.drop_zero, heX]
                  have h456 := (hr_445.ext hE453)
                  refine dOp 27 rfl rfl (by kernel_rfl) (oCall rfl call17 (law08_Is h456 hr_451 (by omega) (by assumption) (by assumption)) rfl ?_)
                  rintro _ w458 ⟨gr_457, rfl, hE459, e_457⟩
                  refine ⟨(Frm.of_ext hE459), ?_⟩
                  have hz460 := hE459.size
                  obtain rfl : gr_457 = true := e_457
                  refine dEv 28 rfl (v := (.bool true)) (fun _ _ => rfl) rfl rfl (by kernel_rfl) ?_
                  refine dEv 29 rfl (v := (.bool true)) (fun _ _ => rfl) rfl rfl (by kernel_rfl) ?_
                  refine dEv 30 rfl (v := (.slice Af nf cf)) (fun _ _ => rfl) rfl rfl (by kernel_rfl) ?_
                  refine dEv 31 rfl (v := (.slice Ag ng cg)) (fun _ _ => rfl) rfl rfl (by kernel_rfl) ?_
                  refine dEv 33 rfl (v := (.slice Ax nx cx)) (fun _ _ => rfl) rfl rfl (by kernel_rfl) ?_
                  refine dEv 34 rfl (v := (.slice Ag ng cg)) (fun _ _ => rfl) rfl rfl (by kernel_rfl) ?_
                  have h461 := (h444.ext ((hE447.trans hE453).trans hE459))
                  have h462 := (hg2.frmB (((((((((((((((((((((((Frm.of_ext (G := fun b => (w114.heap.size ≤ b) ∨ (b = g182)) hE5).trans (Frm.of_ext (G := fun b => (w114.heap.size ≤ b) ∨ (b = g182)) hE12)).trans (Frm.of_ext (G := fun b => (w114.heap.size ≤ b) ∨ (b = g182)) hE17)).trans (Frm.of_ext (G := fun b => (w114.heap.size ≤ b) ∨ (b = g182)) hE27)).trans (Frm.of_ext (G := fun b => (w114.heap.size ≤ b) ∨ (b = g182)) hF116)).trans (hF141.mono (G' := fun b => (w114.heap.size ≤ b) ∨ (b = g182)) fun _ _ h => .inl h)).trans (Frm.of_ext (G := fun b => (w114.heap.size ≤ b) ∨ (b = g182)) hE179)).trans (Frm.of_ext (G := fun b => (w114.heap.size ≤ b) ∨ (b = g182)) hE185)).trans (hU189.mono (G' := fun b => (w114.heap.size ≤ b) ∨ (b = g182)) fun _ _ h => .inr h)).trans (Frm.of_ext (G := fun b => (w114.heap.size ≤ b) ∨ (b = g182)) hE194)).trans (Frm.of_ext (G := fun b => (w114.heap.size ≤ b) ∨ (b = g182)) hE381)).trans (Frm.of_ext (G := fun b => (w114.heap.size ≤ b) ∨ (b = g182)) hE388)).trans (Frm.of_ext (G := fun b => (w114.heap.size ≤ b) ∨ (b = g182)) hE397)).trans (Frm.of_ext (G := fun b => (w114.heap.size ≤ b) ∨ (b = g182)) hE403)).trans (Frm.of_ext (G := fun b => (w114.heap.size ≤ b) ∨ (b = g182)) hE409)).trans (Frm.of_ext (G := fun b => (w114.heap.size ≤ b) ∨ (b = g182)) hE417)).trans (Frm.of_ext (G := fun b => (w114.heap.size ≤ b) ∨ (b = g182)) hE423)).trans (Frm.of_ext (G := fun b => (w114.heap.size ≤ b) ∨ (b = g182)) hE430)).trans (Frm.of_ext (G := fun b => (w114.heap.size ≤ b) ∨ (b = g182)) hE436)).trans (Frm.of_ext (G := fun b => (w114.heap.size ≤ b) ∨ (b = g182)) hE442)).trans (Frm.of_ext (G := fun b => (w114.heap.size ≤ b) ∨ (b = g182)) hE447)).trans (Frm.of_ext (G := fun b => (w114.heap.size ≤ b) ∨ (b = g182)) hE453)).trans (Frm.of_ext (G := fun b => (w114.heap.size ≤ b) ∨ (b = g182)) hE459)) q3)
                  refine dOp 32 rfl rfl (by kernel_rfl) (oCall rfl call32 (unipoly_Compose h461 h462 (by omega) (by omega) (by omega) (by omega)) rfl ?_)
                  rintro _ w464 ⟨Ar_463, nr_463, cr_463, lr_463, rfl, hE465, hr_463, e_463, ln_463, cn_463⟩
                  refine ⟨(Frm.of_ext hE465), ?_⟩
                  have hz466 := hE465.size
                  have kr_463 := hr_463.len; have jr_463 := hr_463.cap; have mr_463 := hr_463.max
                  have h468 := (h462.ext hE465)
                  refine dOp 35 rfl rfl (by kernel_rfl) (oCall rfl call14 (law08_Of h468 (by omega) (by omega)) rfl ?_)
                  rintro _ w470 ⟨Ar_469, nr_469, cr_469, fr_469, rfl, hE471, hr_469, e_469, ln_469⟩
                  refine ⟨(Frm.of_ext hE471), ?_⟩
                  have hz472 := hE471.size
                  have lr_469 := hr_469.len; have kr_469 := hr_469.cap; have mr_469 := hr_469.max
                  have h474 := (h433.ext ((((((hE436.trans hE442).trans hE447).trans hE453).trans hE459).trans hE465).trans hE471))
                  refine dOp 36 rfl rfl (by kernel_rfl) (oCall rfl call28 (ref08_Compose h474 hr_469 (by omega) (by omega) (by omega) (by omega)) rfl ?_)
                  rintro _ w476 ⟨Ar_475, nr_475, cr_475, fr_475, rfl, hE477, hr_475, e_475, ln_475⟩
                  refine ⟨(Frm.of_ext hE477), ?_⟩
                  have hz478 := hE477.size
                  have lr_475 := hr_475.len; have kr_475 := hr_475.cap; have mr_475 := hr_475.max
                  replace hr_475 := hr_475.low
                  have hE4 : zs lr_463 = fr_475 := by rw [e_463, e_475, e_469, heX]; exact law_comp (fun i => co_trim _ i) (by rw [← heX]; exact lX)
                  have h480 := (hr_463.ext (hE471.trans hE477))
                  refine dOp 37 rfl rfl (by kernel_rfl) (oCall rfl call17 (law08_Is h480 hr_475 (by omega) (by assumption) (by assumption)) rfl ?_)
                  rintro _ w482 ⟨gr_481, rfl, hE483, e_481⟩
                  refine ⟨(Frm.of_ext hE483), ?_⟩
                  have hz484 := hE483.size
                  obtain rfl : gr_481 = true := e_481
                  refine dEv 38 rfl (v := (.bool true)) (fun _ _ => rfl) rfl rfl (by kernel_rfl) ?_
                  refine dEv 39 rfl (v := (.bool true)) (fun _ _ => rfl) rfl rfl (by kernel_rfl) ?_
                  refine dDone (by kernel_rfl) ?_
                  refine xN (hK192 _ _ ?_)
                  refine wp_ret ?_
                  refine ret1 (.bool true) Try.results5 (resT rfl) ?_
                  exact ⟨(true), rfl, (Frm.mono (((((((((((((((((((((((((((Frm.of_ext (G := fun b => (w114.heap.size ≤ b) ∨ (b = g182)) hE5).trans (Frm.of_ext (G := fun b => (w114.heap.size ≤ b) ∨ (b = g182)) hE12)).trans (Frm.of_ext (G := fun b => (w114.heap.size ≤ b) ∨ (b = g182)) hE17)).trans (Frm.of_ext (G := fun b => (w114.heap.size ≤ b) ∨ (b = g182)) hE27)).trans (Frm.of_ext (G := fun b => (w114.heap.size ≤ b) ∨ (b = g182)) hF116)).trans (hF141.mono (G' := fun b => (w114.heap.size ≤ b) ∨ (b = g182)) fun _ _ h => .inl h)).trans (Frm.of_ext (G := fun b => (w114.heap.size ≤ b) ∨ (b = g182)) hE179)).trans (Frm.of_ext (G := fun b => (w114.heap.size ≤ b) ∨ (b = g182)) hE185)).trans (hU189.mono (G' := fun b => (w114.heap.size ≤ b) ∨ (b = g182)) fun _ _ h => .inr h)).trans (Frm.of_ext (G := fun b => (w114.heap.size ≤ b) ∨ (b = g182)) hE194)).trans (Frm.of_ext (G := fun b => (w114.heap.size ≤ b) ∨ (b = g182)) hE381)).trans (Frm.of_ext (G := fun b => (w114.heap.size ≤ b) ∨ (b = g182)) hE388)).trans (Frm.of_ext (G := fun b => (w114.heap.size ≤ b) ∨ (b = g182)) hE397)).trans (Frm.of_ext (G := fun b => (w114.heap.size ≤ b) ∨ (b = g182)) hE403)).trans (Frm.of_ext (G := fun b => (w114.heap.size ≤ b) ∨ (b = g182)) hE409)).trans (Frm.of_ext (G := fun b => (w114.heap.size ≤ b) ∨ (b = g182)) hE417)).trans (Frm.of_ext (G := fun b => (w114.heap.size ≤ b) ∨ (b = g182)) hE423)).trans (Frm.of_ext (G := fun b => (w114.heap.size ≤ b) ∨ (b = g182)) hE430)).trans (Frm.of_ext (G := fun b => (w114.heap.size ≤ b) ∨ (b = g182)) hE436)).trans (Frm.of_ext (G := fun b => (w114.heap.size ≤ b) ∨ (b = g182)) hE442)).trans (Frm.of_ext (G := fun b => (w114.heap.size ≤ b) ∨ (b = g182)) hE447)).trans (Frm.of_ext (G := fun b => (w114.heap.size ≤ b) ∨ (b = g182)) hE453)).trans (Frm.of_ext (G := fun b => (w114.heap.size ≤ b) ∨ (b = g182)) hE459)).trans (Frm.of_ext (G := fun b => (w114.heap.size ≤ b) ∨ (b = g182)) hE465)).trans (Frm.of_ext (G := fun b => (w114.heap.size ≤ b) ∨ (b = g182)) hE471)).trans (Frm.of_ext (G := fun b => (w114.heap.size ≤ b) ∨ (b = g182)) hE477)).trans (Frm.of_ext (G := fun b => (w114.heap.size ≤ b) ∨ (b = g182)) hE483)) q4), rfl⟩
                · refine dWp (i := 17) rfl rfl (oBuildSlice [(.agg #[(.int .i64 (0)), (.slice none 0 0)]), (.agg #[(.int .i64 (sa)), (.slice Aa na ca)])] [[(.int .i64 (0)), (.slice none 0 0)], [(.int .i64 (sa)), (.slice Aa na ca)]] Try.underlying27 inf31 rfl rfl rfl rfl rfl ?_)
                  intro g485 w486 hg487 hE488 hz489 hB490
                  refine ⟨(Frm.of_ext hE488), ?_⟩
                  replace hB490 : Blk w486 g485 31 [(.int .i64 (0)), (.slice none 0 0), (.int .i64 (sa)), (.slice Aa na ca)] := hB490
                  have h491 := (h384.ext ((((hE388.trans hE397).trans hE403).trans hE409).trans hE488))
                  have h492 := (h385.ext ((((hE388.trans hE397).trans hE403).trans hE409).trans hE488))
                  refine dOp 13 rfl rfl (by kernel_rfl) (oCall rfl call30 (unipoly_Stretch h491 h492 (by omega) (by omega) (by omega)) rfl ?_)
                  rintro _ w494 ⟨Ar_493, nr_493, cr_493, lr_493, rfl, hE495, hr_493, e_493, ln_493, cn_493⟩
                  refine ⟨(Frm.of_ext hE495), ?_⟩
                  have hz496 := hE495.size
                  have kr_493 := hr_493.len; have jr_493 := hr_493.cap; have mr_493 := hr_493.max
                  have hB498 := (hB490.ext hE495)
                  have h500 := (h393.ext ((((hE397.trans hE403).trans hE409).trans hE488).trans hE495))
                  have h499 : PZR w494 (fun _ => True) (some ⟨g485, 0, none⟩) 2 2 ([0, za]) (0 + na) := PZR.two hB498 (ZR.zero (S := fun _ => True)) h500 (by omega) (by omega)
                  refine dOp 18 rfl rfl (by kernel_rfl) (oCall rfl call29 (ref08_Trim h499) rfl ?_)
                  rintro _ w502 ⟨Ar_501, nr_501, cr_501, fr_501, rfl, hE503, hr_501, e_501, le_501⟩
                  refine ⟨(Frm.of_ext hE503), ?_⟩
                  have hz504 := hE503.size
                  have lr_501 := hr_501.len; have kr_501 := hr_501.cap; have mr_501 := hr_501.max
                  replace hr_501 := hr_501.low
                  have h506 := (h400.ext ((((hE403.trans hE409).trans hE488).trans hE495).trans hE503))
                  refine dOp 19 rfl rfl (by kernel_rfl) (oCall rfl call28 (ref08_Compose h506 hr_501 (by omega) (by omega) (by omega) (by omega)) rfl ?_)
                  rintro _ w508 ⟨Ar_507, nr_507, cr_507, fr_507, rfl, hE509, hr_507, e_507, ln_507⟩
                  refine ⟨(Frm.of_ext hE509), ?_⟩
                  have hz510 := hE509.size
                  have lr_507 := hr_507.len; have kr_507 := hr_507.cap; have mr_507 := hr_507.max
                  replace hr_507 := hr_507.low
                  have hE2 : zs lr_493 = fr_507 := by rw [e_493, e_507, e_501, heX, hza]; exact law_comp (fun i => co_trim _ i) (by rw [← heX]; exact lX)
                  have h512 := (hr_493.ext (hE503.trans hE509))
                  refine dOp 20 rfl rfl (by kernel_rfl) (oCall rfl call17 (law08_Is h512 hr_507 (by omega) (by assumption) (by assumption)) rfl ?_)
                  rintro _ w514 ⟨gr_513, rfl, hE515, e_513⟩
                  refine ⟨(Frm.of_ext hE515), ?_⟩
                  have hz516 := hE515.size
                  obtain rfl : gr_513 = true := e_513
                  refine dEv 21 rfl (v := (.bool true)) (fun _ _ => rfl) rfl rfl (by kernel_rfl) ?_
                  refine dEv 22 rfl (v := (.bool true)) (fun _ _ => rfl) rfl rfl (by kernel_rfl) ?_
                  refine dEv 23 rfl (v := (.slice Af nf cf)) (fun _ _ => rfl) rfl rfl (by kernel_rfl) ?_
                  refine dEv 25 rfl (v := (.slice Ao no cp)) (fun _ _ => rfl) rfl rfl (by kernel_rfl) ?_
                  have h517 := (h491.ext (((hE495.trans hE503).trans hE509).trans hE515))
                  refine dOp 24 rfl rfl (by kernel_rfl) (oCall rfl call31 (unipoly_Reverse h517 (by omega) (by omega)) rfl ?_)
                  rintro _ w519 ⟨Ar_518, nr_518, cr_518, lr_518, rfl, hE520, hr_518, e_518, ln_518, cn_518⟩
                  refine ⟨(Frm.of_ext hE520), ?_⟩
                  have hz521 := hE520.size
                  have kr_518 := hr_518.len; have jr_518 := hr_518.cap; have mr_518 := hr_518.max
                  have h523 := (h175.frmB (((((((((((((((Frm.of_ext (G := fun b => (b = g182)) hE179).trans (Frm.of_ext (G := fun b => (b = g182)) hE185)).trans hU189).trans (Frm.of_ext (G := fun b => (b = g182)) hE194)).trans (Frm.of_ext (G := fun b => (b = g182)) hE381)).trans (Frm.of_ext (G := fun b => (b = g182)) hE388)).trans (Frm.of_ext (G := fun b => (b = g182)) hE397)).trans (Frm.of_ext (G := fun b => (b = g182)) hE403)).trans (Frm.of_ext (G := fun b => (b = g182)) hE409)).trans (Frm.of_ext (G := fun b => (b = g182)) hE488)).trans (Frm.of_ext (G := fun b => (b = g182)) hE495)).trans (Frm.of_ext (G := fun b => (b = g182)) hE503)).trans (Frm.of_ext (G := fun b => (b = g182)) hE509)).trans (Frm.of_ext (G := fun b => (b = g182)) hE515)).trans (Frm.of_ext (G := fun b => (b = g182)) hE520)) q3)
                  refine dOp 26 rfl rfl (by kernel_rfl) (oCall rfl call29 (ref08_Trim h523) rfl ?_)
                  rintro _ w525 ⟨Ar_524, nr_524, cr_524, fr_524, rfl, hE526, hr_524, e_524, le_524⟩
                  refine ⟨(Frm.of_ext hE526), ?_⟩
                  have hz527 := hE526.size
                  have lr_524 := hr_524.len; have kr_524 := hr_524.cap; have mr_524 := hr_524.max
                  have hE3 : zs lr_518 = fr_524 := by rw [e_518, e_524, hF, show k = 0 by omega, List.drop_zero, heX]
                  have h529 := (hr_518.ext hE526)
                  refine dOp 27 rfl rfl (by kernel_rfl) (oCall rfl call17 (law08_Is h529 hr_524 (by omega) (by assumption) (by assumption)) rfl ?_)
                  rintro _ w531 ⟨gr_530, rfl, hE532, e_530⟩
                  refine ⟨(Frm.of_ext hE532), ?_⟩
                  have hz533 := hE532.size
                  obtain rfl : gr_530 = true := e_530
                  refine dEv 28 rfl (v := (.bool true)) (fun _ _ => rfl) rfl rfl (by kernel_rfl) ?_
                  refine dEv 29 rfl (v := (.bool true)) (fun _ _ => rfl) rfl rfl (by kernel_rfl) ?_
                  refine dEv 30 rfl (v := (.slice Af nf cf)) (fun _ _ => rfl) rfl rfl (by kernel_rfl) ?_
                  refine dEv 31 rfl (v := (.slice Ag ng cg)) (fun _ _ => rfl) rfl rfl (by kernel_rfl) ?_
                  refine dEv 33 rfl (v := (.slice Ax nx cx)) (fun _ _ => rfl) rfl rfl (by kernel_rfl) ?_
                  refine dEv 34 rfl (v := (.slice Ag ng cg)) (fun _ _ => rfl) rfl rfl (by kernel_rfl) ?_
                  have h534 := (h517.ext ((hE520.trans hE526).trans hE532))
                  have h535 := (hg2.frmB (((((((((((((((((((((((Frm.of_ext (G := fun b => (w114.heap.size ≤ b) ∨ (b = g182)) hE5).trans (Frm.of_ext (G := fun b => (w114.heap.size ≤ b) ∨ (b = g182)) hE12)).trans (Frm.of_ext (G := fun b => (w114.heap.size ≤ b) ∨ (b = g182)) hE17)).trans (Frm.of_ext (G := fun b => (w114.heap.size ≤ b) ∨ (b = g182)) hE27)).trans (Frm.of_ext (G := fun b => (w114.heap.size ≤ b) ∨ (b = g182)) hF116)).trans (hF141.mono (G' := fun b => (w114.heap.size ≤ b) ∨ (b = g182)) fun _ _ h => .inl h)).trans (Frm.of_ext (G := fun b => (w114.heap.size ≤ b) ∨ (b = g182)) hE179)).trans (Frm.of_ext (G := fun b => (w114.heap.size ≤ b) ∨ (b = g182)) hE185)).trans (hU189.mono (G' := fun b => (w114.heap.size ≤ b) ∨ (b = g182)) fun _ _ h => .inr h)).trans (Frm.of_ext (G := fun b => (w114.heap.size ≤ b) ∨ (b = g182)) hE194)).trans (Frm.of_ext (G := fun b => (w114.heap.size ≤ b) ∨ (b = g182)) hE381)).trans (Frm.of_ext (G := fun b => (w114.heap.size ≤ b) ∨ (b = g182)) hE388)).trans (Frm.of_ext (G := fun b => (w114.heap.size ≤ b) ∨ (b = g182)) hE397)).trans (Frm.of_ext (G := fun b => (w114.heap.size ≤ b) ∨ (b = g182)) hE403)).trans (Frm.of_ext (G := fun b => (w114.heap.size ≤ b) ∨ (b = g182)) hE409)).trans (Frm.of_ext (G := fun b => (w114.heap.size ≤ b) ∨ (b = g182)) hE488)).trans (Frm.of_ext (G := fun b => (w114.heap.size ≤ b) ∨ (b = g182)) hE495)).trans (Frm.of_ext (G := fun b => (w114.heap.size ≤ b) ∨ (b = g182)) hE503)).trans (Frm.of_ext (G := fun b => (w114.heap.size ≤ b) ∨ (b = g182)) hE509)).trans (Frm.of_ext (G := fun b => (w114.heap.size ≤ b) ∨ (b = g182)) hE515)).trans (Frm.of_ext (G := fun b => (w114.heap.size ≤ b) ∨ (b = g182)) hE520)).trans (Frm.of_ext (G := fun b => (w114.heap.size ≤ b) ∨ (b = g182)) hE526)).trans (Frm.of_ext (G := fun b => (w114.heap.size ≤ b) ∨ (b = g182)) hE532)) q3)
                  refine dOp 32 rfl rfl (by kernel_rfl) (oCall rfl call32 (unipoly_Compose h534 h535 (by omega) (by omega) (by omega) (by omega)) rfl ?_)
                  rintro _ w537 ⟨Ar_536, nr_536, cr_536, lr_536, rfl, hE538, hr_536, e_536, ln_536, cn_536⟩
                  refine ⟨(Frm.of_ext hE538), ?_⟩
                  have hz539 := hE538.size
                  have kr_536 := hr_536.len; have jr_536 := hr_536.cap; have mr_536 := hr_536.max
                  have h541 := (h535.ext hE538)
                  refine dOp 35 rfl rfl (by kernel_rfl) (oCall rfl call14 (law08_Of h541 (by omega) (by omega)) rfl ?_)
                  rintro _ w543 ⟨Ar_542, nr_542, cr_542, fr_542, rfl, hE544, hr_542, e_542, ln_542⟩
                  refine ⟨(Frm.of_ext hE544), ?_⟩
                  have hz545 := hE544.size
                  have lr_542 := hr_542.len; have kr_542 := hr_542.cap; have mr_542 := hr_542.max
                  have h547 := (h506.ext ((((((hE509.trans hE515).trans hE520).trans hE526).trans hE532).trans hE538).trans hE544))
                  refine dOp 36 rfl rfl (by kernel_rfl) (oCall rfl call28 (ref08_Compose h547 hr_542 (by omega) (by omega) (by omega) (by omega)) rfl ?_)
                  rintro _ w549 ⟨Ar_548, nr_548, cr_548, fr_548, rfl, hE550, hr_548, e_548, ln_548⟩
                  refine ⟨(Frm.of_ext hE550), ?_⟩
                  have hz551 := hE550.size
                  have lr_548 := hr_548.len; have kr_548 := hr_548.cap; have mr_548 := hr_548.max
                  replace hr_548 := hr_548.low
                  have hE4 : zs lr_536 = fr_548 := by rw [e_536, e_548, e_542, heX]; exact law_comp (fun i => co_trim _ i) (by rw [← heX]; exact lX)
                  have h553 := (hr_536.ext (hE544.trans hE550))
                  refine dOp 37 rfl rfl (by kernel_rfl) (oCall rfl call17 (law08_Is h553 hr_548 (by omega) (by assumption) (by assumption)) rfl ?_)
                  rintro _ w555 ⟨gr_554, rfl, hE556, e_554⟩
                  refine ⟨(Frm.of_ext hE556), ?_⟩
                  have hz557 := hE556.size
                  obtain rfl : gr_554 = true := e_554
                  refine dEv 38 rfl (v := (.bool true)) (fun _ _ => rfl) rfl rfl (by kernel_rfl) ?_
                  refine dEv 39 rfl (v := (.bool true)) (fun _ _ => rfl) rfl rfl (by kernel_rfl) ?_
                  refine dDone (by kernel_rfl) ?_
                  refine xN (hK192 _ _ ?_)
                  refine wp_ret ?_
                  refine ret1 (.bool true) Try.results5 (resT rfl) ?_
                  exact ⟨(true), rfl, (Frm.mono (((((((((((((((((((((((((((Frm.of_ext (G := fun b => (w114.heap.size ≤ b) ∨ (b = g182)) hE5).trans (Frm.of_ext (G := fun b => (w114.heap.size ≤ b) ∨ (b = g182)) hE12)).trans (Frm.of_ext (G := fun b => (w114.heap.size ≤ b) ∨ (b = g182)) hE17)).trans (Frm.of_ext (G := fun b => (w114.heap.size ≤ b) ∨ (b = g182)) hE27)).trans (Frm.of_ext (G := fun b => (w114.heap.size ≤ b) ∨ (b = g182)) hF116)).trans (hF141.mono (G' := fun b => (w114.heap.size ≤ b) ∨ (b = g182)) fun _ _ h => .inl h)).trans (Frm.of_ext (G := fun b => (w114.heap.size ≤ b) ∨ (b = g182)) hE179)).trans (Frm.of_ext (G := fun b => (w114.heap.size ≤ b) ∨ (b = g182)) hE185)).trans (hU189.mono (G' := fun b => (w114.heap.size ≤ b) ∨ (b = g182)) fun _ _ h => .inr h)).trans (Frm.of_ext (G := fun b => (w114.heap.size ≤ b) ∨ (b = g182)) hE194)).trans (Frm.of_ext (G := fun b => (w114.heap.size ≤ b) ∨ (b = g182)) hE381)).trans (Frm.of_ext (G := fun b => (w114.heap.size ≤ b) ∨ (b = g182)) hE388)).trans (Frm.of_ext (G := fun b => (w114.heap.size ≤ b) ∨ (b = g182)) hE397)).trans (Frm.of_ext (G := fun b => (w114.heap.size ≤ b) ∨ (b = g182)) hE403)).trans (Frm.of_ext (G := fun b => (w114.heap.size ≤ b) ∨ (b = g182)) hE409)).trans (Frm.of_ext (G := fun b => (w114.heap.size ≤ b) ∨ (b = g182)) hE488)).trans (Frm.of_ext (G := fun b => (w114.heap.size ≤ b) ∨ (b = g182)) hE495)).trans (Frm.of_ext (G := fun b => (w114.heap.size ≤ b) ∨ (b = g182)) hE503)).trans (Frm.of_ext (G := fun b => (w114.heap.size ≤ b) ∨ (b = g182)) hE509)).trans (Frm.of_ext (G := fun b => (w114.heap.size ≤ b) ∨ (b = g182)) hE515)).trans (Frm.of_ext (G := fun b => (w114.heap.size ≤ b) ∨ (b = g182)) hE520)).trans (Frm.of_ext (G := fun b => (w114.heap.size ≤ b) ∨ (b = g182)) hE526)).trans (Frm.of_ext (G := fun b => (w114.heap.size ≤ b) ∨ (b = g182)) hE532)).trans (Frm.of_ext (G := fun b => (w114.heap.size ≤ b) ∨ (b = g182)) hE538)).trans (Frm.of_ext (G := fun b => (w114.heap.size ≤ b) ∨ (b = g182)) hE544)).trans (Frm.of_ext (G := fun b => (w114.heap.size ≤ b) ∨ (b = g182)) hE550)).trans (Frm.of_ext (G := fun b => (w114.heap.size ≤ b) ∨ (b = g182)) hE556)) q4), rfl⟩

end Go.Proofs.Ytppegjbdencefaa
