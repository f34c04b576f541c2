/-
  Walk of the law UnipolyHomomorphism.
-/
import Derived.Test.YtppegjbdencefaaLaw6
import Derived.Test.YtppegjbdencefaaUni8
import Derived.Test.YtppegjbdencefaaFloat
namespace Go.Proofs.Ytppegjbdencefaa
open Go.RowKit Go.Gx
set_option maxHeartbeats 4000000 in
theorem law08_homomorphism {w : World} {Sf : Nat → Prop} {Af : Option Addr} {nf cf Mf : Nat} {lf : List RI} {Sg : Nat → Prop} {Ag : Option Addr} {ng cg Mg : Nat} {lg : List RI} {ga : Bool} {Sa : Nat → Prop} {Aa : Option Addr} {na ca : Nat} {da : List Nat} {Sav : Nat → Prop} {Aav : Option Addr} {nav cav : Nat} {dav : List Nat} (hf : PolyR w Sf Af nf cf lf Mf) (hg : PolyR w Sg Ag ng cg lg Mg) (ha : NatR w Sa Aa na ca da) (hav : NatR w Sav Aav nav cav dav)  : Calls Try.prog 11 #[(.slice Af nf cf), (.slice Ag ng cg), (.agg #[(.bool ga), (.slice Aa na ca), (.slice Aav nav cav)])] w (Ret fun v w' => ∃ (gr : Bool), v = (.bool gr) ∧ Ext w w' ∧ (gr = true)) := by
  have kf := hf.len; have jf := hf.cap; have mf := hf.max
  replace hf := hf.low
  have kg := hg.len; have jg := hg.cap; have mg := hg.max
  replace hg := hg.low
  have la := ha.len; have ka := ha.cap; have ma := ha.max
  replace ha := ha.low
  have lav := hav.len; have kav := hav.cap; have mav := hav.max
  replace hav := hav.low
  refine enter Try.func11 rfl Try.ntmps11 rfl ?_
  refine wp_seq_k fun K1 hK1 => ?_
  refine wp_region_lit ?_
  refine sOp rfl (oBox [(.bool ga), (.slice Aa na ca), (.slice Aav nav cav)] rfl rfl ?_)
  intro g2 w3 hg4 hE5 hz6 hB7
  refine sEv (v := (.bool false)) (rfl) rfl rfl ?_
  refine sDone ?_
  refine xN (hK1 _ _ ?_)
  refine wp_seq_k fun K8 hK8 => ?_
  refine wp_seq_k fun K9 hK9 => ?_
  refine wp_region_lit ?_
  refine sOp rfl (oCall rfl call12 (law08_awake) rfl ?_)
  rintro _ w11 ⟨gr_10, rfl, hE12, e_10⟩
  have hz13 := hE12.size
  obtain rfl : gr_10 = true := e_10
  refine sEv (v := (.bool false)) (evNot _ rfl rfl) rfl rfl ?_
  refine sEv (v := (.bool false)) (rfl) rfl rfl ?_
  refine sEv (v := (.slice Af nf cf)) (rfl) rfl rfl ?_
  have h14 := (hf.ext (hE5.trans hE12))
  refine sOp rfl (oCall rfl call13 (cylinderlaw08_Few h14) rfl ?_)
  rintro _ w16 ⟨gr_15, rfl, hE17, e_15⟩
  have hz18 := hE17.size
  refine sEv (v := (.bool (!gr_15))) (evNot _ rfl rfl) rfl rfl ?_
  refine sEv (v := (.bool (!gr_15))) (rfl) rfl rfl ?_
  refine sEv (v := (.bool (!gr_15))) (rfl) rfl rfl ?_
  cases gr_15
  · refine sSkip rfl rfl ?_
    refine sSkip rfl rfl ?_
    refine sSkip rfl rfl ?_
    refine sEv (v := (.bool true)) (rfl) rfl rfl ?_
    refine sEv (v := (.bool true)) (rfl) rfl rfl ?_
    refine sSkip rfl rfl ?_
    refine sSkip rfl rfl ?_
    refine sSkip rfl rfl ?_
    refine sSkip rfl rfl ?_
    refine sSkip rfl rfl ?_
    refine sSkip rfl rfl ?_
    refine sSkip rfl rfl ?_
    refine sSkip rfl rfl ?_
    refine sEv (v := (.bool true)) (rfl) rfl rfl ?_
    refine sDone ?_
    refine xN (hK9 _ _ ?_)
    refine cT rfl ?_
    refine wp_seq_k fun K19 hK19 => ?_
    refine wp_region_lit ?_
    refine sOp rfl (oCall rfl call12 (law08_awake) rfl ?_)
    rintro _ w21 ⟨gr_20, rfl, hE22, e_20⟩
    have hz23 := hE22.size
    obtain rfl : gr_20 = true := e_20
    refine sEv (v := (.bool true)) (rfl) rfl rfl ?_
    refine sDone ?_
    refine xN (hK19 _ _ ?_)
    refine wp_ret (xR ?_)
    refine ret1 (.bool true) Try.results11 (resT rfl) ?_
    exact ⟨(true), rfl, (((hE5.trans hE12).trans hE17).trans hE22), rfl⟩
  · refine sEv (v := (.slice Ag ng cg)) (rfl) rfl rfl ?_
    have h24 := (hg.ext ((hE5.trans hE12).trans hE17))
    refine sOp rfl (oCall rfl call13 (cylinderlaw08_Few h24) rfl ?_)
    rintro _ w26 ⟨gr_25, rfl, hE27, e_25⟩
    have hz28 := hE27.size
    refine sEv (v := (.bool (!gr_25))) (evNot _ rfl rfl) rfl rfl ?_
    refine sEv (v := (.bool (!gr_25))) (rfl) rfl rfl ?_
    refine sEv (v := (.bool (!gr_25))) (rfl) rfl rfl ?_
    cases gr_25
    · refine sSkip rfl rfl ?_
      refine sSkip rfl rfl ?_
      refine sSkip rfl rfl ?_
      refine sSkip rfl rfl ?_
      refine sSkip rfl rfl ?_
      refine sSkip rfl rfl ?_
      refine sSkip rfl rfl ?_
      refine sSkip rfl rfl ?_
      refine sEv (v := (.bool true)) (rfl) rfl rfl ?_
      refine sDone ?_
      refine xN (hK9 _ _ ?_)
      refine cT rfl ?_
      refine wp_seq_k fun K29 hK29 => ?_
      refine wp_region_lit ?_
      refine sOp rfl (oCall rfl call12 (law08_awake) rfl ?_)
      rintro _ w31 ⟨gr_30, rfl, hE32, e_30⟩
      have hz33 := hE32.size
      obtain rfl : gr_30 = true := e_30
      refine sEv (v := (.bool true)) (rfl) rfl rfl ?_
      refine sDone ?_
      refine xN (hK29 _ _ ?_)
      refine wp_ret (xR ?_)
      refine ret1 (.bool true) Try.results11 (resT rfl) ?_
      exact ⟨(true), rfl, ((((hE5.trans hE12).trans hE17).trans hE27).trans hE32), rfl⟩
    · refine sEv (v := (.pointer (some ⟨g2, 0, none⟩))) (evFA 0 fa64_0 rfl rfl) rfl rfl ?_
      refine sEv (v := (.pointer (some ⟨g2, 1, none⟩))) (evFA 1 fa46_1 rfl rfl) rfl rfl ?_
      have hB34 := (hB7.ext ((hE12.trans hE17).trans hE27))
      refine sEv (v := (.slice Aa na ca)) (evLoadB one44 rfl hB34 rfl) rfl rfl ?_
      refine sEv (v := (.pointer (some ⟨g2, 2, none⟩))) (evFA 2 fa64_1 rfl rfl) rfl rfl ?_
      refine sEv (v := (.slice Aav nav cav)) (evLoadB one44 rfl hB34 rfl) rfl rfl ?_
      refine sOp rfl (oBuildSlice [(.slice Aa na ca), (.slice Aav nav cav)] [[(.slice Aa na ca)], [(.slice Aav nav cav)]] Try.underlying102 inf43 rfl rfl rfl rfl rfl ?_)
      intro g35 w36 hg37 hE38 hz39 hB40
      replace hB40 : Blk w36 g35 43 [(.slice Aa na ca), (.slice Aav nav cav)] := hB40
      refine sOp rfl (oCall rfl call49 (ref01_Few hB40) rfl ?_)
      rintro _ w42 ⟨gr_41, rfl, hE43, e_41⟩
      have hz44 := hE43.size
      refine sEv (v := (.bool (!gr_41))) (evNot _ rfl rfl) rfl rfl ?_
      refine sEv (v := (.bool (!gr_41))) (rfl) rfl rfl ?_
      refine sDone ?_
      refine xN (hK9 _ _ ?_)
      cases gr_41
      · refine cT rfl ?_
        refine wp_seq_k fun K45 hK45 => ?_
        refine wp_region_lit ?_
        refine sOp rfl (oCall rfl call12 (law08_awake) rfl ?_)
        rintro _ w47 ⟨gr_46, rfl, hE48, e_46⟩
        have hz49 := hE48.size
        obtain rfl : gr_46 = true := e_46
        refine sEv (v := (.bool true)) (rfl) rfl rfl ?_
        refine sDone ?_
        refine xN (hK45 _ _ ?_)
        refine wp_ret (xR ?_)
        refine ret1 (.bool true) Try.results11 (resT rfl) ?_
        exact ⟨(true), rfl, ((((((hE5.trans hE12).trans hE17).trans hE27).trans hE38).trans hE43).trans hE48), rfl⟩
      · refine cF rfl ?_
        refine wp_skip ?_
        refine xN (hK8 _ _ ?_)
        refine wp_seq_k fun K50 hK50 => ?_
        have qf := e_15 rfl
        have qnf := qf.1
        have hf2 := hf.reM (M' := 2) (by intro r hr; have := qf.2 r hr; omega)
        have qg := e_25 rfl
        have qng := qg.1
        have hg2 := hg.reM (M' := 2) (by intro r hr; have := qg.2 r hr; omega)
        have hfw := e_41 rfl
        have hB51 := (hB34.ext (hE38.trans hE43))
        have hB52 := (hB40.ext hE43)
        refine wpJoin (n := 98) (fun e w_ => ∃ (gx_ : Bool) (Ax_ : Option Addr) (nx_ : Nat) (cx_ : Nat) (dx_ : List Nat) (Axw : Option Addr) (nxw : Nat) (cxw : Nat) (dxw : List Nat) (q7 : Nat) (gy_ : Bool) (Ay_ : Option Addr) (ny_ : Nat) (cy_ : Nat) (dy_ : List Nat) (Ayw : Option Addr) (nyw : Nat) (cyw : Nat) (dyw : List Nat) (q8 : Nat), e 0 = (.slice Af nf cf) ∧ e 1 = (.slice Ag ng cg) ∧ e 5 = (.pointer (some ⟨g2, 0, none⟩)) ∧ e 7 = (.pointer (some ⟨q7, 0, none⟩)) ∧ e 8 = (.pointer (some ⟨q8, 0, none⟩)) ∧ Frm (fun _ => False) w42 w_ ∧ Blk w_ q7 64 ([.bool gx_, .slice Ax_ nx_ cx_, .slice Axw nxw cxw]) ∧ Blk w_ q8 64 ([.bool gy_, .slice Ay_ ny_ cy_, .slice Ayw nyw cyw]) ∧ (NatR w_ (fun b => b < w_.heap.size) Ax_ nx_ cx_ dx_) ∧ (NatR w_ (fun b => b < w_.heap.size) Axw nxw cxw dxw) ∧ (rv (zval gx_ dx_) (val dxw) = evQ (zs lf) (rv (zval ga da) (val dav))) ∧ (nx_ ≤ 121) ∧ (nxw ≤ 67) ∧ (NatR w_ (fun b => b < w_.heap.size) Ay_ ny_ cy_ dy_) ∧ (NatR w_ (fun b => b < w_.heap.size) Ayw nyw cyw dyw) ∧ (rv (zval gy_ dy_) (val dyw) = evQ (zs lg) (rv (zval ga da) (val dav))) ∧ (ny_ ≤ 121) ∧ (nyw ≤ 67)) ?_ ?_
        · refine dBegin (fun b => w42.heap.size ≤ b) mixed ?_
          intro w53 hE54 hz55
          refine dEv 0 rfl (v := (.slice Af nf cf)) (fun _ _ => rfl) rfl rfl (by kernel_rfl) ?_
          have hB56 := (hB51.ext hE54)
          refine dEv 1 rfl (v := (.agg #[(.bool ga), (.slice Aa na ca), (.slice Aav nav cav)])) (fun _ hf => evLoadAB [(.bool ga), (.slice Aa na ca), (.slice Aav nav cav)] agg64 sz64 rfl (hB56.frm hf q1) rfl) rfl rfl (by kernel_rfl) ?_
          refine dEv 3 rfl (v := (.slice Ag ng cg)) (fun _ _ => rfl) rfl rfl (by kernel_rfl) ?_
          refine dEv 4 rfl (v := (.agg #[(.bool ga), (.slice Aa na ca), (.slice Aav nav cav)])) (fun _ hf => evLoadAB [(.bool ga), (.slice Aa na ca), (.slice Aav nav cav)] agg64 sz64 rfl (hB56.frm hf q1) rfl) rfl rfl (by kernel_rfl) ?_
          refine wAl2 (fun k => bif Nat.beq k 6 then (7, 64, [(.bool false), (.slice none 0 0), (.slice none 0 0)]) else (8, 64, [(.bool false), (.slice none 0 0), (.slice none 0 0)])) 6 7 (alOp rfl rfl zero64 rfl) (alOp rfl rfl zero64 rfl) rfl fun F57 => ?_
          refine wOp F57 2 (by kernel_rfl) fun fl58 w59 hE60 => ?_
          have hz61 := hE60.size
          have h62 := (hf2.ext (((((((hE5.trans hE12).trans hE17).trans hE27).trans hE38).trans hE43).trans hE54).trans hE60))
          have h63 := (ha.ext (((((((hE5.trans hE12).trans hE17).trans hE27).trans hE38).trans hE43).trans hE54).trans hE60))
          have h64 := (hav.ext (((((((hE5.trans hE12).trans hE17).trans hE27).trans hE38).trans hE43).trans hE54).trans hE60))
          refine dWp (i := 2) rfl rfl (oCall rfl call52 (unipoly_EvalRat_small h62 h63 h64 (by omega) (by omega) (by omega) (by omega)) rfl ?_)
          rintro _ w66 ⟨gr_65, Ar_65, nr_65, cr_65, dr_65, Arv_65, nrv_65, crv_65, drv_65, rfl, hE67, hr_65, hrv_65, e_65, p_65, bn_65, bd_65⟩
          refine ⟨hE67, wNext rfl ?_⟩
          have hz68 := hE67.size
          have lr_65 := hr_65.len; have kr_65 := hr_65.cap; have mr_65 := hr_65.max
          have lrv_65 := hrv_65.len; have krv_65 := hrv_65.cap; have mrv_65 := hrv_65.max
          have h71 := hr_65.sub (S' := fun b => w59.heap.size ≤ b ∧ b < w66.heap.size) fun _ hb hs => ⟨hs, hb⟩
          have h72 := hrv_65.sub (S' := fun b => w59.heap.size ≤ b ∧ b < w66.heap.size) fun _ hb hs => ⟨hs, hb⟩
          refine wOp F57 5 (by kernel_rfl) fun fl73 w74 hE75 => ?_
          have hz76 := hE75.size
          have h77 := (hg2.ext (((((((((hE5.trans hE12).trans hE17).trans hE27).trans hE38).trans hE43).trans hE54).trans hE60).trans hE67).trans hE75))
          have h78 := (h63.ext (hE67.trans hE75))
          have h79 := (h64.ext (hE67.trans hE75))
          refine dWp (i := 5) rfl rfl (oCall rfl call52 (unipoly_EvalRat_small h77 h78 h79 (by omega) (by omega) (by omega) (by omega)) rfl ?_)
          rintro _ w81 ⟨gr_80, Ar_80, nr_80, cr_80, dr_80, Arv_80, nrv_80, crv_80, drv_80, rfl, hE82, hr_80, hrv_80, e_80, p_80, bn_80, bd_80⟩
          refine ⟨hE82, wNext rfl ?_⟩
          have hz83 := hE82.size
          have lr_80 := hr_80.len; have kr_80 := hr_80.cap; have mr_80 := hr_80.max
          have lrv_80 := hrv_80.len; have krv_80 := hrv_80.cap; have mrv_80 := hrv_80.max
          have h86 := hr_80.sub (S' := fun b => w74.heap.size ≤ b ∧ b < w81.heap.size) fun _ hb hs => ⟨hs, hb⟩
          have h87 := hrv_80.sub (S' := fun b => w74.heap.size ≤ b ∧ b < w81.heap.size) fun _ hb hs => ⟨hs, hb⟩
          refine wEnd2 F57 #[true, true, true, true, true, true, true, true, false, false] (by kernel_rfl) fun g88 g89 w90 hE91 hb92 hb93 hne98 hB94 hB95 ho96 ho97 => ?_
          have hz99 := hE91.size
          have lt100 := hB94.lt
          have lt101 := hB95.lt
          have h102 := (h71.ext ((hE75.trans hE82).trans hE91))
          have h103 := h102.sub (S' := fun b => (w59.heap.size ≤ b ∧ b < w66.heap.size) ∧ b ≠ g88 ∧ b ≠ g89) fun b _ hs => ⟨hs, ho96.ne w59.heap.size w66.heap.size (by simp) b hs.1 hs.2, ho97.ne w59.heap.size w66.heap.size (by simp) b hs.1 hs.2⟩
          have h104 := (h72.ext ((hE75.trans hE82).trans hE91))
          have h105 := h104.sub (S' := fun b => (w59.heap.size ≤ b ∧ b < w66.heap.size) ∧ b ≠ g88 ∧ b ≠ g89) fun b _ hs => ⟨hs, ho96.ne w59.heap.size w66.heap.size (by simp) b hs.1 hs.2, ho97.ne w59.heap.size w66.heap.size (by simp) b hs.1 hs.2⟩
          have h106 := (h86.ext hE91)
          have h107 := h106.sub (S' := fun b => (w74.heap.size ≤ b ∧ b < w81.heap.size) ∧ b ≠ g88 ∧ b ≠ g89) fun b _ hs => ⟨hs, ho96.ne w74.heap.size w81.heap.size (by simp) b hs.1 hs.2, ho97.ne w74.heap.size w81.heap.size (by simp) b hs.1 hs.2⟩
          have h108 := (h87.ext hE91)
          have h109 := h108.sub (S' := fun b => (w74.heap.size ≤ b ∧ b < w81.heap.size) ∧ b ≠ g88 ∧ b ≠ g89) fun b _ hs => ⟨hs, ho96.ne w74.heap.size w81.heap.size (by simp) b hs.1 hs.2, ho97.ne w74.heap.size w81.heap.size (by simp) b hs.1 hs.2⟩
          refine dOp 8 rfl rfl (by kernel_rfl) (oStore [(.bool gr_65), (.slice Ar_65 nr_65 cr_65), (.slice Arv_65 nrv_65 crv_65)] rfl rfl rfl sz64 rfl hB94 (Nat.le_of_ble_eq_true rfl) ?_)
          intro w110 hU111 hz112 hB113
          replace hB113 : Blk w110 g88 64 [(.bool gr_65), (.slice Ar_65 nr_65 cr_65), (.slice Arv_65 nrv_65 crv_65)] := hB113
          refine ⟨(hU111.mono q4), ?_⟩
          have hB114 := (hB95.frm hU111 q1)
          refine dOp 9 rfl rfl (by kernel_rfl) (oStore [(.bool gr_80), (.slice Ar_80 nr_80 cr_80), (.slice Arv_80 nrv_80 crv_80)] rfl rfl rfl sz64 rfl hB114 (Nat.le_of_ble_eq_true rfl) ?_)
          intro w115 hU116 hz117 hB118
          replace hB118 : Blk w115 g89 64 [(.bool gr_80), (.slice Ar_80 nr_80 cr_80), (.slice Arv_80 nrv_80 crv_80)] := hB118
          refine ⟨(hU116.mono q4), ?_⟩
          refine dDone (by kernel_rfl) ?_
          have hB119 := (hB113.frm hU116 q1)
          have h120 := (h103.frmB ((hU111.mono (G' := fun b => (b = g88) ∨ (b = g89)) fun _ _ h => .inl h).trans (hU116.mono (G' := fun b => (b = g88) ∨ (b = g89)) fun _ _ h => .inr h)) q3)
          have h121 := (h105.frmB ((hU111.mono (G' := fun b => (b = g88) ∨ (b = g89)) fun _ _ h => .inl h).trans (hU116.mono (G' := fun b => (b = g88) ∨ (b = g89)) fun _ _ h => .inr h)) q3)
          have h122 := (h107.frmB ((hU111.mono (G' := fun b => (b = g88) ∨ (b = g89)) fun _ _ h => .inl h).trans (hU116.mono (G' := fun b => (b = g88) ∨ (b = g89)) fun _ _ h => .inr h)) q3)
          have h123 := (h109.frmB ((hU111.mono (G' := fun b => (b = g88) ∨ (b = g89)) fun _ _ h => .inl h).trans (hU116.mono (G' := fun b => (b = g88) ∨ (b = g89)) fun _ _ h => .inr h)) q3)
          exact ⟨rfl, _, rfl, (gr_65), (Ar_65), (nr_65), (cr_65), (dr_65), (Arv_65), (nrv_65), (crv_65), (drv_65), (g88), (gr_80), (Ar_80), (nr_80), (cr_80), (dr_80), (Arv_80), (nrv_80), (crv_80), (drv_80), (g89), rfl, rfl, rfl, rfl, rfl, (Frm.mono ((((((((Frm.of_ext (G := fun b => (b = g88) ∨ (b = g89)) hE54).trans (Frm.of_ext (G := fun b => (b = g88) ∨ (b = g89)) hE60)).trans (Frm.of_ext (G := fun b => (b = g88) ∨ (b = g89)) hE67)).trans (Frm.of_ext (G := fun b => (b = g88) ∨ (b = g89)) hE75)).trans (Frm.of_ext (G := fun b => (b = g88) ∨ (b = g89)) hE82)).trans (Frm.of_ext (G := fun b => (b = g88) ∨ (b = g89)) hE91)).trans (hU111.mono (G' := fun b => (b = g88) ∨ (b = g89)) fun _ _ h => .inl h)).trans (hU116.mono (G' := fun b => (b = g88) ∨ (b = g89)) fun _ _ h => .inr h)) q4), hB119, hB118, (NatR.low h120), (NatR.low h121), (e_65), (by omega), (by omega), (NatR.low h122), (NatR.low h123), (e_80), (by omega), (by omega)⟩
        · rintro e125 w124 ⟨gx_, Ax_, nx_, cx_, dx_, Axw, nxw, cxw, dxw, q7, gy_, Ay_, ny_, cy_, dy_, Ayw, nyw, cyw, dyw, q8, hs127, hs128, hs129, hs130, hs131, hF126, hB132, hB133, hNx, hDx, hex, hbx, hcx, hNy, hDy, hey, hby, hcy⟩
          obtain ⟨r134, rfl⟩ := sq (e := e125) (t := 0) hs127
          obtain ⟨r135, rfl⟩ := sq (e := r134) (t := 1) hs128
          obtain ⟨r136, rfl⟩ := sq (e := r135) (t := 5) hs129
          obtain ⟨r137, rfl⟩ := sq (e := r136) (t := 7) hs130
          obtain ⟨r138, rfl⟩ := sq (e := r137) (t := 8) hs131
          have hz139 := hF126.size
          have lNx := hNx.len; have kNx := hNx.cap; have mNx := hNx.max; have lDx := hDx.len; have kDx := hDx.cap; have mDx := hDx.max; have ltx := hB132.lt
          have lNy := hNy.len; have kNy := hNy.cap; have mNy := hNy.max; have lDy := hDy.len; have kDy := hDy.cap; have mDy := hDy.max; have lty := hB133.lt
          refine xN (hK50 _ _ ?_)
          refine wp_seq_k fun K140 hK140 => ?_
          have hB141 := (hB51.ext hF126)
          have hB142 := (hB52.ext hF126)
          refine wpJoin (n := 98) (fun e w_ => ∃ (gs_ : Bool) (As_ : Option Addr) (ns_ : Nat) (cs_ : Nat) (ds_ : List Nat) (Asw : Option Addr) (nsw : Nat) (csw : Nat) (dsw : List Nat) (q9 : Nat) (gt_ : Bool) (At_ : Option Addr) (nt_ : Nat) (ct_ : Nat) (dt_ : List Nat) (Atw : Option Addr) (ntw : Nat) (ctw : Nat) (dtw : List Nat) (q10 : Nat), e 0 = (.slice Af nf cf) ∧ e 1 = (.slice Ag ng cg) ∧ e 5 = (.pointer (some ⟨g2, 0, none⟩)) ∧ e 7 = (.pointer (some ⟨q7, 0, none⟩)) ∧ e 8 = (.pointer (some ⟨q8, 0, none⟩)) ∧ e 9 = (.pointer (some ⟨q9, 0, none⟩)) ∧ e 10 = (.pointer (some ⟨q10, 0, none⟩)) ∧ Frm (fun _ => False) w124 w_ ∧ Blk w_ q9 64 ([.bool gs_, .slice As_ ns_ cs_, .slice Asw nsw csw]) ∧ Blk w_ q10 64 ([.bool gt_, .slice At_ nt_ ct_, .slice Atw ntw ctw]) ∧ (NatR w_ (fun b => b < w_.heap.size) As_ ns_ cs_ ds_) ∧ (NatR w_ (fun b => b < w_.heap.size) Asw nsw csw dsw) ∧ (rv (zval gs_ ds_) (val dsw) = evQ (zs lf) (rv (zval ga da) (val dav)) + evQ (zs lg) (rv (zval ga da) (val dav))) ∧ (ns_ ≤ 536870913) ∧ (nsw ≤ 536870913) ∧ (NatR w_ (fun b => b < w_.heap.size) At_ nt_ ct_ dt_) ∧ (NatR w_ (fun b => b < w_.heap.size) Atw ntw ctw dtw) ∧ (rv (zval gt_ dt_) (val dtw) = evQ (zs lf) (rv (zval ga da) (val dav)) * evQ (zs lg) (rv (zval ga da) (val dav))) ∧ (nt_ ≤ 536870913) ∧ (ntw ≤ 536870913)) ?_ ?_
          · refine dBegin (fun b => w124.heap.size ≤ b) mixed ?_
            intro w143 hE144 hz145
            refine dEv 0 rfl (v := (.slice Af nf cf)) (fun _ _ => rfl) rfl rfl (by kernel_rfl) ?_
            refine dEv 1 rfl (v := (.slice Ag ng cg)) (fun _ _ => rfl) rfl rfl (by kernel_rfl) ?_
            have hB146 := (hB141.ext hE144)
            refine dEv 3 rfl (v := (.agg #[(.bool ga), (.slice Aa na ca), (.slice Aav nav cav)])) (fun _ hf => evLoadAB [(.bool ga), (.slice Aa na ca), (.slice Aav nav cav)] agg64 sz64 rfl (hB146.frm hf q1) rfl) rfl rfl (by kernel_rfl) ?_
            refine dEv 5 rfl (v := (.slice Af nf cf)) (fun _ _ => rfl) rfl rfl (by kernel_rfl) ?_
            refine dEv 6 rfl (v := (.slice Ag ng cg)) (fun _ _ => rfl) rfl rfl (by kernel_rfl) ?_
            refine dEv 8 rfl (v := (.agg #[(.bool ga), (.slice Aa na ca), (.slice Aav nav cav)])) (fun _ hf => evLoadAB [(.bool ga), (.slice Aa na ca), (.slice Aav nav cav)] agg64 sz64 rfl (hB146.frm hf q1) rfl) rfl rfl (by kernel_rfl) ?_
            refine wAl2 (fun k => bif Nat.beq k 10 then (9, 64, [(.bool false), (.slice none 0 0), (.slice none 0 0)]) else (10, 64, [(.bool false), (.slice none 0 0), (.slice none 0 0)])) 10 11 (alOp rfl rfl zero64 rfl) (alOp rfl rfl zero64 rfl) rfl fun F147 => ?_
            refine wOp F147 2 (by kernel_rfl) fun fl148 w149 hE150 => ?_
            have hz151 := hE150.size
            have h152 := (hf2.ext ((((((((hE5.trans hE12).trans hE17).trans hE27).trans hE38).trans hE43).trans hF126).trans hE144).trans hE150))
            have h153 := (hg2.ext ((((((((hE5.trans hE12).trans hE17).trans hE27).trans hE38).trans hE43).trans hF126).trans hE144).trans hE150))
            refine dWp (i := 2) rfl rfl (oCall rfl call22 (unipoly_Add h152 h153 (by omega) (by omega) (by omega) (by omega)) rfl ?_)
            rintro _ w155 ⟨Ar_154, nr_154, cr_154, lr_154, rfl, hE156, hr_154, e_154, ln_154, cn_154⟩
            refine ⟨hE156, wNext rfl ?_⟩
            have hz157 := hE156.size
            have kr_154 := hr_154.len; have jr_154 := hr_154.cap; have mr_154 := hr_154.max
            have h159 := hr_154.sub (S' := fun b => w149.heap.size ≤ b ∧ b < w155.heap.size) fun _ hb hs => ⟨hs, hb⟩
            refine wOp F147 4 (by kernel_rfl) fun fl160 w161 hE162 => ?_
            have hz163 := hE162.size
            have h164 := (h159.ext hE162)
            have h165 := (ha.ext ((((((((((hE5.trans hE12).trans hE17).trans hE27).trans hE38).trans hE43).trans hF126).trans hE144).trans hE150).trans hE156).trans hE162))
            have h166 := (hav.ext ((((((((((hE5.trans hE12).trans hE17).trans hE27).trans hE38).trans hE43).trans hF126).trans hE144).trans hE150).trans hE156).trans hE162))
            refine dWp (i := 4) rfl rfl (oCall rfl call52 (unipoly_EvalRat h164 h165 h166 (by omega) (by omega) (by omega) (by omega)) rfl ?_)
            rintro _ w168 ⟨gr_167, Ar_167, nr_167, cr_167, dr_167, Arv_167, nrv_167, crv_167, drv_167, rfl, hE169, hr_167, hrv_167, e_167, p_167, bn_167, bd_167⟩
            refine ⟨hE169, wNext rfl ?_⟩
            have hz170 := hE169.size
            have lr_167 := hr_167.len; have kr_167 := hr_167.cap; have mr_167 := hr_167.max
            have lrv_167 := hrv_167.len; have krv_167 := hrv_167.cap; have mrv_167 := hrv_167.max
            have h173 := hr_167.sub (S' := fun b => w161.heap.size ≤ b ∧ b < w168.heap.size) fun _ hb hs => ⟨hs, hb⟩
            have h174 := hrv_167.sub (S' := fun b => w161.heap.size ≤ b ∧ b < w168.heap.size) fun _ hb hs => ⟨hs, hb⟩
            refine wOp F147 7 (by kernel_rfl) fun fl175 w176 hE177 => ?_
            have hz178 := hE177.size
            have h179 := (h152.ext (((hE156.trans hE162).trans hE169).trans hE177))
            have h180 := (h153.ext (((hE156.trans hE162).trans hE169).trans hE177))
            refine dWp (i := 7) rfl rfl (oCall rfl call18 (unipoly_Mul h179 h180 (by omega) (by omega) (by omega) (by omega)) rfl ?_)
            rintro _ w182 ⟨Ar_181, nr_181, cr_181, lr_181, rfl, hE183, hr_181, e_181, ln_181, cn_181⟩
            refine ⟨hE183, wNext rfl ?_⟩
            have hz184 := hE183.size
            have kr_181 := hr_181.len; have jr_181 := hr_181.cap; have mr_181 := hr_181.max
            have h186 := hr_181.sub (S' := fun b => w176.heap.size ≤ b ∧ b < w182.heap.size) fun _ hb hs => ⟨hs, hb⟩
            refine wOp F147 9 (by kernel_rfl) fun fl187 w188 hE189 => ?_
            have hz190 := hE189.size
            have h191 := (h186.ext hE189)
            have h192 := (h165.ext (((hE169.trans hE177).trans hE183).trans hE189))
            have h193 := (h166.ext (((hE169.trans hE177).trans hE183).trans hE189))
            refine dWp (i := 9) rfl rfl (oCall rfl call52 (unipoly_EvalRat h191 h192 h193 (by omega) (by omega) (by omega) (by omega)) rfl ?_)
            rintro _ w195 ⟨gr_194, Ar_194, nr_194, cr_194, dr_194, Arv_194, nrv_194, crv_194, drv_194, rfl, hE196, hr_194, hrv_194, e_194, p_194, bn_194, bd_194⟩
            refine ⟨hE196, wNext rfl ?_⟩
            have hz197 := hE196.size
            have lr_194 := hr_194.len; have kr_194 := hr_194.cap; have mr_194 := hr_194.max
            have lrv_194 := hrv_194.len; have krv_194 := hrv_194.cap; have mrv_194 := hrv_194.max
            have h200 := hr_194.sub (S' := fun b => w188.heap.size ≤ b ∧ b < w195.heap.size) fun _ hb hs => ⟨hs, hb⟩
            have h201 := hrv_194.sub (S' := fun b => w188.heap.size ≤ b ∧ b < w195.heap.size) fun _ hb hs => ⟨hs, hb⟩
            refine wEnd2 F147 #[true, true, true, true, true, true, true, true, true, true, true, true, false, false] (by kernel_rfl) fun g202 g203 w204 hE205 hb206 hb207 hne212 hB208 hB209 ho210 ho211 => ?_
            have hz213 := hE205.size
            have lt214 := hB208.lt
            have lt215 := hB209.lt
            have h216 := (h164.ext (((((hE169.trans hE177).trans hE183).trans hE189).trans hE196).trans hE205))
            have h217 := h216.sub (S' := fun b => (w149.heap.size ≤ b ∧ b < w155.heap.size) ∧ b ≠ g202 ∧ b ≠ g203) fun b _ hs => ⟨hs, ho210.ne w149.heap.size w155.heap.size (by simp) b hs.1 hs.2, ho211.ne w149.heap.size w155.heap.size (by simp) b hs.1 hs.2⟩
            have h218 := (h173.ext ((((hE177.trans hE183).trans hE189).trans hE196).trans hE205))
            have h219 := h218.sub (S' := fun b => (w161.heap.size ≤ b ∧ b < w168.heap.size) ∧ b ≠ g202 ∧ b ≠ g203) fun b _ hs => ⟨hs, ho210.ne w161.heap.size w168.heap.size (by simp) b hs.1 hs.2, ho211.ne w161.heap.size w168.heap.size (by simp) b hs.1 hs.2⟩
            have h220 := (h174.ext ((((hE177.trans hE183).trans hE189).trans hE196).trans hE205))
            have h221 := h220.sub (S' := fun b => (w161.heap.size ≤ b ∧ b < w168.heap.size) ∧ b ≠ g202 ∧ b ≠ g203) fun b _ hs => ⟨hs, ho210.ne w161.heap.size w168.heap.size (by simp) b hs.1 hs.2, ho211.ne w161.heap.size w168.heap.size (by simp) b hs.1 hs.2⟩
            have h222 := (h191.ext (hE196.trans hE205))
            have h223 := h222.sub (S' := fun b => (w176.heap.size ≤ b ∧ b < w182.heap.size) ∧ b ≠ g202 ∧ b ≠ g203) fun b _ hs => ⟨hs, ho210.ne w176.heap.size w182.heap.size (by simp) b hs.1 hs.2, ho211.ne w176.heap.size w182.heap.size (by simp) b hs.1 hs.2⟩
            have h224 := (h200.ext hE205)
            have h225 := h224.sub (S' := fun b => (w188.heap.size ≤ b ∧ b < w195.heap.size) ∧ b ≠ g202 ∧ b ≠ g203) fun b _ hs => ⟨hs, ho210.ne w188.heap.size w195.heap.size (by simp) b hs.1 hs.2, ho211.ne w188.heap.size w195.heap.size (by simp) b hs.1 hs.2⟩
            have h226 := (h201.ext hE205)
            have h227 := h226.sub (S' := fun b => (w188.heap.size ≤ b ∧ b < w195.heap.size) ∧ b ≠ g202 ∧ b ≠ g203) fun b _ hs => ⟨hs, ho210.ne w188.heap.size w195.heap.size (by simp) b hs.1 hs.2, ho211.ne w188.heap.size w195.heap.size (by simp) b hs.1 hs.2⟩
            refine dOp 12 rfl rfl (by kernel_rfl) (oStore [(.bool gr_167), (.slice Ar_167 nr_167 cr_167), (.slice Arv_167 nrv_167 crv_167)] rfl rfl rfl sz64 rfl hB208 (Nat.le_of_ble_eq_true rfl) ?_)
            intro w228 hU229 hz230 hB231
            replace hB231 : Blk w228 g202 64 [(.bool gr_167), (.slice Ar_167 nr_167 cr_167), (.slice Arv_167 nrv_167 crv_167)] := hB231
            refine ⟨(hU229.mono q4), ?_⟩
            have hB232 := (hB209.frm hU229 q1)
            refine dOp 13 rfl rfl (by kernel_rfl) (oStore [(.bool gr_194), (.slice Ar_194 nr_194 cr_194), (.slice Arv_194 nrv_194 crv_194)] rfl rfl rfl sz64 rfl hB232 (Nat.le_of_ble_eq_true rfl) ?_)
            intro w233 hU234 hz235 hB236
            replace hB236 : Blk w233 g203 64 [(.bool gr_194), (.slice Ar_194 nr_194 cr_194), (.slice Arv_194 nrv_194 crv_194)] := hB236
            refine ⟨(hU234.mono q4), ?_⟩
            refine dDone (by kernel_rfl) ?_
            have hB237 := (hB231.frm hU234 q1)
            have h238 := (h219.frmB ((hU229.mono (G' := fun b => (b = g202) ∨ (b = g203)) fun _ _ h => .inl h).trans (hU234.mono (G' := fun b => (b = g202) ∨ (b = g203)) fun _ _ h => .inr h)) q3)
            have h239 := (h221.frmB ((hU229.mono (G' := fun b => (b = g202) ∨ (b = g203)) fun _ _ h => .inl h).trans (hU234.mono (G' := fun b => (b = g202) ∨ (b = g203)) fun _ _ h => .inr h)) q3)
            have h240 := (h225.frmB ((hU229.mono (G' := fun b => (b = g202) ∨ (b = g203)) fun _ _ h => .inl h).trans (hU234.mono (G' := fun b => (b = g202) ∨ (b = g203)) fun _ _ h => .inr h)) q3)
            have h241 := (h227.frmB ((hU229.mono (G' := fun b => (b = g202) ∨ (b = g203)) fun _ _ h => .inl h).trans (hU234.mono (G' := fun b => (b = g202) ∨ (b = g203)) fun _ _ h => .inr h)) q3)
            exact ⟨rfl, _, rfl, (gr_167), (Ar_167), (nr_167), (cr_167), (dr_167), (Arv_167), (nrv_167), (crv_167), (drv_167), (g202), (gr_194), (Ar_194), (nr_194), (cr_194), (dr_194), (Arv_194), (nrv_194), (crv_194), (drv_194), (g203), rfl, rfl, rfl, rfl, rfl, rfl, rfl, (Frm.mono ((((((((((((Frm.of_ext (G := fun b => (b = g202) ∨ (b = g203)) hE144).trans (Frm.of_ext (G := fun b => (b = g202) ∨ (b = g203)) hE150)).trans (Frm.of_ext (G := fun b => (b = g202) ∨ (b = g203)) hE156)).trans (Frm.of_ext (G := fun b => (b = g202) ∨ (b = g203)) hE162)).trans (Frm.of_ext (G := fun b => (b = g202) ∨ (b = g203)) hE169)).trans (Frm.of_ext (G := fun b => (b = g202) ∨ (b = g203)) hE177)).trans (Frm.of_ext (G := fun b => (b = g202) ∨ (b = g203)) hE183)).trans (Frm.of_ext (G := fun b => (b = g202) ∨ (b = g203)) hE189)).trans (Frm.of_ext (G := fun b => (b = g202) ∨ (b = g203)) hE196)).trans (Frm.of_ext (G := fun b => (b = g202) ∨ (b = g203)) hE205)).trans (hU229.mono (G' := fun b => (b = g202) ∨ (b = g203)) fun _ _ h => .inl h)).trans (hU234.mono (G' := fun b => (b = g202) ∨ (b = g203)) fun _ _ h => .inr h)) q4), hB237, hB236, (NatR.low h238), (NatR.low h239), (by rw [e_167, e_154, evQ_trim, evQ_padd]), (by omega), (by omega), (NatR.low h240), (NatR.low h241), (by rw [e_194, e_181, evQ_trim, evQ_pmul]), (by omega), (by omega)⟩
          · rintro e243 w242 ⟨gs_, As_, ns_, cs_, ds_, Asw, nsw, csw, dsw, q9, gt_, At_, nt_, ct_, dt_, Atw, ntw, ctw, dtw, q10, hs245, hs246, hs247, hs248, hs249, hs250, hs251, hF244, hB252, hB253, hNs, hDs, hes, hbs, hcs, hNt, hDt, het, hbt, hct⟩
            obtain ⟨r254, rfl⟩ := sq (e := e243) (t := 0) hs245
            obtain ⟨r255, rfl⟩ := sq (e := r254) (t := 1) hs246
            obtain ⟨r256, rfl⟩ := sq (e := r255) (t := 5) hs247
            obtain ⟨r257, rfl⟩ := sq (e := r256) (t := 7) hs248
            obtain ⟨r258, rfl⟩ := sq (e := r257) (t := 8) hs249
            obtain ⟨r259, rfl⟩ := sq (e := r258) (t := 9) hs250
            obtain ⟨r260, rfl⟩ := sq (e := r259) (t := 10) hs251
            have hz261 := hF244.size
            have lNs := hNs.len; have kNs := hNs.cap; have mNs := hNs.max; have lDs := hDs.len; have kDs := hDs.cap; have mDs := hDs.max; have lts := hB252.lt
            have lNt := hNt.len; have kNt := hNt.cap; have mNt := hNt.max; have lDt := hDt.len; have kDt := hDt.cap; have mDt := hDt.max; have ltt := hB253.lt
            refine xN (hK140 _ _ ?_)
            refine wp_seq_k fun K262 hK262 => ?_
            have hB263 := (hB141.ext hF244)
            have hB264 := (hB142.ext hF244)
            have hB265 := (hB132.ext hF244)
            have hB266 := (hB133.ext hF244)
            refine wpJoin (n := 98) (fun e w_ => ∃ (gi_ : Bool) (Ai_ : Option Addr) (ni_ : Nat) (ci_ : Nat) (di_ : List Nat) (Aiw : Option Addr) (niw : Nat) (ciw : Nat) (diw : List Nat) (q11 : Nat), e 0 = (.slice Af nf cf) ∧ e 1 = (.slice Ag ng cg) ∧ e 7 = (.pointer (some ⟨q7, 0, none⟩)) ∧ e 8 = (.pointer (some ⟨q8, 0, none⟩)) ∧ e 9 = (.pointer (some ⟨q9, 0, none⟩)) ∧ e 10 = (.pointer (some ⟨q10, 0, none⟩)) ∧ e 11 = (.pointer (some ⟨q11, 0, none⟩)) ∧ Frm (fun _ => False) w242 w_ ∧ Blk w_ q11 64 ([.bool gi_, .slice Ai_ ni_ ci_, .slice Aiw niw ciw]) ∧ (NatR w_ (fun b => b < w_.heap.size) Ai_ ni_ ci_ di_) ∧ (NatR w_ (fun b => b < w_.heap.size) Aiw niw ciw diw) ∧ (rv (zval gi_ di_) (val diw) = evQ (zs lf) (evQ (zs lg) (rv (zval ga da) (val dav)))) ∧ (ni_ ≤ 536870913) ∧ (niw ≤ 536870913)) ?_ ?_
            · refine dBegin (fun b => w242.heap.size ≤ b) mixed ?_
              intro w267 hE268 hz269
              refine dEv 0 rfl (v := (.slice Af nf cf)) (fun _ _ => rfl) rfl rfl (by kernel_rfl) ?_
              refine dEv 1 rfl (v := (.slice Ag ng cg)) (fun _ _ => rfl) rfl rfl (by kernel_rfl) ?_
              have hB270 := (hB263.ext hE268)
              refine dEv 3 rfl (v := (.agg #[(.bool ga), (.slice Aa na ca), (.slice Aav nav cav)])) (fun _ hf => evLoadAB [(.bool ga), (.slice Aa na ca), (.slice Aav nav cav)] agg64 sz64 rfl (hB270.frm hf q1) rfl) rfl rfl (by kernel_rfl) ?_
              refine wAl1 (fun _ => (11, 64, [(.bool false), (.slice none 0 0), (.slice none 0 0)])) 5 (alOp rfl rfl zero64 rfl) fun F271 => ?_
              refine wOp F271 2 (by kernel_rfl) fun fl272 w273 hE274 => ?_
              have hz275 := hE274.size
              have h276 := (hf2.ext (((((((((hE5.trans hE12).trans hE17).trans hE27).trans hE38).trans hE43).trans hF126).trans hF244).trans hE268).trans hE274))
              have h277 := (hg2.ext (((((((((hE5.trans hE12).trans hE17).trans hE27).trans hE38).trans hE43).trans hF126).trans hF244).trans hE268).trans hE274))
              refine dWp (i := 2) rfl rfl (oCall rfl call32 (unipoly_Compose h276 h277 (by omega) (by omega) (by omega) (by omega)) rfl ?_)
              rintro _ w279 ⟨Ar_278, nr_278, cr_278, lr_278, rfl, hE280, hr_278, e_278, ln_278, cn_278⟩
              refine ⟨hE280, wNext rfl ?_⟩
              have hz281 := hE280.size
              have kr_278 := hr_278.len; have jr_278 := hr_278.cap; have mr_278 := hr_278.max
              have h283 := hr_278.sub (S' := fun b => w273.heap.size ≤ b ∧ b < w279.heap.size) fun _ hb hs => ⟨hs, hb⟩
              refine wOp F271 4 (by kernel_rfl) fun fl284 w285 hE286 => ?_
              have hz287 := hE286.size
              have h288 := (h283.ext hE286)
              have h289 := (ha.ext (((((((((((hE5.trans hE12).trans hE17).trans hE27).trans hE38).trans hE43).trans hF126).trans hF244).trans hE268).trans hE274).trans hE280).trans hE286))
              have h290 := (hav.ext (((((((((((hE5.trans hE12).trans hE17).trans hE27).trans hE38).trans hE43).trans hF126).trans hF244).trans hE268).trans hE274).trans hE280).trans hE286))
              refine dWp (i := 4) rfl rfl (oCall rfl call52 (unipoly_EvalRat h288 h289 h290 (by omega) (by omega) (by omega) (by omega)) rfl ?_)
              rintro _ w292 ⟨gr_291, Ar_291, nr_291, cr_291, dr_291, Arv_291, nrv_291, crv_291, drv_291, rfl, hE293, hr_291, hrv_291, e_291, p_291, bn_291, bd_291⟩
              refine ⟨hE293, wNext rfl ?_⟩
              have hz294 := hE293.size
              have lr_291 := hr_291.len; have kr_291 := hr_291.cap; have mr_291 := hr_291.max
              have lrv_291 := hrv_291.len; have krv_291 := hrv_291.cap; have mrv_291 := hrv_291.max
              have h297 := hr_291.sub (S' := fun b => w285.heap.size ≤ b ∧ b < w292.heap.size) fun _ hb hs => ⟨hs, hb⟩
              have h298 := hrv_291.sub (S' := fun b => w285.heap.size ≤ b ∧ b < w292.heap.size) fun _ hb hs => ⟨hs, hb⟩
              refine wEnd1 F271 #[true, true, true, true, true, true, false] (by kernel_rfl) fun g299 w300 hE301 hb302 hB303 ho304 => ?_
              have hz305 := hE301.size
              have lt306 := hB303.lt
              have h307 := (h288.ext (hE293.trans hE301))
              have h308 := h307.sub (S' := fun b => (w273.heap.size ≤ b ∧ b < w279.heap.size) ∧ b ≠ g299) fun b _ hs => ⟨hs, ho304.ne w273.heap.size w279.heap.size (by simp) b hs.1 hs.2⟩
              have h309 := (h297.ext hE301)
              have h310 := h309.sub (S' := fun b => (w285.heap.size ≤ b ∧ b < w292.heap.size) ∧ b ≠ g299) fun b _ hs => ⟨hs, ho304.ne w285.heap.size w292.heap.size (by simp) b hs.1 hs.2⟩
              have h311 := (h298.ext hE301)
              have h312 := h311.sub (S' := fun b => (w285.heap.size ≤ b ∧ b < w292.heap.size) ∧ b ≠ g299) fun b _ hs => ⟨hs, ho304.ne w285.heap.size w292.heap.size (by simp) b hs.1 hs.2⟩
              refine dOp 6 rfl rfl (by kernel_rfl) (oStore [(.bool gr_291), (.slice Ar_291 nr_291 cr_291), (.slice Arv_291 nrv_291 crv_291)] rfl rfl rfl sz64 rfl hB303 (Nat.le_of_ble_eq_true rfl) ?_)
              intro w313 hU314 hz315 hB316
              replace hB316 : Blk w313 g299 64 [(.bool gr_291), (.slice Ar_291 nr_291 cr_291), (.slice Arv_291 nrv_291 crv_291)] := hB316
              refine ⟨(hU314.mono q4), ?_⟩
              refine dDone (by kernel_rfl) ?_
              have h317 := (h310.frmB hU314 q3)
              have h318 := (h312.frmB hU314 q3)
              exact ⟨rfl, _, rfl, (gr_291), (Ar_291), (nr_291), (cr_291), (dr_291), (Arv_291), (nrv_291), (crv_291), (drv_291), (g299), rfl, rfl, rfl, rfl, rfl, rfl, rfl, (Frm.mono (((((((Frm.of_ext (G := fun b => (b = g299)) hE268).trans (Frm.of_ext (G := fun b => (b = g299)) hE274)).trans (Frm.of_ext (G := fun b => (b = g299)) hE280)).trans (Frm.of_ext (G := fun b => (b = g299)) hE286)).trans (Frm.of_ext (G := fun b => (b = g299)) hE293)).trans (Frm.of_ext (G := fun b => (b = g299)) hE301)).trans hU314) q4), hB316, (NatR.low h317), (NatR.low h318), (by rw [e_291, e_278, evQ_trim, evQ_phorn]), (by omega), (by omega)⟩
            · rintro e320 w319 ⟨gi_, Ai_, ni_, ci_, di_, Aiw, niw, ciw, diw, q11, hs322, hs323, hs324, hs325, hs326, hs327, hs328, hF321, hB329, hNi, hDi, hei, hbi, hci⟩
              obtain ⟨r330, rfl⟩ := sq (e := e320) (t := 0) hs322
              obtain ⟨r331, rfl⟩ := sq (e := r330) (t := 1) hs323
              obtain ⟨r332, rfl⟩ := sq (e := r331) (t := 7) hs324
              obtain ⟨r333, rfl⟩ := sq (e := r332) (t := 8) hs325
              obtain ⟨r334, rfl⟩ := sq (e := r333) (t := 9) hs326
              obtain ⟨r335, rfl⟩ := sq (e := r334) (t := 10) hs327
              obtain ⟨r336, rfl⟩ := sq (e := r335) (t := 11) hs328
              have hz337 := hF321.size
              have lNi := hNi.len; have kNi := hNi.cap; have mNi := hNi.max; have lDi := hDi.len; have kDi := hDi.cap; have mDi := hDi.max; have lti := hB329.lt
              refine xN (hK262 _ _ ?_)
              refine wp_seq_k fun K338 hK338 => ?_
              refine wp_region_lit ?_
              refine sEv (v := (.slice Af nf cf)) (rfl) rfl rfl ?_
              refine sEv (v := (.slice Ag ng cg)) (rfl) rfl rfl ?_
              have h339 := (hf2.ext ((((((((hE5.trans hE12).trans hE17).trans hE27).trans hE38).trans hE43).trans hF126).trans hF244).trans hF321))
              have h340 := (hg2.ext ((((((((hE5.trans hE12).trans hE17).trans hE27).trans hE38).trans hE43).trans hF126).trans hF244).trans hF321))
              refine sOp rfl (oCall rfl call18 (unipoly_Mul h339 h340 (by omega) (by omega) (by omega) (by omega)) rfl ?_)
              rintro _ w342 ⟨Ar_341, nr_341, cr_341, lr_341, rfl, hE343, hr_341, e_341, ln_341, cn_341⟩
              have hz344 := hE343.size
              have kr_341 := hr_341.len; have jr_341 := hr_341.cap; have mr_341 := hr_341.max
              refine sOp rfl (oCall rfl call20 (unipoly_Derivative hr_341 (by omega) (by omega)) rfl ?_)
              rintro _ w347 ⟨Ar_346, nr_346, cr_346, lr_346, rfl, hE348, hr_346, e_346, ln_346, cn_346⟩
              have hz349 := hE348.size
              have kr_346 := hr_346.len; have jr_346 := hr_346.cap; have mr_346 := hr_346.max
              refine sEv (v := (.slice Ar_346 nr_346 cr_346)) (rfl) rfl rfl ?_
              refine sDone ?_
              refine xN (hK338 _ _ ?_)
              refine wp_seq_k fun K351 hK351 => ?_
              refine wp_region_lit ?_
              refine sEv (v := (.slice Af nf cf)) (rfl) rfl rfl ?_
              have h352 := (h339.ext (hE343.trans hE348))
              refine sOp rfl (oCall rfl call20 (unipoly_Derivative h352 (by omega) (by omega)) rfl ?_)
              rintro _ w354 ⟨Ar_353, nr_353, cr_353, lr_353, rfl, hE355, hr_353, e_353, ln_353, cn_353⟩
              have hz356 := hE355.size
              have kr_353 := hr_353.len; have jr_353 := hr_353.cap; have mr_353 := hr_353.max
              refine sEv (v := (.slice Ag ng cg)) (rfl) rfl rfl ?_
              have h358 := (h340.ext ((hE343.trans hE348).trans hE355))
              refine sOp rfl (oCall rfl call18 (unipoly_Mul hr_353 h358 (by omega) (by omega) (by omega) (by omega)) rfl ?_)
              rintro _ w360 ⟨Ar_359, nr_359, cr_359, lr_359, rfl, hE361, hr_359, e_359, ln_359, cn_359⟩
              have hz362 := hE361.size
              have kr_359 := hr_359.len; have jr_359 := hr_359.cap; have mr_359 := hr_359.max
              refine sEv (v := (.slice Af nf cf)) (rfl) rfl rfl ?_
              refine sEv (v := (.slice Ag ng cg)) (rfl) rfl rfl ?_
              have h364 := (h358.ext hE361)
              refine sOp rfl (oCall rfl call20 (unipoly_Derivative h364 (by omega) (by omega)) rfl ?_)
              rintro _ w366 ⟨Ar_365, nr_365, cr_365, lr_365, rfl, hE367, hr_365, e_365, ln_365, cn_365⟩
              have hz368 := hE367.size
              have kr_365 := hr_365.len; have jr_365 := hr_365.cap; have mr_365 := hr_365.max
              have h370 := (h352.ext ((hE355.trans hE361).trans hE367))
              refine sOp rfl (oCall rfl call18 (unipoly_Mul h370 hr_365 (by omega) (by omega) (by omega) (by omega)) rfl ?_)
              rintro _ w372 ⟨Ar_371, nr_371, cr_371, lr_371, rfl, hE373, hr_371, e_371, ln_371, cn_371⟩
              have hz374 := hE373.size
              have kr_371 := hr_371.len; have jr_371 := hr_371.cap; have mr_371 := hr_371.max
              have h376 := (hr_359.ext (hE367.trans hE373))
              refine sOp rfl (oCall rfl call22 (unipoly_Add h376 hr_371 (by omega) (by omega) (by omega) (by omega)) rfl ?_)
              rintro _ w378 ⟨Ar_377, nr_377, cr_377, lr_377, rfl, hE379, hr_377, e_377, ln_377, cn_377⟩
              have hz380 := hE379.size
              have kr_377 := hr_377.len; have jr_377 := hr_377.cap; have mr_377 := hr_377.max
              refine sEv (v := (.slice Ar_377 nr_377 cr_377)) (rfl) rfl rfl ?_
              refine sDone ?_
              refine xN (hK351 _ _ ?_)
              refine wp_seq_k fun K382 hK382 => ?_
              refine dBegin (fun _ => False) mixed ?_
              intro w383 hE384 hz385
              have hB386 := (hB252.ext ((((((((hF321.trans hE343).trans hE348).trans hE355).trans hE361).trans hE367).trans hE373).trans hE379).trans hE384))
              refine dEv 0 rfl (v := (.agg #[(.bool gs_), (.slice As_ ns_ cs_), (.slice Asw nsw csw)])) (fun _ hf => evLoadAB [(.bool gs_), (.slice As_ ns_ cs_), (.slice Asw nsw csw)] agg64 sz64 rfl (hB386.ext hf) rfl) rfl rfl (by kernel_rfl) ?_
              have hB387 := (hB265.ext ((((((((hF321.trans hE343).trans hE348).trans hE355).trans hE361).trans hE367).trans hE373).trans hE379).trans hE384))
              refine dEv 1 rfl (v := (.agg #[(.bool gx_), (.slice Ax_ nx_ cx_), (.slice Axw nxw cxw)])) (fun _ hf => evLoadAB [(.bool gx_), (.slice Ax_ nx_ cx_), (.slice Axw nxw cxw)] agg64 sz64 rfl (hB387.ext hf) rfl) rfl rfl (by kernel_rfl) ?_
              have hB388 := (hB266.ext ((((((((hF321.trans hE343).trans hE348).trans hE355).trans hE361).trans hE367).trans hE373).trans hE379).trans hE384))
              refine dEv 2 rfl (v := (.agg #[(.bool gy_), (.slice Ay_ ny_ cy_), (.slice Ayw nyw cyw)])) (fun _ hf => evLoadAB [(.bool gy_), (.slice Ay_ ny_ cy_), (.slice Ayw nyw cyw)] agg64 sz64 rfl (hB388.ext hf) rfl) rfl rfl (by kernel_rfl) ?_
              have h389 := (hNx.ext (((((((((hF244.trans hF321).trans hE343).trans hE348).trans hE355).trans hE361).trans hE367).trans hE373).trans hE379).trans hE384))
              have h390 := (hDx.ext (((((((((hF244.trans hF321).trans hE343).trans hE348).trans hE355).trans hE361).trans hE367).trans hE373).trans hE379).trans hE384))
              have h391 := (hNy.ext (((((((((hF244.trans hF321).trans hE343).trans hE348).trans hE355).trans hE361).trans hE367).trans hE373).trans hE379).trans hE384))
              have h392 := (hDy.ext (((((((((hF244.trans hF321).trans hE343).trans hE348).trans hE355).trans hE361).trans hE367).trans hE373).trans hE379).trans hE384))
              refine dOp 3 rfl rfl (by kernel_rfl) (oCall rfl call61 (rational_Add h389 h390 h391 h392 (by omega) (by omega) (by omega) (by omega)) rfl ?_)
              rintro _ w394 ⟨gr_393, Ar_393, nr_393, cr_393, dr_393, Arv_393, nrv_393, crv_393, drv_393, rfl, hE395, hr_393, hrv_393, x_393, p_393, cn_393, cv_393, co_393, bn_393, bd_393⟩
              refine ⟨(Frm.of_ext hE395), ?_⟩
              have hz396 := hE395.size
              have lr_393 := hr_393.len; have kr_393 := hr_393.cap; have mr_393 := hr_393.max
              have lrv_393 := hrv_393.len; have krv_393 := hrv_393.cap; have mrv_393 := hrv_393.max
              have h399 := (hNs.ext (((((((((hF321.trans hE343).trans hE348).trans hE355).trans hE361).trans hE367).trans hE373).trans hE379).trans hE384).trans hE395))
              have h400 := (hDs.ext (((((((((hF321.trans hE343).trans hE348).trans hE355).trans hE361).trans hE367).trans hE373).trans hE379).trans hE384).trans hE395))
              refine dOp 4 rfl rfl (by kernel_rfl) (oCall rfl call60 (rational_Cmp h399 h400 hr_393 hrv_393 (by omega) (by omega) (by omega) (by omega)) rfl ?_)
              rintro _ w402 ⟨xr_401, rfl, hE403, e_401⟩
              refine ⟨(Frm.of_ext hE403), ?_⟩
              have hz404 := hE403.size
              refine dEv 5 rfl (v := (.bool true)) (fun _ _ => evEql true rfl rfl (dT (by rw [e_401]; exact cmpZ_eq_zero.2 (rv_cross (by rw [hes, rv_add x_393 p_393, hex, hey]))))) rfl rfl (by kernel_rfl) ?_
              refine dEv 6 rfl (v := (.bool true)) (fun _ _ => rfl) rfl rfl (by kernel_rfl) ?_
              have hB405 := (hB253.ext ((((((((((hF321.trans hE343).trans hE348).trans hE355).trans hE361).trans hE367).trans hE373).trans hE379).trans hE384).trans hE395).trans hE403))
              refine dEv 7 rfl (v := (.agg #[(.bool gt_), (.slice At_ nt_ ct_), (.slice Atw ntw ctw)])) (fun _ hf => evLoadAB [(.bool gt_), (.slice At_ nt_ ct_), (.slice Atw ntw ctw)] agg64 sz64 rfl (hB405.ext hf) rfl) rfl rfl (by kernel_rfl) ?_
              have hB406 := (hB387.ext (hE395.trans hE403))
              refine dEv 8 rfl (v := (.agg #[(.bool gx_), (.slice Ax_ nx_ cx_), (.slice Axw nxw cxw)])) (fun _ hf => evLoadAB [(.bool gx_), (.slice Ax_ nx_ cx_), (.slice Axw nxw cxw)] agg64 sz64 rfl (hB406.ext hf) rfl) rfl rfl (by kernel_rfl) ?_
              have hB407 := (hB388.ext (hE395.trans hE403))
              refine dEv 9 rfl (v := (.agg #[(.bool gy_), (.slice Ay_ ny_ cy_), (.slice Ayw nyw cyw)])) (fun _ hf => evLoadAB [(.bool gy_), (.slice Ay_ ny_ cy_), (.slice Ayw nyw cyw)] agg64 sz64 rfl (hB407.ext hf) rfl) rfl rfl (by kernel_rfl) ?_
              have h408 := (h389.ext (hE395.trans hE403))
              have h409 := (h390.ext (hE395.trans hE403))
              have h410 := (h391.ext (hE395.trans hE403))
              have h411 := (h392.ext (hE395.trans hE403))
              refine dOp 10 rfl rfl (by kernel_rfl) (oCall rfl call63 (rational_Mul h408 h409 h410 h411 (by omega) (by omega) (by omega) (by omega)) rfl ?_)
              rintro _ w413 ⟨gr_412, Ar_412, nr_412, cr_412, dr_412, Arv_412, nrv_412, crv_412, drv_412, rfl, hE414, hr_412, hrv_412, x_412, p_412, cn_412, cv_412, co_412, bn_412, bd_412⟩
              refine ⟨(Frm.of_ext hE414), ?_⟩
              have hz415 := hE414.size
              have lr_412 := hr_412.len; have kr_412 := hr_412.cap; have mr_412 := hr_412.max
              have lrv_412 := hrv_412.len; have krv_412 := hrv_412.cap; have mrv_412 := hrv_412.max
              have h418 := (hNt.ext (((((((((((hF321.trans hE343).trans hE348).trans hE355).trans hE361).trans hE367).trans hE373).trans hE379).trans hE384).trans hE395).trans hE403).trans hE414))
              have h419 := (hDt.ext (((((((((((hF321.trans hE343).trans hE348).trans hE355).trans hE361).trans hE367).trans hE373).trans hE379).trans hE384).trans hE395).trans hE403).trans hE414))
              refine dOp 11 rfl rfl (by kernel_rfl) (oCall rfl call60 (rational_Cmp h418 h419 hr_412 hrv_412 (by omega) (by omega) (by omega) (by omega)) rfl ?_)
              rintro _ w421 ⟨xr_420, rfl, hE422, e_420⟩
              refine ⟨(Frm.of_ext hE422), ?_⟩
              have hz423 := hE422.size
              refine dEv 12 rfl (v := (.bool true)) (fun _ _ => evEql true rfl rfl (dT (by rw [e_420]; exact cmpZ_eq_zero.2 (rv_cross (by rw [het, rv_prod x_412 p_412, hex, hey]))))) rfl rfl (by kernel_rfl) ?_
              refine dEv 13 rfl (v := (.bool true)) (fun _ _ => rfl) rfl rfl (by kernel_rfl) ?_
              refine dEv 14 rfl (v := (.bool true)) (fun _ _ => rfl) rfl rfl (by kernel_rfl) ?_
              have hB424 := (hB329.ext (((((((((((hE343.trans hE348).trans hE355).trans hE361).trans hE367).trans hE373).trans hE379).trans hE384).trans hE395).trans hE403).trans hE414).trans hE422))
              refine dEv 15 rfl (v := (.agg #[(.bool gi_), (.slice Ai_ ni_ ci_), (.slice Aiw niw ciw)])) (fun _ hf => evLoadAB [(.bool gi_), (.slice Ai_ ni_ ci_), (.slice Aiw niw ciw)] agg64 sz64 rfl (hB424.ext hf) rfl) rfl rfl (by kernel_rfl) ?_
              refine dEv 16 rfl (v := (.slice Af nf cf)) (fun _ _ => rfl) rfl rfl (by kernel_rfl) ?_
              have hB425 := (hB407.ext (hE414.trans hE422))
              refine dEv 17 rfl (v := (.agg #[(.bool gy_), (.slice Ay_ ny_ cy_), (.slice Ayw nyw cyw)])) (fun _ hf => evLoadAB [(.bool gy_), (.slice Ay_ ny_ cy_), (.slice Ayw nyw cyw)] agg64 sz64 rfl (hB425.ext hf) rfl) rfl rfl (by kernel_rfl) ?_
              have h426 := (h370.ext ((((((hE373.trans hE379).trans hE384).trans hE395).trans hE403).trans hE414).trans hE422))
              have h427 := (h410.ext (hE414.trans hE422))
              have h428 := (h411.ext (hE414.trans hE422))
              refine dOp 18 rfl rfl (by kernel_rfl) (oCall rfl call52 (unipoly_EvalRat h426 h427 h428 (by omega) (by omega) (by omega) (by omega)) rfl ?_)
              rintro _ w430 ⟨gr_429, Ar_429, nr_429, cr_429, dr_429, Arv_429, nrv_429, crv_429, drv_429, rfl, hE431, hr_429, hrv_429, e_429, p_429, bn_429, bd_429⟩
              refine ⟨(Frm.of_ext hE431), ?_⟩
              have hz432 := hE431.size
              have lr_429 := hr_429.len; have kr_429 := hr_429.cap; have mr_429 := hr_429.max
              have lrv_429 := hrv_429.len; have krv_429 := hrv_429.cap; have mrv_429 := hrv_429.max
              have h435 := (hNi.ext ((((((((((((hE343.trans hE348).trans hE355).trans hE361).trans hE367).trans hE373).trans hE379).trans hE384).trans hE395).trans hE403).trans hE414).trans hE422).trans hE431))
              have h436 := (hDi.ext ((((((((((((hE343.trans hE348).trans hE355).trans hE361).trans hE367).trans hE373).trans hE379).trans hE384).trans hE395).trans hE403).trans hE414).trans hE422).trans hE431))
              refine dOp 19 rfl rfl (by kernel_rfl) (oCall rfl call60 (rational_Cmp h435 h436 hr_429 hrv_429 (by omega) (by omega) (by omega) (by omega)) rfl ?_)
              rintro _ w438 ⟨xr_437, rfl, hE439, e_437⟩
              refine ⟨(Frm.of_ext hE439), ?_⟩
              have hz440 := hE439.size
              refine dEv 20 rfl (v := (.bool true)) (fun _ _ => evEql true rfl rfl (dT (by rw [e_437]; exact cmpZ_eq_zero.2 (rv_cross (by rw [hei, e_429, hey]))))) rfl rfl (by kernel_rfl) ?_
              refine dEv 21 rfl (v := (.bool true)) (fun _ _ => rfl) rfl rfl (by kernel_rfl) ?_
              refine dEv 22 rfl (v := (.bool true)) (fun _ _ => rfl) rfl rfl (by kernel_rfl) ?_
              refine dEv 23 rfl (v := (.slice Ar_346 nr_346 cr_346)) (fun _ _ => rfl) rfl rfl (by kernel_rfl) ?_
              refine dEv 24 rfl (v := (.slice Ar_377 nr_377 cr_377)) (fun _ _ => rfl) rfl rfl (by kernel_rfl) ?_
              have h441 := (hr_346.ext (((((((((((hE355.trans hE361).trans hE367).trans hE373).trans hE379).trans hE384).trans hE395).trans hE403).trans hE414).trans hE422).trans hE431).trans hE439))
              have h442 := (hr_377.ext ((((((hE384.trans hE395).trans hE403).trans hE414).trans hE422).trans hE431).trans hE439))
              refine dOp 25 rfl rfl (by kernel_rfl) (oCall rfl call23 (unipoly_Same h441 h442) rfl ?_)
              rintro _ w444 ⟨gr_443, rfl, hE445, e_443⟩
              refine ⟨(Frm.of_ext hE445), ?_⟩
              have hz446 := hE445.size
              obtain rfl : gr_443 = true := by rw [e_443, e_346, e_341, e_377, e_359, e_353, e_371, e_365]; exact decide_eq_true (deriv_rule _ _)
              refine dEv 26 rfl (v := (.bool true)) (fun _ _ => rfl) rfl rfl (by kernel_rfl) ?_
              refine dEv 27 rfl (v := (.bool true)) (fun _ _ => rfl) rfl rfl (by kernel_rfl) ?_
              refine dDone (by kernel_rfl) ?_
              refine xN (hK382 _ _ ?_)
              refine wp_ret ?_
              refine ret1 (.bool true) Try.results11 (resT rfl) ?_
              exact ⟨(true), rfl, (((((((((((((((((((((((hE5.trans hE12).trans hE17).trans hE27).trans hE38).trans hE43).trans hF126).trans hF244).trans hF321).trans hE343).trans hE348).trans hE355).trans hE361).trans hE367).trans hE373).trans hE379).trans hE384).trans hE395).trans hE403).trans hE414).trans hE422).trans hE431).trans hE439).trans hE445), rfl⟩

end Go.Proofs.Ytppegjbdencefaa
