/-
  Walk of package unidiv: greatest common divisors.
-/
import Derived.Test.YtbniolgfaeiedaaGreatSq4
import Derived.Test.YtbniolgfaeiedaaGreatGc1
namespace Go.Proofs.YtbniolgfaeiedaaGreat
open Go.RowKit Go.Gx
theorem unidiv_positive {w : World} {Sf : Nat → Prop} {Af : Option Addr} {nf cf Mf : Nat} {lf : List RI} (hf : PolyR w Sf Af nf cf lf Mf) (hnf : nf ≤ 64) (hMf : Mf ≤ 65536) : Calls Tryz.prog 62 #[(.slice Af nf cf)] w (Ret fun v w' => ∃ (Ar : Option Addr) (nr : Nat) (cr : Nat) (lr : List RI), v = (.slice Ar nr cr) ∧ Ext w w' ∧ PolyR w' (fun b => w.heap.size ≤ b) Ar nr cr lr (Mf) ∧ (zs lr = trimZ (posP (zs lf))) ∧ (nr ≤ nf) ∧ (AllC lr)) := by
  have ⟨kf, jf, mf⟩ := hf.lkm
  replace hf := hf.low
  refine enter Tryz.func62 rfl Tryz.ntmps62 rfl (rS fun K1 hK1 => sAs rfl (sK hK1 (wp_seq_k fun K2 hK2 => rS fun K3 hK3 => sMs rfl (sO (oCall rfl call53 (unipoly_Lead hf (by omega) (by omega)) rfl ?_)))))
  rintro _ w5 ⟨gr_4, Ar_4, nr_4, cr_4, dr_4, rfl, hE6, hr_4, v_4, cn_4, le_4⟩
  have hz7 := hE6.size
  have ⟨lr_4, kr_4, mr_4⟩ := hr_4.lkm
  refine sO (oCall rfl call52 (integer_Sign hr_4) rfl ?_)
  rintro _ w10 ⟨xr_9, rfl, hE11, e_9⟩
  have hz12 := hE11.size
  have hsg := sign_cases (zval gr_4 dr_4); have hld : zval gr_4 dr_4 = ldP (zs lf) := v_4; have he := e_9; rw [hld] at hsg he
  by_cases hc13 : xr_9 < 0
  · refine sV (evLss true rfl rfl (dT hc13)) (sK hK3 (cT rfl (rS fun K14 hK14 => sMs rfl ?_)))
    have hR15 := hE6.trans hE11
    have h16 := (hf.ext hR15)
    refine sO (oCall rfl call92 (unipoly_Neg h16 (by omega) (by omega)) rfl ?_)
    rintro _ w18 ⟨Ar_17, nr_17, cr_17, lr_17, rfl, hE19, hr_17, e_17, ln_17, cn_17⟩
    have hz20 := hE19.size
    have ⟨kr_17, jr_17, mr_17⟩ := hr_17.lkm
    refine sAs rfl (sK hK14 (wp_ret (xR (ret1 (.slice Ar_17 nr_17 cr_17) Tryz.results62 (resT rfl) ?_))))
    have hR22 := hR15.trans hE19
    exact ⟨Ar_17, nr_17, cr_17, lr_17, rfl, hR22, (PolyR.le (PolyR.sub hr_17 q5) (by omega)), (by rw [e_17]; unfold posP; rw [if_pos (by rcases hsg with h | h | h <;> omega)]), (by omega), cn_17⟩
  · refine sV (evLss false rfl rfl (dF hc13)) (sK hK3 (cF rfl (wp_skip (xN (hK2 _ _ (rS fun K23 hK23 => sMs rfl ?_))))))
    have hR24 := hE6.trans hE11
    have h25 := (hf.ext hR24)
    refine sO (oCall rfl call69 (unipoly_Normal h25 (by omega) (by omega)) rfl ?_)
    rintro _ w27 ⟨qr_26, nr_26, lr_26, rfl, hE28, hgr_26, Br_26, hAr_26, kr_26, mr_26, e_26, ln_26, cn_26⟩
    have hz29 := hE28.size
    have hhr_26 : w10.heap.size ≤ qr_26 := hgr_26; have ltr_26 := Br_26.lt
    refine sAs rfl (sK hK23 (wp_ret (ret1 (.slice (some ⟨qr_26, 0, none⟩) nr_26 nr_26) Tryz.results62 (resT rfl) ?_)))
    have h31 : PolyR w27 (fun b => qr_26 ≤ b) (some ⟨qr_26, 0, none⟩) nr_26 nr_26 (lr_26) ((Mf)) := PolyR.of_blk Br_26 (AllN.sub hAr_26 q5) (by (try dsimp only); omega) (by exact lq) (by omega) (by unfold CapMax; omega)
    have hR32 := hR24.trans hE28
    exact ⟨(some ⟨qr_26, 0, none⟩), nr_26, nr_26, lr_26, rfl, hR32, (PolyR.le (PolyR.sub h31 q5) (by omega)), (by rw [e_26]; unfold posP; rw [if_neg (by rcases hsg with h | h | h <;> omega)]), (by omega), cn_26⟩
theorem unidiv_remainders {w : World} {Sf : Nat → Prop} {Af : Option Addr} {nf cf Mf : Nat} {lf : List RI} {Sg : Nat → Prop} {Ag : Option Addr} {ng cg Mg : Nat} {lg : List RI} (hf : PolyR w Sf Af nf cf lf Mf) (hg : PolyR w Sg Ag ng cg lg Mg)  : Calls Tryz.prog 64 #[(.slice Af nf cf), (.slice Ag ng cg)] w (Ret fun v w' => ∃ (pa : Nat) (pb : Nat), v = (.func (.func 95) #[] #[(.pointer (some ⟨pa, 0, none⟩)), (.pointer (some ⟨pb, 0, none⟩))]) ∧ Ext w w' ∧ Blk w' pa 32 [.slice Af nf cf] ∧ Blk w' pb 32 [.slice Ag ng cg] ∧ w.heap.size ≤ pa ∧ w.heap.size ≤ pb) := by
  have ⟨kf, jf, mf⟩ := hf.lkm
  replace hf := hf.low
  have ⟨kg, jg, mg⟩ := hg.lkm
  replace hg := hg.low
  refine enter Tryz.func64 rfl Tryz.ntmps64 rfl (rS fun K1 hK1 => sO (oBox [(.slice Af nf cf)] rfl rfl (fun g2 w3 hg4 hE5 hz6 hB7 => sO (oBox [(.slice Ag ng cg)] rfl rfl (fun g8 w9 hg10 hE11 hz12 hB13 => sV (v := .nilFunc) (rfl) (sK hK1 (rS fun K14 hK14 => sV (v := (.func (.func 95) #[] #[(.pointer (some ⟨g2, 0, none⟩)), (.pointer (some ⟨g8, 0, none⟩))])) (evK (by kernel_rfl)) (sV (v := (.func (.func 95) #[] #[(.pointer (some ⟨g2, 0, none⟩)), (.pointer (some ⟨g8, 0, none⟩))])) (rfl) (sK hK14 (wp_ret (ret1 (.func (.func 95) #[] #[(.pointer (some ⟨g2, 0, none⟩)), (.pointer (some ⟨g8, 0, none⟩))]) Tryz.results64 (resT rfl) ?_)))))))))))
  have hB15 := (hB7.ext hE11)
  have hR16 := hE5.trans hE11
  exact ⟨g2, g8, rfl, hR16, hB15, hB13, (by omega), (by omega)⟩
set_option maxHeartbeats 4000000 in
theorem unidiv_Gcd {w : World} {Sf : Nat → Prop} {Af : Option Addr} {nf cf Mf : Nat} {lf : List RI} {Sg : Nat → Prop} {Ag : Option Addr} {ng cg Mg : Nat} {lg : List RI} (hf : PolyR w Sf Af nf cf lf Mf) (hg : PolyR w Sg Ag ng cg lg Mg) (hnf : nf ≤ 11) (hng : ng ≤ 11) (hMf : Mf ≤ 2400) (hMg : Mg ≤ 2400) : Calls Tryz.prog 39 #[(.slice Af nf cf), (.slice Ag ng cg)] w (Ret fun v w' => ∃ (Ar : Option Addr) (nr : Nat) (cr : Nat) (lr : List RI), v = (.slice Ar nr cr) ∧ Ext w w' ∧ PolyR w' (fun b => w.heap.size ≤ b) Ar nr cr lr (8460000) ∧ (IsGcd (zs lf) (zs lg) (zs lr)) ∧ (nr ≤ 11) ∧ (AllC lr)) := by
  have ⟨kf, jf, mf⟩ := hf.lkm
  replace hf := hf.low
  have ⟨kg, jg, mg⟩ := hg.lkm
  replace hg := hg.low
  refine enterM Tryz.func39 rfl Tryz.ntmps39 rfl (rS fun K1 hK1 => sAs rfl (sK hK1 (wp_seq_k fun K2 hK2 => wp_block (rS fun K3 hK3 => sMs rfl (sO (oCall rfl call19 (unipoly_Degree hf (by omega) (by omega)) rfl ?_))))))
  rintro _ w5 ⟨xr_4, rfl, hE6, e_4⟩
  have hz7 := hE6.size
  by_cases hc8 : xr_4 < 0
  · refine sV (evLss true rfl rfl (dT hc8)) (sAb rfl (sK hK3 (cT rfl (rS fun K9 hK9 => sMs rfl ?_))))
    have h10 := (hg.ext hE6)
    refine sO (oCall rfl call62 (unidiv_positive h10 (by omega) (by omega)) rfl ?_)
    rintro _ w12 ⟨Ar_11, nr_11, cr_11, lr_11, rfl, hE13, hr_11, e_11, ln_11, cn_11⟩
    have hz14 := hE13.size
    have ⟨kr_11, jr_11, mr_11⟩ := hr_11.lkm
    refine sAs rfl (sK hK9 (wp_ret (bR (xR (retM0 (.slice Ar_11 nr_11 cr_11) Tryz.results39 rfl ?_)))))
    have hR16 := hE6.trans hE13
    exact ⟨Ar_11, nr_11, cr_11, lr_11, rfl, hR16, (PolyR.le (PolyR.sub hr_11 q5) (by omega)), (isGcd_pos (by omega) e_11).symm, (by omega), cn_11⟩
  · refine sV (evLss false rfl rfl (dF hc8)) (sAb rfl (sK hK3 (cF rfl (rS fun K17 hK17 => sMs rfl ?_))))
    have h18 := (hg.ext hE6)
    refine sO (oCall rfl call19 (unipoly_Degree h18 (by omega) (by omega)) rfl ?_)
    rintro _ w20 ⟨xr_19, rfl, hE21, e_19⟩
    have hz22 := hE21.size
    by_cases hc23 : xr_19 < 0
    · refine sV (evLss true rfl rfl (dT hc23)) (sAb rfl (sK hK17 (cT rfl (rS fun K24 hK24 => sMs rfl ?_))))
      have hR25 := hE6.trans hE21
      have h26 := (hf.ext hR25)
      refine sO (oCall rfl call62 (unidiv_positive h26 (by omega) (by omega)) rfl ?_)
      rintro _ w28 ⟨Ar_27, nr_27, cr_27, lr_27, rfl, hE29, hr_27, e_27, ln_27, cn_27⟩
      have hz30 := hE29.size
      have ⟨kr_27, jr_27, mr_27⟩ := hr_27.lkm
      refine sAs rfl (sK hK24 (wp_ret (bR (xR (retM0 (.slice Ar_27 nr_27 cr_27) Tryz.results39 rfl ?_)))))
      have hR32 := hR25.trans hE29
      exact ⟨Ar_27, nr_27, cr_27, lr_27, rfl, hR32, (PolyR.le (PolyR.sub hr_27 q5) (by omega)), (isGcd_pos (by omega) e_27), (by omega), cn_27⟩
    · refine sV (evLss false rfl rfl (dF hc23)) (sAb rfl (sK hK17 (cF rfl (wp_skip (bN (xN (hK2 _ _ (rS fun K33 hK33 => sMs rfl (sMs rfl (sO (oBuildSlice [(.slice Af nf cf), (.slice Ag ng cg)] [[(.slice Af nf cf)], [(.slice Ag ng cg)]] Tryz.underlying25 inf32 rfl rfl rfl rfl rfl (fun g34 w35 hg36 hE37 hz38 hB39 => ?_))))))))))))
      replace hB39 : Blk w35 g34 32 [(.slice Af nf cf), (.slice Ag ng cg)] := hB39
      have hR40 := (hE6.trans hE21).trans hE37
      have h41 := (hf.ext hR40)
      have hR42 := hE21.trans hE37
      have h43 := (h18.ext hR42)
      refine sO (oCall rfl call63 (unidiv_contents2 hB39 h41 h43 (by omega) (by omega) (by omega) (by omega)) rfl ?_)
      rintro _ w45 ⟨gr_44, Ar_44, nr_44, cr_44, dr_44, rfl, hE46, hr_44, v_44, cn_44, le_44⟩
      have hz47 := hE46.size
      have ⟨lr_44, kr_44, mr_44⟩ := hr_44.lkm
      have h49 := hr_44.sub (S' := fun b => (w35.heap.size ≤ b) ∧ b < w45.heap.size) fun _ hb hs => ⟨hs, hb⟩
      have hlf := ld_of_deg e_4 (by omega); have hlg := ld_of_deg e_19 (by omega)
      refine sO (oAlloc [(.bool false), (.slice none 0 0)] zero68 rfl (fun g50 w51 hg52 hE53 hz54 hB55 => sO (oStore [(.bool gr_44), (.slice Ar_44 nr_44 cr_44)] rfl rfl rfl sz68 rfl hB55 (Nat.le_of_ble_eq_true rfl) (fun w56 hU57 hz58 hB59 => ?_))))
      replace hB59 : Blk w56 g50 68 [(.bool gr_44), (.slice Ar_44 nr_44 cr_44)] := hB59
      refine sK hK33 (rS fun K60 hK60 => sMs rfl ?_)
      have hR61 := (hE46.trans hE53).rx hU57
      have h62 := (h41.frmB hR61 q3)
      refine sO (oCall rfl call35 (unidiv_Primitive h62 (by omega) (by omega)) rfl ?_)
      rintro _ w64 ⟨Ar_63, nr_63, cr_63, lr_63, rfl, hE65, hr_63, e_63, ln_63, cn_63⟩
      have hz66 := hE65.size
      have ⟨kr_63, jr_63, mr_63⟩ := hr_63.lkm
      have h68 := hr_63.sub (S' := fun b => (w56.heap.size ≤ b) ∧ b < w64.heap.size) fun _ hb hs => ⟨hs, hb⟩
      have hlf2 : (trimZ (zs lr_63)).length = nr_63 := by rw [e_63, prim_trim, ← e_63, zlen]; omega
      have hlf3 : 1 ≤ nr_63 := by have h := prim_len (zs lf); rw [← e_63, zlen] at h; have h2 := ld_len hlf; omega
      refine sMs rfl ?_
      have hR69 := hR61.xr hE65
      have h70 := (h43.frmB hR69 q3)
      refine sO (oCall rfl call35 (unidiv_Primitive h70 (by omega) (by omega)) rfl ?_)
      rintro _ w72 ⟨Ar_71, nr_71, cr_71, lr_71, rfl, hE73, hr_71, e_71, ln_71, cn_71⟩
      have hz74 := hE73.size
      have ⟨kr_71, jr_71, mr_71⟩ := hr_71.lkm
      have h76 := hr_71.sub (S' := fun b => (w64.heap.size ≤ b) ∧ b < w72.heap.size) fun _ hb hs => ⟨hs, hb⟩
      have hlg2 : (trimZ (zs lr_71)).length = nr_71 := by rw [e_71, prim_trim, ← e_71, zlen]; omega
      have hlg3 : 1 ≤ nr_71 := by have h := prim_len (zs lg); rw [← e_71, zlen] at h; have h2 := ld_len hlg; omega
      refine sAs rfl (sAs rfl (sK hK60 (wp_seq_k fun K77 hK77 => rS fun K78 hK78 => sMs rfl (sV (evLen Tryz.underlying32 rfl) (sMs rfl (sV (evLen Tryz.underlying32 rfl) ?_))))))
      by_cases hc79 : ((nr_63 : Int)) < ((nr_71 : Int))
      · refine sV (evLss true rfl rfl (dT hc79)) (sK hK78 (cT rfl (wp_region_lit (sMs rfl (sMs rfl (sAs rfl (sAs rfl (sK hK77 (rS fun K80 hK80 => sO (oAlloc [(.slice none 0 0)] zero32 rfl (fun g81 w82 hg83 hE84 hz85 hB86 => sK hK80 (wp_seq_k fun K87 hK87 => rS fun K88 hK88 => sMs rfl (sMs rfl ?_)))))))))))))
        have h89 := (h76.ext hE84)
        have hR90 := hE73.trans hE84
        have h91 := (h68.ext hR90)
        refine sO (oCall rfl call64 (unidiv_remainders h89 h91) rfl ?_)
        rintro _ w93 ⟨pa_92, pb_92, rfl, hE94, Ba_92, Bb_92, ga_92, gb_92⟩
        have hz95 := hE94.size
        have lta_92 := Ba_92.lt
        have ltb_92 := Bb_92.lt
        refine sK hK88 (wp_block ?_)
        have hB96 := (hB86.ext hE94)
        refine wRangeB (ex := 1) rfl call95 fun fn W1 hE1 hs1 hl1 hD1 => ?_
        have hB97 := (Ba_92.ext hE1)
        have hB98 := (Bb_92.ext hE1)
        have hB99 := (hB96.ext hE1)
        have hR100 := hE94.trans hE1
        have h101 := (h89.ext hR100)
        have h102 := (h91.ext hR100)
        refine Ret.mono (unidiv_remainders1 (l := (w93.heap.size + 1)) (D := w93.heap.size) (b8 := g81) (rc := recB _ _ _ _ _ _ _ fn 1) hl1 hD1 hB99 (fun W A n_ c_ ll v hF hl hD hB hP hn8 h1_ => ?_) hB97 (PolyR.sub h101 q5) (by omega) hB98 (PolyR.sub h102 q5) (by omega) (by omega) (by omega) (by omega) (by omega) (by omega) (by omega)) ?_
        · have hlt := (Array.getElem?_eq_some_iff.1 hl).1; have ltB := hB.lt; have n8 : g81 ≠ (w93.heap.size + 1) := (by omega); have hD8 : g81 ≠ w93.heap.size := (by omega)
          obtain ⟨Wb, hbr, hFb, hlb⟩ := begin_ (P := Tryz.prog) (show _ = some (Obj.loop (recOf _ _ _ _ _ _ _ fn .ready)) from hl)
          refine yd_round (show _ = some (Obj.loop (recOf _ _ _ _ _ _ _ fn .ready)) from hl) fun m => wpIn_region_lit (iA rfl (iDone ⟨Wb, hbr, ?_⟩))
          have hBb := hB.frm hFb (by omega); have hPb := hP.frmB hFb (by intro b h3 h4 h5; (try dsimp only at h4); omega); have hDb := (hFb.block _ (Array.getElem?_eq_some_iff.1 hD).1 (by omega)).trans hD
          refine wpIn_block (wpIn_seq (wpIn_region_lit (iM rfl (iStore [.slice A n_ c_] rfl rfl rfl sz32 rfl hBb (Nat.le_refl _) fun Wc hFc hzc hBc => iDone ?_))))
          have hlc := (hFc.block _ (Array.getElem?_eq_some_iff.1 hlb).1 (by omega)).trans hlb; have hDc := (hFc.block _ (Array.getElem?_eq_some_iff.1 hDb).1 (by omega)).trans hDb; have hPc := hPb.frmB hFc (by intro b h3 h4 h5; (try dsimp only at h4); omega); have ⟨q1_, q2_, q3_⟩ := hPc.lkm
          refine wpIn_seq (wpIn_region_lit (iM rfl (iCall rfl rfl call19 (unipoly_Degree hPc (by omega) (by omega)) rfl ?_)))
          rintro _ Wd ⟨xd, rfl, hEd, ed⟩
          have hld := (hEd.block _ (Array.getElem?_eq_some_iff.1 hlc).1 (fun h => h)).trans hlc; have hDd := (hEd.block _ (Array.getElem?_eq_some_iff.1 hDc).1 (fun h => h)).trans hDc
          by_cases hx0 : xd = 0
          · refine iEv (v := .bool true) (fun c h => nomatch h) (evEql true rfl rfl (dT hx0)) rfl rfl (iDone (wpIn_cond_true (by rw [eval_mkA]; rfl) (wpIn_exit (bO rfl ?_))))
            obtain ⟨We, her, hFe, hle⟩ := endB (P := Tryz.prog) (ex := 1) hld
            exact ⟨_, We, her, _, rfl, false, rfl, iff_of_true rfl (by omega), (((hFb.tr hFc).xr hEd).tr hFe).mono q4, hle, (hFe.block _ (Array.getElem?_eq_some_iff.1 hDd).1 (by omega)).trans hDd, (hBc.ext hEd).frm hFe (by omega)⟩
          · refine iEv (v := .bool false) (fun c h => nomatch h) (evEql false rfl rfl (dF hx0)) rfl rfl (iDone (wpIn_cond_false (by rw [eval_mkA]; rfl) (wpIn_skip ?_)))
            obtain ⟨We, her, hFe, hle⟩ := end_ (P := Tryz.prog) hld
            exact ⟨_, We, her, _, rfl, true, rfl, iff_of_false (by decide) (by omega), (((hFb.tr hFc).xr hEd).tr hFe).mono q4, hle, (hFe.block _ (Array.getElem?_eq_some_iff.1 hDd).1 (by omega)).trans hDd, (hBc.ext hEd).frm hFe (by omega)⟩
        · rintro _ W2 ⟨Al, nl, cl, ll, dn, rfl, hF2, hl2, hD2, B2, hP2, nl2, gc2, nz2⟩
          refine ⟨dn, hl2, hD2, fun W3 hF3 => exB_block ?_⟩
          have hz2 := hF2.size; have hz3 := hF3.size; have ⟨q1_, q2_, q3_⟩ := hP2.lkm
          have hD3 := (hF3.block _ (Array.getElem?_eq_some_iff.1 hD2).1 (by omega)).trans hD2; have B3 := B2.frm hF3 (by omega)
          have hP3 := (hP2.sub (S' := fun b => W1.heap.size ≤ b ∧ b < W2.heap.size) fun _ hb hs => ⟨hs, hb⟩).frmB hF3 q3
          replace gc2 := gc2.symm
          refine xN (hK87 _ _ (wp_seq_k fun K104 hK104 => dBegin (fun _ => False) mixed (fun w105 hE106 hz107 => ?_)))
          have hB108 := (B3.ext hE106)
          refine dV 0 rfl (fun _ hf => evLoadB one32 rfl (hB108.ext hf) rfl) ?_
          have hR109 := ((((((hE65.trans hE73).trans hE84).trans hE94).trans hE1).rx hF2).tr hF3).xr hE106
          have hB110 := (hB59.frm hR109 q1)
          refine dV 2 rfl (fun _ hf => evLoadAB [(.bool gr_44), (.slice Ar_44 nr_44 cr_44)] agg68 sz68 rfl (hB110.ext hf) rfl) ?_
          have h111 := (hP3.ext hE106)
          refine dOp 1 rfl rfl (by kernel_rfl) (oCall rfl call35 (unidiv_Primitive h111 (by omega) (by omega)) rfl ?_)
          rintro _ w113 ⟨Ar_112, nr_112, cr_112, lr_112, rfl, hE114, hr_112, e_112, ln_112, cn_112⟩
          refine ⟨(Frm.of_ext hE114), ?_⟩
          have hz115 := hE114.size
          have ⟨kr_112, jr_112, mr_112⟩ := hr_112.lkm
          have hR117 := (((((((((hE53.rx hU57).xr hE65).xr hE73).xr hE84).xr hE94).xr hE1).tr hF2).tr hF3).xr hE106).xr hE114
          have h118 := (h49.frmB hR117 q3)
          refine dOp 3 rfl rfl (by kernel_rfl) (oCall rfl call65 (unipoly_Scale hr_112 h118 (by omega) (by omega) (by omega)) rfl ?_)
          rintro _ w120 ⟨Ar_119, nr_119, cr_119, lr_119, rfl, hE121, hr_119, e_119, ln_119, cn_119⟩
          refine ⟨(Frm.of_ext hE121), ?_⟩
          have hz122 := hE121.size
          have ⟨kr_119, jr_119, mr_119⟩ := hr_119.lkm
          refine dAs 4 rfl rfl (dDone (by kernel_rfl) (xN (hK104 _ _ (wp_ret ?_))))
          have hR124 := (hE106.trans hE114).trans hE121
          have hDz := (hR124.block _ (Array.getElem?_eq_some_iff.1 hD3).1 (fun h => h)).trans hD3
          refine retM (.slice Ar_119 nr_119 cr_119) Tryz.results39 rfl hDz ?_
          have hF126 := putObj_frm (W := w120) (l := w93.heap.size) (o := .deferred none); generalize w120.putObj (w93.heap.size) (.deferred none) = w125 at hF126 ⊢
          have hz127 := hF126.size
          have h128 := (hr_119.frmB hF126 q3)
          have hR129 := (((((((((((((hR40.trans hE46).trans hE53).rx hU57).xr hE65).xr hE73).xr hE84).xr hE94).xr hE1).tr hF2).tr hF3).xr hE106).xr hE114).xr hE121).tr hF126
          exact ⟨Ar_119, nr_119, cr_119, lr_119, rfl, (Frm.mono hR129 q4), (PolyR.le (PolyR.sub h128 q5) (by omega)), (isGcd_main hlf hlg e_63 e_71 gc2 nz2 v_44 (by rw [e_119, e_112])), (by omega), cn_119⟩
      · refine sV (evLss false rfl rfl (dF hc79)) (sK hK78 (cF rfl (wp_skip (xN (hK77 _ _ (rS fun K130 hK130 => sO (oAlloc [(.slice none 0 0)] zero32 rfl (fun g131 w132 hg133 hE134 hz135 hB136 => sK hK130 (wp_seq_k fun K137 hK137 => rS fun K138 hK138 => sMs rfl (sMs rfl ?_))))))))))
        have hR139 := hE73.trans hE134
        have h140 := (h68.ext hR139)
        have h141 := (h76.ext hE134)
        refine sO (oCall rfl call64 (unidiv_remainders h140 h141) rfl ?_)
        rintro _ w143 ⟨pa_142, pb_142, rfl, hE144, Ba_142, Bb_142, ga_142, gb_142⟩
        have hz145 := hE144.size
        have lta_142 := Ba_142.lt
        have ltb_142 := Bb_142.lt
        refine sK hK138 (wp_block ?_)
        have hB146 := (hB136.ext hE144)
        refine wRangeB (ex := 1) rfl call95 fun fn W1 hE1 hs1 hl1 hD1 => ?_
        have hB147 := (Ba_142.ext hE1)
        have hB148 := (Bb_142.ext hE1)
        have hB149 := (hB146.ext hE1)
        have hR150 := hE144.trans hE1
        have h151 := (h140.ext hR150)
        have h152 := (h141.ext hR150)
        refine Ret.mono (unidiv_remainders1 (l := (w143.heap.size + 1)) (D := w143.heap.size) (b8 := g131) (rc := recB _ _ _ _ _ _ _ fn 1) hl1 hD1 hB149 (fun W A n_ c_ ll v hF hl hD hB hP hn8 h1_ => ?_) hB147 (PolyR.sub h151 q5) (by omega) hB148 (PolyR.sub h152 q5) (by omega) (by omega) (by omega) (by omega) (by omega) (by omega) (by omega)) ?_
        · have hlt := (Array.getElem?_eq_some_iff.1 hl).1; have ltB := hB.lt; have n8 : g131 ≠ (w143.heap.size + 1) := (by omega); have hD8 : g131 ≠ w143.heap.size := (by omega)
          obtain ⟨Wb, hbr, hFb, hlb⟩ := begin_ (P := Tryz.prog) (show _ = some (Obj.loop (recOf _ _ _ _ _ _ _ fn .ready)) from hl)
          refine yd_round (show _ = some (Obj.loop (recOf _ _ _ _ _ _ _ fn .ready)) from hl) fun m => wpIn_region_lit (iA rfl (iDone ⟨Wb, hbr, ?_⟩))
          have hBb := hB.frm hFb (by omega); have hPb := hP.frmB hFb (by intro b h3 h4 h5; (try dsimp only at h4); omega); have hDb := (hFb.block _ (Array.getElem?_eq_some_iff.1 hD).1 (by omega)).trans hD
          refine wpIn_block (wpIn_seq (wpIn_region_lit (iM rfl (iStore [.slice A n_ c_] rfl rfl rfl sz32 rfl hBb (Nat.le_refl _) fun Wc hFc hzc hBc => iDone ?_))))
          have hlc := (hFc.block _ (Array.getElem?_eq_some_iff.1 hlb).1 (by omega)).trans hlb; have hDc := (hFc.block _ (Array.getElem?_eq_some_iff.1 hDb).1 (by omega)).trans hDb; have hPc := hPb.frmB hFc (by intro b h3 h4 h5; (try dsimp only at h4); omega); have ⟨q1_, q2_, q3_⟩ := hPc.lkm
          refine wpIn_seq (wpIn_region_lit (iM rfl (iCall rfl rfl call19 (unipoly_Degree hPc (by omega) (by omega)) rfl ?_)))
          rintro _ Wd ⟨xd, rfl, hEd, ed⟩
          have hld := (hEd.block _ (Array.getElem?_eq_some_iff.1 hlc).1 (fun h => h)).trans hlc; have hDd := (hEd.block _ (Array.getElem?_eq_some_iff.1 hDc).1 (fun h => h)).trans hDc
          by_cases hx0 : xd = 0
          · refine iEv (v := .bool true) (fun c h => nomatch h) (evEql true rfl rfl (dT hx0)) rfl rfl (iDone (wpIn_cond_true (by rw [eval_mkA]; rfl) (wpIn_exit (bO rfl ?_))))
            obtain ⟨We, her, hFe, hle⟩ := endB (P := Tryz.prog) (ex := 1) hld
            exact ⟨_, We, her, _, rfl, false, rfl, iff_of_true rfl (by omega), (((hFb.tr hFc).xr hEd).tr hFe).mono q4, hle, (hFe.block _ (Array.getElem?_eq_some_iff.1 hDd).1 (by omega)).trans hDd, (hBc.ext hEd).frm hFe (by omega)⟩
          · refine iEv (v := .bool false) (fun c h => nomatch h) (evEql false rfl rfl (dF hx0)) rfl rfl (iDone (wpIn_cond_false (by rw [eval_mkA]; rfl) (wpIn_skip ?_)))
            obtain ⟨We, her, hFe, hle⟩ := end_ (P := Tryz.prog) hld
            exact ⟨_, We, her, _, rfl, true, rfl, iff_of_false (by decide) (by omega), (((hFb.tr hFc).xr hEd).tr hFe).mono q4, hle, (hFe.block _ (Array.getElem?_eq_some_iff.1 hDd).1 (by omega)).trans hDd, (hBc.ext hEd).frm hFe (by omega)⟩
        · rintro _ W2 ⟨Al, nl, cl, ll, dn, rfl, hF2, hl2, hD2, B2, hP2, nl2, gc2, nz2⟩
          refine ⟨dn, hl2, hD2, fun W3 hF3 => exB_block ?_⟩
          have hz2 := hF2.size; have hz3 := hF3.size; have ⟨q1_, q2_, q3_⟩ := hP2.lkm
          have hD3 := (hF3.block _ (Array.getElem?_eq_some_iff.1 hD2).1 (by omega)).trans hD2; have B3 := B2.frm hF3 (by omega)
          have hP3 := (hP2.sub (S' := fun b => W1.heap.size ≤ b ∧ b < W2.heap.size) fun _ hb hs => ⟨hs, hb⟩).frmB hF3 q3
          refine xN (hK137 _ _ (wp_seq_k fun K154 hK154 => dBegin (fun _ => False) mixed (fun w155 hE156 hz157 => ?_)))
          have hB158 := (B3.ext hE156)
          refine dV 0 rfl (fun _ hf => evLoadB one32 rfl (hB158.ext hf) rfl) ?_
          have hR159 := ((((((hE65.trans hE73).trans hE134).trans hE144).trans hE1).rx hF2).tr hF3).xr hE156
          have hB160 := (hB59.frm hR159 q1)
          refine dV 2 rfl (fun _ hf => evLoadAB [(.bool gr_44), (.slice Ar_44 nr_44 cr_44)] agg68 sz68 rfl (hB160.ext hf) rfl) ?_
          have h161 := (hP3.ext hE156)
          refine dOp 1 rfl rfl (by kernel_rfl) (oCall rfl call35 (unidiv_Primitive h161 (by omega) (by omega)) rfl ?_)
          rintro _ w163 ⟨Ar_162, nr_162, cr_162, lr_162, rfl, hE164, hr_162, e_162, ln_162, cn_162⟩
          refine ⟨(Frm.of_ext hE164), ?_⟩
          have hz165 := hE164.size
          have ⟨kr_162, jr_162, mr_162⟩ := hr_162.lkm
          have hR167 := (((((((((hE53.rx hU57).xr hE65).xr hE73).xr hE134).xr hE144).xr hE1).tr hF2).tr hF3).xr hE156).xr hE164
          have h168 := (h49.frmB hR167 q3)
          refine dOp 3 rfl rfl (by kernel_rfl) (oCall rfl call65 (unipoly_Scale hr_162 h168 (by omega) (by omega) (by omega)) rfl ?_)
          rintro _ w170 ⟨Ar_169, nr_169, cr_169, lr_169, rfl, hE171, hr_169, e_169, ln_169, cn_169⟩
          refine ⟨(Frm.of_ext hE171), ?_⟩
          have hz172 := hE171.size
          have ⟨kr_169, jr_169, mr_169⟩ := hr_169.lkm
          refine dAs 4 rfl rfl (dDone (by kernel_rfl) (xN (hK154 _ _ (wp_ret ?_))))
          have hR174 := (hE156.trans hE164).trans hE171
          have hDz := (hR174.block _ (Array.getElem?_eq_some_iff.1 hD3).1 (fun h => h)).trans hD3
          refine retM (.slice Ar_169 nr_169 cr_169) Tryz.results39 rfl hDz ?_
          have hF176 := putObj_frm (W := w170) (l := w143.heap.size) (o := .deferred none); generalize w170.putObj (w143.heap.size) (.deferred none) = w175 at hF176 ⊢
          have hz177 := hF176.size
          have h178 := (hr_169.frmB hF176 q3)
          have hR179 := (((((((((((((hR40.trans hE46).trans hE53).rx hU57).xr hE65).xr hE73).xr hE134).xr hE144).xr hE1).tr hF2).tr hF3).xr hE156).xr hE164).xr hE171).tr hF176
          exact ⟨Ar_169, nr_169, cr_169, lr_169, rfl, (Frm.mono hR179 q4), (PolyR.le (PolyR.sub h178 q5) (by omega)), (isGcd_main hlf hlg e_63 e_71 gc2 nz2 v_44 (by rw [e_169, e_162])), (by omega), cn_169⟩
end Go.Proofs.YtbniolgfaeiedaaGreat
