/-
  Walk of package unidiv: the greatest common divisor of x^2 and 2x.
-/
import Derived.Test.YteiagkehhlpidaaSq4
import Derived.Test.YteiagkehhlpidaaSq6
namespace Go.Proofs.Yteiagkehhlpidaa
open Go.RowKit Go.Gx
theorem unidiv_remainders {w : World} {Sf : Nat → Prop} {Af : Option Addr} {nf cf Mf : Nat} {lf : List RI} {Sg : Nat → Prop} {Ag : Option Addr} {ng cg Mg : Nat} {lg : List RI} (hf : PolyR w Sf Af nf cf lf Mf) (hg : PolyR w Sg Ag ng cg lg Mg)  : Calls Try.prog 51 #[(.slice Af nf cf), (.slice Ag ng cg)] w (Ret fun v w' => ∃ (pa : Nat) (pb : Nat), v = (.func (.func 64) #[] #[(.pointer (some ⟨pa, 0, none⟩)), (.pointer (some ⟨pb, 0, none⟩))]) ∧ Ext w w' ∧ Blk w' pa 27 [.slice Af nf cf] ∧ Blk w' pb 27 [.slice Ag ng cg] ∧ w.heap.size ≤ pa ∧ w.heap.size ≤ pb) := by
  have ⟨kf, jf, mf⟩ := hf.lkm
  replace hf := hf.low
  have ⟨kg, jg, mg⟩ := hg.lkm
  replace hg := hg.low
  refine enter Try.func51 rfl Try.ntmps51 rfl (rS fun K1 hK1 => sO (oBox [(.slice Af nf cf)] rfl rfl (fun g2 w3 hg4 hE5 hz6 hB7 => sO (oBox [(.slice Ag ng cg)] rfl rfl (fun g8 w9 hg10 hE11 hz12 hB13 => sV (v := .nilFunc) (rfl) (sK hK1 (rS fun K14 hK14 => sV (v := (.func (.func 64) #[] #[(.pointer (some ⟨g2, 0, none⟩)), (.pointer (some ⟨g8, 0, none⟩))])) (evK (by kernel_rfl)) (sV (v := (.func (.func 64) #[] #[(.pointer (some ⟨g2, 0, none⟩)), (.pointer (some ⟨g8, 0, none⟩))])) (rfl) (sK hK14 (wp_ret (ret1 (.func (.func 64) #[] #[(.pointer (some ⟨g2, 0, none⟩)), (.pointer (some ⟨g8, 0, none⟩))]) Try.results51 (resT rfl) ?_)))))))))))
  have hB15 := (hB7.ext hE11)
  have hR16 := hE5.trans hE11
  exact ⟨g2, g8, rfl, hR16, hB15, hB13, (by omega), (by omega)⟩

set_option maxHeartbeats 4000000 in
theorem unidiv_Gcd_x {w : World} {Sf : Nat → Prop} {Af : Option Addr} {nf cf Mf : Nat} {lf : List RI} {Sg : Nat → Prop} {Ag : Option Addr} {ng cg Mg : Nat} {lg : List RI} (hf : PolyR w Sf Af nf cf lf Mf) (hg : PolyR w Sg Ag ng cg lg Mg) (hnf : nf ≤ 8) (hng : ng ≤ 8) (hMf : Mf ≤ 6) (hMg : Mg ≤ 6) (hzf : zs lf = [0, 0, 1]) (hzg : zs lg = [0, 2]) : Calls Try.prog 32 #[(.slice Af nf cf), (.slice Ag ng cg)] w (Ret fun v w' => ∃ (Ar : Option Addr) (nr : Nat) (cr : Nat) (lr : List RI), v = (.slice Ar nr cr) ∧ Ext w w' ∧ PolyR w' (fun b => w.heap.size ≤ b) Ar nr cr lr (600000) ∧ (zs lr = [0, 1]) ∧ (nr ≤ 8)) := by
  have ⟨kf, jf, mf⟩ := hf.lkm
  replace hf := hf.low
  have ⟨kg, jg, mg⟩ := hg.lkm
  replace hg := hg.low
  refine enterM Try.func32 rfl Try.ntmps32 rfl (rS fun K1 hK1 => sAs rfl (sK hK1 (wp_seq_k fun K2 hK2 => wp_block (rS fun K3 hK3 => sMs rfl (sO (oCall rfl call14 (unipoly_Degree hf (by omega) (by omega)) rfl ?_))))))
  rintro _ w5 ⟨xr_4, rfl, hE6, e_4⟩
  have hz7 := hE6.size
  refine sV (evLss false rfl rfl (dF (by rw [e_4, hzf]; decide))) (sAb rfl (sK hK3 (cF rfl (rS fun K8 hK8 => sMs rfl ?_))))
  have h9 := (hg.ext hE6)
  refine sO (oCall rfl call14 (unipoly_Degree h9 (by omega) (by omega)) rfl ?_)
  rintro _ w11 ⟨xr_10, rfl, hE12, e_10⟩
  have hz13 := hE12.size
  refine sV (evLss false rfl rfl (dF (by rw [e_10, hzg]; decide))) (sAb rfl (sK hK8 (cF rfl (wp_skip (bN (xN (hK2 _ _ (rS fun K14 hK14 => sMs rfl (sMs rfl (sO (oBuildSlice [(.slice Af nf cf), (.slice Ag ng cg)] [[(.slice Af nf cf)], [(.slice Ag ng cg)]] Try.underlying85 inf27 rfl rfl rfl rfl rfl (fun g15 w16 hg17 hE18 hz19 hB20 => ?_))))))))))))
  replace hB20 : Blk w16 g15 27 [(.slice Af nf cf), (.slice Ag ng cg)] := hB20
  have hR21 := (hE6.trans hE12).trans hE18
  have h22 := (hf.ext hR21)
  have hR23 := hE12.trans hE18
  have h24 := (h9.ext hR23)
  refine sO (oCall rfl call50 (unidiv_contents2 hB20 h22 h24 (by omega) (by omega) (by omega) (by omega)) rfl ?_)
  rintro _ w26 ⟨gr_25, Ar_25, nr_25, cr_25, dr_25, rfl, hE27, hr_25, v_25, cn_25, le_25⟩
  have hz28 := hE27.size
  have ⟨lr_25, kr_25, mr_25⟩ := hr_25.lkm
  have h30 := hr_25.sub (S' := fun b => (w16.heap.size ≤ b) ∧ b < w26.heap.size) fun _ hb hs => ⟨hs, hb⟩
  refine sO (oAlloc [(.bool false), (.slice none 0 0)] zero34 rfl (fun g31 w32 hg33 hE34 hz35 hB36 => sO (oStore [(.bool gr_25), (.slice Ar_25 nr_25 cr_25)] rfl rfl rfl sz34 rfl hB36 (Nat.le_of_ble_eq_true rfl) (fun w37 hU38 hz39 hB40 => ?_))))
  replace hB40 : Blk w37 g31 34 [(.bool gr_25), (.slice Ar_25 nr_25 cr_25)] := hB40
  refine sK hK14 (rS fun K41 hK41 => sMs rfl ?_)
  have hR42 := (hE27.trans hE34).rx hU38
  have h43 := (h22.frmB hR42 q3)
  refine sO (oCall rfl call30 (unidiv_Primitive h43 (by omega) (by omega)) rfl ?_)
  rintro _ w45 ⟨Ar_44, nr_44, cr_44, lr_44, rfl, hE46, hr_44, e_44, ln_44, cn_44⟩
  have hz47 := hE46.size
  have ⟨kr_44, jr_44, mr_44⟩ := hr_44.lkm
  have h49 := hr_44.sub (S' := fun b => (w37.heap.size ≤ b) ∧ b < w45.heap.size) fun _ hb hs => ⟨hs, hb⟩
  have hza : zs lr_44 = [0, 0, 1] := by rw [e_44, hzf]; decide
  have hna : nr_44 = 3 := by have h := congrArg List.length hza; rw [zlen] at h; simp at h; omega
  refine sMs rfl ?_
  have hR50 := hR42.xr hE46
  have h51 := (h24.frmB hR50 q3)
  refine sO (oCall rfl call30 (unidiv_Primitive h51 (by omega) (by omega)) rfl ?_)
  rintro _ w53 ⟨Ar_52, nr_52, cr_52, lr_52, rfl, hE54, hr_52, e_52, ln_52, cn_52⟩
  have hz55 := hE54.size
  have ⟨kr_52, jr_52, mr_52⟩ := hr_52.lkm
  have h57 := hr_52.sub (S' := fun b => (w45.heap.size ≤ b) ∧ b < w53.heap.size) fun _ hb hs => ⟨hs, hb⟩
  have hzb : zs lr_52 = [0, 1] := by rw [e_52, hzg]; decide
  have hnb : nr_52 = 2 := by have h := congrArg List.length hzb; rw [zlen] at h; simp at h; omega
  refine sAs rfl (sAs rfl (sK hK41 (wp_seq_k fun K58 hK58 => rS fun K59 hK59 => sMs rfl (sV (evLen Try.underlying27 rfl) (sMs rfl (sV (evLen Try.underlying27 rfl) (sV (evLss false rfl rfl (dF (by omega))) (sK hK59 (cF rfl (wp_skip (xN (hK58 _ _ (rS fun K60 hK60 => sO (oAlloc [(.slice none 0 0)] zero27 rfl (fun g61 w62 hg63 hE64 hz65 hB66 => sK hK60 (wp_seq_k fun K67 hK67 => rS fun K68 hK68 => sMs rfl (sMs rfl ?_)))))))))))))))))
  have hR69 := hE54.trans hE64
  have h70 := (h49.ext hR69)
  have h71 := (h57.ext hE64)
  refine sO (oCall rfl call51 (unidiv_remainders h70 h71) rfl ?_)
  rintro _ w73 ⟨pa_72, pb_72, rfl, hE74, Ba_72, Bb_72, ga_72, gb_72⟩
  have hz75 := hE74.size
  have lta_72 := Ba_72.lt
  have ltb_72 := Bb_72.lt
  refine sK hK68 (wp_block ?_)
  have hB76 := (hB66.ext hE74)
  refine wRange rfl call64 fun fn W1 hE1 hs1 hl1 hD1 => ?_
  have hB77 := (Ba_72.ext hE1)
  have hB78 := (Bb_72.ext hE1)
  have hB79 := (hB76.ext hE1)
  have hR80 := hE74.trans hE1
  have h81 := (h70.ext hR80)
  have h82 := (h71.ext hR80)
  refine Ret.mono (unidiv_remainders1 (l := (w73.heap.size + 1)) (D := w73.heap.size) (b8 := g61) hl1 hD1 hB79 (fun W A n_ c_ ll v hF hl hD hB hP hn8 h2 => ?_) hB77 (PolyR.sub h81 q5) (by omega) hB78 (PolyR.sub h82 q5) (by omega) (by omega) (by omega) (by omega) (by omega) hza hzb) ?_
  · have hlt := (Array.getElem?_eq_some_iff.1 hl).1; have ltB := hB.lt; have n8 : g61 ≠ (w73.heap.size + 1) := (by omega); have hD8 : g61 ≠ w73.heap.size := (by omega)
    obtain ⟨Wb, hbr, hFb, hlb⟩ := begin_ (P := Try.prog) hl
    refine yd_round hl fun m => wpIn_region_lit (iA rfl (iDone ⟨Wb, hbr, ?_⟩))
    have hBb := hB.frm hFb (by omega); have hPb := hP.frmB hFb (by intro b h3 h4 h5; (try dsimp only at h4); omega); have hDb := (hFb.block _ (Array.getElem?_eq_some_iff.1 hD).1 (by omega)).trans hD
    refine wpIn_block (wpIn_seq (wpIn_region_lit (iM rfl (iStore [.slice A n_ c_] rfl rfl rfl sz27 rfl hBb (Nat.le_refl _) fun Wc hFc hzc hBc => iDone ?_))))
    have hlc := (hFc.block _ (Array.getElem?_eq_some_iff.1 hlb).1 (by omega)).trans hlb; have hDc := (hFc.block _ (Array.getElem?_eq_some_iff.1 hDb).1 (by omega)).trans hDb; have hPc := hPb.frmB hFc (by intro b h3 h4 h5; (try dsimp only at h4); omega); have ⟨q1_, q2_, q3_⟩ := hPc.lkm
    refine wpIn_seq (wpIn_region_lit (iM rfl (iCall rfl rfl call14 (unipoly_Degree hPc (by omega) (by omega)) rfl ?_)))
    rintro _ Wd ⟨xd, rfl, hEd, ed⟩
    refine iEv (v := .bool false) (fun c h => nomatch h) (evEql false rfl rfl (dF (by omega))) rfl rfl (iDone (wpIn_cond_false (by rw [eval_mkA]; rfl) (wpIn_skip ?_)))
    have hld := (hEd.block _ (Array.getElem?_eq_some_iff.1 hlc).1 (fun h => h)).trans hlc; have hDd := (hEd.block _ (Array.getElem?_eq_some_iff.1 hDc).1 (fun h => h)).trans hDc; obtain ⟨We, her, hFe, hle⟩ := end_ (P := Try.prog) hld
    exact ⟨_, We, her, _, rfl, rfl, (((hFb.tr hFc).xr hEd).tr hFe).mono q4, hle, (hFe.block _ (Array.getElem?_eq_some_iff.1 hDd).1 (by omega)).trans hDd, (hBc.ext hEd).frm hFe (by omega)⟩
  · rintro _ W2 ⟨Al, nl, cl, ll, rfl, hF2, hl2, hD2, B2, hP2, z2⟩
    refine ⟨hl2, hD2, fun W3 hF3 => ?_⟩
    have hz2 := hF2.size; have hz3 := hF3.size; have ⟨q1_, q2_, q3_⟩ := hP2.lkm
    have hD3 := (hF3.block _ (Array.getElem?_eq_some_iff.1 hD2).1 (by omega)).trans hD2; have B3 := B2.frm hF3 (by omega)
    have hP3 := (hP2.sub (S' := fun b => W1.heap.size ≤ b ∧ b < W2.heap.size) fun _ hb hs => ⟨hs, hb⟩).frmB hF3 q3
    have hnl : nl = 2 := by have h := congrArg List.length z2; rw [zlen] at h; simp at h; omega
    refine bN (xN (hK67 _ _ (wp_seq_k fun K84 hK84 => dBegin (fun _ => False) mixed (fun w85 hE86 hz87 => ?_))))
    have hB88 := (B3.ext hE86)
    refine dV 0 rfl (fun _ hf => evLoadB one27 rfl (hB88.ext hf) rfl) ?_
    have hR89 := ((((((hE46.trans hE54).trans hE64).trans hE74).trans hE1).rx hF2).tr hF3).xr hE86
    have hB90 := (hB40.frm hR89 q1)
    refine dV 2 rfl (fun _ hf => evLoadAB [(.bool gr_25), (.slice Ar_25 nr_25 cr_25)] agg34 sz34 rfl (hB90.ext hf) rfl) ?_
    have h91 := (hP3.ext hE86)
    refine dOp 1 rfl rfl (by kernel_rfl) (oCall rfl call30 (unidiv_Primitive h91 (by omega) (by omega)) rfl ?_)
    rintro _ w93 ⟨Ar_92, nr_92, cr_92, lr_92, rfl, hE94, hr_92, e_92, ln_92, cn_92⟩
    refine ⟨(Frm.of_ext hE94), ?_⟩
    have hz95 := hE94.size
    have ⟨kr_92, jr_92, mr_92⟩ := hr_92.lkm
    have hR97 := (((((((((hE34.rx hU38).xr hE46).xr hE54).xr hE64).xr hE74).xr hE1).tr hF2).tr hF3).xr hE86).xr hE94
    have h98 := (h30.frmB hR97 q3)
    refine dOp 3 rfl rfl (by kernel_rfl) (oCall rfl call7 (unipoly_Scale hr_92 h98 (by omega) (by omega) (by omega)) rfl ?_)
    rintro _ w100 ⟨Ar_99, nr_99, cr_99, lr_99, rfl, hE101, hr_99, e_99, ln_99, cn_99⟩
    refine ⟨(Frm.of_ext hE101), ?_⟩
    have hz102 := hE101.size
    have ⟨kr_99, jr_99, mr_99⟩ := hr_99.lkm
    refine dAs 4 rfl rfl (dDone (by kernel_rfl) (xN (hK84 _ _ (wp_ret ?_))))
    have hR104 := (hE86.trans hE94).trans hE101
    have hDz := (hR104.block _ (Array.getElem?_eq_some_iff.1 hD3).1 (fun h => h)).trans hD3
    refine retM (.slice Ar_99 nr_99 cr_99) Try.results32 rfl hDz ?_
    have hF106 := putObj_frm (W := w100) (l := w73.heap.size) (o := .deferred none); generalize w100.putObj (w73.heap.size) (.deferred none) = w105 at hF106 ⊢
    have hz107 := hF106.size
    have h108 := (hr_99.frmB hF106 q3)
    have hR109 := (((((((((((((hR21.trans hE27).trans hE34).rx hU38).xr hE46).xr hE54).xr hE64).xr hE74).xr hE1).tr hF2).tr hF3).xr hE86).xr hE94).xr hE101).tr hF106
    exact ⟨Ar_99, nr_99, cr_99, lr_99, rfl, (Frm.mono hR109 q4), (PolyR.le (PolyR.sub h108 q5) (by omega)), (by rw [e_99, e_92, z2, v_25, hzf, hzg]; decide), (by omega)⟩

end Go.Proofs.Yteiagkehhlpidaa
