/-
  Walk of the law SquarefreePowers.
-/
import Derived.Test.YteiagkehhlpidaaSq8
import Derived.Test.YteiagkehhlpidaaSq5
namespace Go.Proofs.Yteiagkehhlpidaa
open Go.RowKit Go.Gx
set_option maxHeartbeats 2000000 in
theorem law11_powers {w : World} {Sc : Nat → Prop} {Ac : Option Addr} {nc cc : Nat} {xc : List Int} {xn : Int} {xu : Int} (hc : I16R w Sc Ac nc cc xc) (bn : -128 ≤ xn ∧ xn ≤ 127) (bu : -32768 ≤ xu ∧ xu ≤ 32767)  : Calls Try.prog 3 #[(.slice Ac nc cc), (.int .i8 (xn)), (.int .i16 (xu))] w (Ret fun v w' => ∃ (gr : Bool), v = (.bool gr) ∧ Ext w w' ∧ (gr = true)) := by
  have ⟨lc, kc, mc⟩ := hc.lkm
  replace hc := hc.low
  refine enter Try.func3 rfl Try.ntmps3 rfl (rS fun K1 hK1 => sAb rfl (sK hK1 (wp_seq_k fun K2 hK2 => rS fun K3 hK3 => sO (oCall rfl call5 (law11_awake) rfl ?_))))
  rintro _ w5 ⟨gr_4, rfl, hE6, e_4⟩
  have hz7 := hE6.size
  obtain rfl : gr_4 = true := e_4
  refine sV (evNot _ rfl rfl) (sK hK3 (cF rfl (wp_skip (xN (hK2 _ _ (rS fun K8 hK8 => sMs rfl ?_))))))
  have h9 := (hc.ext hE6)
  refine sO (oCall rfl call6 (law11_Short h9 (xn := 5) (by omega) (by omega)) rfl ?_)
  rintro _ w11 ⟨Ar_10, nr_10, cr_10, lr_10, rfl, hE12, hr_10, e_10, ln_10, cn_10⟩
  have hz13 := hE12.size
  have ⟨kr_10, jr_10, mr_10⟩ := hr_10.lkm
  have hkr := tmod6 xn
  refine sAs rfl (sK hK8 (rS fun K15 hK15 => sMi rfl (sV (evRem (xn.tmod 6) rfl rfl (by omega) (by rfl)) (sV (evConv (xn.tmod 6) Try.underlying23 Try.underlying3 rfl (wI64 (by omega))) (sAi rfl (sK hK15 (rS fun K16 hK16 => sMs rfl (sMi rfl (sV (evMax (max (xn.tmod 6) 0) rfl rfl (by split <;> omega)) (sO (oCall rfl call8 (unipoly_Pow hr_10 (by omega) (by omega) (by omega)) rfl ?_)))))))))))
  rintro _ w18 ⟨Ar_17, nr_17, cr_17, lr_17, rfl, hE19, hr_17, e_17, ln_17, cn_17⟩
  have hz20 := hE19.size
  have ⟨kr_17, jr_17, mr_17⟩ := hr_17.lkm
  refine sMi rfl (sV (evConv xu Try.underlying24 Try.underlying2 rfl (wI64 (by omega))) (sO (oCall rfl call9 (integer_Of (by omega)) rfl ?_)))
  rintro _ w23 ⟨gr_22, Ar_22, nr_22, cr_22, dr_22, rfl, hE24, hr_22, v_22, cn_22, le_22⟩
  have hz25 := hE24.size
  have ⟨lr_22, kr_22, mr_22⟩ := hr_22.lkm
  have h27 := (hr_17.ext hE24)
  refine sO (oCall rfl call7 (unipoly_Scale h27 hr_22 (by omega) (by omega) (by omega)) rfl ?_)
  rintro _ w29 ⟨Ar_28, nr_28, cr_28, lr_28, rfl, hE30, hr_28, e_28, ln_28, cn_28⟩
  have hz31 := hE30.size
  have ⟨kr_28, jr_28, mr_28⟩ := hr_28.lkm
  refine sAs rfl (sK hK16 (rS fun K33 hK33 => sMi rfl (sV (evConv xu Try.underlying24 Try.underlying2 rfl (wI64 (by omega))) (sO (oCall rfl call9 (integer_Of (by omega)) rfl ?_)))))
  rintro _ w35 ⟨gr_34, Ar_34, nr_34, cr_34, dr_34, rfl, hE36, hr_34, v_34, cn_34, le_34⟩
  have hz37 := hE36.size
  have ⟨lr_34, kr_34, mr_34⟩ := hr_34.lkm
  refine sMs rfl (sMi rfl (sV (v := (.agg #[(.slice Ar_10 nr_10 cr_10), (.int .i64 (xn.tmod 6))])) (evK (by kernel_rfl)) (sV (v := (.agg #[(.slice none 0 0), (.int .i64 (0))])) (evK (by kernel_rfl)) (sMs rfl (sV (v := (.agg #[(.slice Ar_10 nr_10 cr_10), (.int .i64 ((-3)))])) (evK (by kernel_rfl)) (sO (oBuildSlice [(.agg #[(.slice Ar_10 nr_10 cr_10), (.int .i64 (xn.tmod 6))]), (.agg #[(.slice none 0 0), (.int .i64 (0))]), (.agg #[(.slice Ar_10 nr_10 cr_10), (.int .i64 ((-3)))])] [[(.slice Ar_10 nr_10 cr_10), (.int .i64 (xn.tmod 6))], [(.slice none 0 0), (.int .i64 (0))], [(.slice Ar_10 nr_10 cr_10), (.int .i64 ((-3)))]] Try.underlying39 inf38 rfl rfl rfl rfl rfl (fun g39 w40 hg41 hE42 hz43 hB44 => ?_))))))))
  replace hB44 : Blk w40 g39 38 [(.slice Ar_10 nr_10 cr_10), (.int .i64 (xn.tmod 6)), (.slice none 0 0), (.int .i64 (0)), (.slice Ar_10 nr_10 cr_10), (.int .i64 ((-3)))] := hB44
  have h45 := (hr_34.ext hE42)
  have hR46 := (((hE19.trans hE24).trans hE30).trans hE36).trans hE42
  have h47 := (hr_10.ext hR46)
  refine sO (oCall rfl call10 (squarefree_Multiply h45 hB44 h47 (by omega) (by omega) (by omega) (by omega)) rfl ?_)
  rintro _ w49 ⟨Ar_48, nr_48, cr_48, lr_48, rfl, hE50, hr_48, e_48, ln_48⟩
  have hz51 := hE50.size
  have ⟨kr_48, jr_48, mr_48⟩ := hr_48.lkm
  replace hr_48 := hr_48.low
  refine sAs rfl (sK hK33 (rS fun K53 hK53 => sMs rfl (sMs rfl ?_)))
  have hR54 := (hE36.trans hE42).trans hE50
  have h55 := (hr_28.ext hR54)
  refine sO (oCall rfl call11 (unipoly_Same hr_48 h55) rfl ?_)
  rintro _ w57 ⟨gr_56, rfl, hE58, e_56⟩
  have hz59 := hE58.size
  obtain rfl : gr_56 = true := by rw [e_56]; exact decide_eq_true (poly_eq fun x => by rw [e_48 (x : Rat), e_28, evQ_trim, evQ_scale, e_17, evQ_trim, evQ_ppow, v_22, v_34, show (max (xn.tmod 6) 0).toNat = (xn.tmod 6).toNat by omega])
  refine sAb rfl (sK hK53 (wp_ret (ret1 (.bool true) Try.results3 (resT rfl) ?_)))
  have hR60 := (((((((hE6.trans hE12).trans hE19).trans hE24).trans hE30).trans hE36).trans hE42).trans hE50).trans hE58
  exact ⟨(true), rfl, hR60, rfl⟩

end Go.Proofs.Yteiagkehhlpidaa
