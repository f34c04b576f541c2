/-
  Walk of the law SquarefreeCounts.
-/
import Derived.Test.YteiagkehhlpidaaSq8
import Derived.Test.YteiagkehhlpidaaSq9
import Derived.Test.YteiagkehhlpidaaNorm
namespace Go.Proofs.Yteiagkehhlpidaa
open Go.RowKit Go.Gx
set_option maxHeartbeats 2000000 in
theorem law11_counts {w : World} {Sc : Nat → Prop} {Ac : Option Addr} {nc cc : Nat} {xc : List Int} {Sd : Nat → Prop} {Ad : Option Addr} {nd cd : Nat} {xd : List Int} {xk : Nat} (hc : I16R w Sc Ac nc cc xc) (hd : I16R w Sd Ad nd cd xd) (bk : xk < 256)  : Calls Try.prog 4 #[(.slice Ac nc cc), (.slice Ad nd cd), (.int .u8 ((xk : Int)))] w (Ret fun v w' => ∃ (gr : Bool), v = (.bool gr) ∧ Ext w w' ∧ (gr = true)) := by
  have ⟨lc, kc, mc⟩ := hc.lkm
  replace hc := hc.low
  have ⟨ld, kd, md⟩ := hd.lkm
  replace hd := hd.low
  refine enter Try.func4 rfl Try.ntmps4 rfl (rS fun K1 hK1 => sAb rfl (sK hK1 (rS fun K2 hK2 => sMi rfl (sV (evRem (((xk % 4 : Nat) : Int)) rfl rfl (by omega) (remE (by omega) (by omega))) (sV (evConv (((xk % 4 : Nat) : Int)) Try.underlying5 Try.underlying3 rfl (wI64 (by omega))) (sAi rfl (sK hK2 (wp_seq_k fun K3 hK3 => rS fun K4 hK4 => sO (oCall rfl call5 (law11_awake) rfl ?_)))))))))
  rintro _ w6 ⟨gr_5, rfl, hE7, e_5⟩
  have hz8 := hE7.size
  obtain rfl : gr_5 = true := e_5
  refine sV (evNot _ rfl rfl) (sK hK4 (cF rfl (wp_skip (xN (hK3 _ _ (rS fun K9 hK9 => sMs rfl ?_))))))
  have h10 := (hc.ext hE7)
  refine sO (oCall rfl call6 (law11_Short h10 (xn := 6) (by omega) (by omega)) rfl ?_)
  rintro _ w12 ⟨Ar_11, nr_11, cr_11, lr_11, rfl, hE13, hr_11, e_11, ln_11, cn_11⟩
  have hz14 := hE13.size
  have ⟨kr_11, jr_11, mr_11⟩ := hr_11.lkm
  have hnf := nrm_short e_11 hc.2; have htf : (trimZ (zs lr_11)).length ≤ 6 := by have h := trimZ_len (zs lr_11); rw [zlen] at h; omega
  refine sMs rfl ?_
  have hR16 := hE7.trans hE13
  have h17 := (hd.ext hR16)
  refine sO (oCall rfl call6 (law11_Short h17 (xn := 6) (by omega) (by omega)) rfl ?_)
  rintro _ w19 ⟨Ar_18, nr_18, cr_18, lr_18, rfl, hE20, hr_18, e_18, ln_18, cn_18⟩
  have hz21 := hE20.size
  have ⟨kr_18, jr_18, mr_18⟩ := hr_18.lkm
  have hng := nrm_short e_18 hd.2; have htg : (trimZ (zs lr_18)).length ≤ 6 := by have h := trimZ_len (zs lr_18); rw [zlen] at h; omega
  refine sAs rfl (sAs rfl (sK hK9 (rS fun K23 hK23 => sMs rfl (sMs rfl (sMi rfl (sO (oCall rfl call8 (unipoly_Pow hr_18 (by omega) (by omega) (by omega)) rfl ?_)))))))
  rintro _ w25 ⟨Ar_24, nr_24, cr_24, lr_24, rfl, hE26, hr_24, e_24, ln_24, cn_24⟩
  have hz27 := hE26.size
  have ⟨kr_24, jr_24, mr_24⟩ := hr_24.lkm
  have ew := e_24; rw [show ((xk % 4 : Nat) : Int).toNat = xk % 4 from rfl] at ew
  have hlw : nr_24 ≤ 19 := by have h := tlen_pow ew htg (show xk % 4 ≤ 3 by omega); rw [zlen] at h; omega
  have hT29 := PolyR.tight (K := 2) hr_24 cn_24 (Nat.lt_of_le_of_lt (pow_norm ew hng (by decide) (show xk % 4 ≤ 3 by omega)) (by decide))
  have hR30 := hE20.trans hE26
  have h31 := (hr_11.ext hR30)
  refine sO (oCall rfl call12 (unipoly_Mul h31 hT29 (by omega) (by omega) (by omega) (by omega)) rfl ?_)
  rintro _ w33 ⟨Ar_32, nr_32, cr_32, lr_32, rfl, hE34, hr_32, e_32, ln_32, cn_32⟩
  have hz35 := hE34.size
  have ⟨kr_32, jr_32, mr_32⟩ := hr_32.lkm
  have hT37 := PolyR.tight (K := 3) hr_32 cn_32 (by rw [e_32, nrm_trim]; exact Nat.lt_of_le_of_lt (Nat.le_trans (nrm_pmul _ _) (Nat.mul_le_mul hnf (pow_norm ew hng (by decide) (show xk % 4 ≤ 3 by omega)))) (by decide))
  have hH := cnt_H ew e_32; have htH : (trimZ (zs lr_32)).length ≤ 25 := by have h := trimZ_len (zs lr_32); rw [zlen] at h; omega
  refine sAs rfl (sK hK23 (rS fun K38 hK38 => sMs rfl (sMs rfl ?_)))
  have hR39 := hE26.trans hE34
  have h40 := (hr_18.ext hR39)
  refine sO (oCall rfl call13 (squarefree_Multiplicity hT37 h40 (by omega) (by omega) (by omega) (by omega)) rfl ?_)
  rintro _ w42 ⟨xk_41, rfl, hE43, bk_41, mu_41, kb_41⟩
  have hz44 := hE43.size
  obtain ⟨rm, hrm⟩ := mu_41
  refine sAi rfl (sK hK38 (wp_seq_k fun K45 hK45 => rS fun K46 hK46 => sMs rfl ?_))
  have hR47 := hE34.trans hE43
  have h48 := (h31.ext hR47)
  refine sO (oCall rfl call14 (unipoly_Degree h48 (by omega) (by omega)) rfl ?_)
  rintro _ w50 ⟨xr_49, rfl, hE51, e_49⟩
  have hz52 := hE51.size
  by_cases hc53 : xr_49 < 0
  · refine sV (evLss true rfl rfl (dT hc53)) (sMb rfl (sSkip rfl rfl (sSkip rfl rfl (sSkip rfl rfl (sV (v := (.bool true)) (rfl) (sK hK46 (cT rfl (rS fun K54 hK54 => sMi rfl (sV (evEql true rfl rfl (dT (by have h := cnt_none hH hrm (by omega); omega))) (sAb rfl (sK hK54 (wp_ret (xR (ret1 (.bool true) Try.results4 (resT rfl) ?_))))))))))))))
    have hR55 := ((((hR16.trans hE20).trans hE26).trans hE34).trans hE43).trans hE51
    exact ⟨(true), rfl, hR55, rfl⟩
  · refine sV (evLss false rfl rfl (dF hc53)) (sMb rfl (sEv (v := (.slice Ar_18 nr_18 cr_18)) (rfl) rfl rfl ?_))
    have hR56 := hE43.trans hE51
    have h57 := (h40.ext hR56)
    refine sOp rfl (oCall rfl call14 (unipoly_Degree h57 (by omega) (by omega)) rfl ?_)
    rintro _ w59 ⟨xr_58, rfl, hE60, e_58⟩
    have hz61 := hE60.size
    by_cases hc62 : xr_58 < 1
    · refine sEv (v := (.bool true)) (evLss true rfl rfl (dT hc62)) rfl rfl (sV (v := (.bool true)) (rfl) (sK hK46 (cT rfl (rS fun K63 hK63 => sMi rfl (sV (evEql true rfl rfl (dT (by have h := cnt_none hH hrm (by omega); omega))) (sAb rfl (sK hK63 (wp_ret (xR (ret1 (.bool true) Try.results4 (resT rfl) ?_))))))))))
      have hR64 := (((((hR16.trans hE20).trans hE26).trans hE34).trans hE43).trans hE51).trans hE60
      exact ⟨(true), rfl, hR64, rfl⟩
    · refine sEv (v := (.bool false)) (evLss false rfl rfl (dF hc62)) rfl rfl (sV (v := (.bool false)) (rfl) (sK hK46 (cF rfl (wp_skip (xN (hK45 _ _ (rS fun K65 hK65 => sMi rfl (sMs rfl (sMs rfl ?_)))))))))
      have hR66 := hE51.trans hE60
      have h67 := (h48.ext hR66)
      have h68 := (h57.ext hE60)
      refine sO (oCall rfl call13 (squarefree_Multiplicity h67 h68 (by omega) (by omega) (by omega) (by omega)) rfl ?_)
      rintro _ w70 ⟨xk_69, rfl, hE71, bk_69, mu_69, kb_69⟩
      have hz72 := hE71.size
      obtain ⟨rk, hrk⟩ := mu_69
      have ⟨heq, hm25, hl1, hl2, hd1, hd2⟩ := cnt_all hH hrm hrk (by omega) (by omega) htH
      refine sMi rfl (sV (evAdd (((xk_69 : Int)) + (((xk % 4 : Nat) : Int))) rfl rfl wI) (sV (evEql true rfl rfl (dT (by omega))) (sMb rfl (sEv (v := (.slice Ar_18 nr_18 cr_18)) (rfl) rfl rfl (sEv (v := (.int .i64 ((xk_41 : Int)))) (rfl) rfl rfl ?_)))))
      have h73 := (h68.ext hE71)
      refine sOp rfl (oCall rfl call8 (unipoly_Pow h73 (by omega) (by omega) (by omega)) rfl ?_)
      rintro _ w75 ⟨Ar_74, nr_74, cr_74, lr_74, rfl, hE76, hr_74, e_74, ln_74, cn_74⟩
      have hz77 := hE76.size
      have ⟨kr_74, jr_74, mr_74⟩ := hr_74.lkm
      have ep49 := e_74; rw [show ((xk_41 : Int)).toNat = xk_41 by omega] at ep49
      have hl_49 : nr_74 ≤ 31 := by have h := congrArg List.length ep49; rw [zlen] at h; omega
      have hT79 := PolyR.tight (K := 14) hr_74 cn_74 (Nat.lt_of_le_of_lt (pow_norm ep49 hng (by decide) (show _ ≤ 25 by omega)) (by decide))
      have hP49 : P (zs lr_74) = P (zs lr_18) ^ (xk_41) := by rw [ep49, P_trim, P_pow]
      refine sEv (v := (.slice Ar_32 nr_32 cr_32)) (rfl) rfl rfl ?_
      have hR80 := ((hR56.trans hE60).trans hE71).trans hE76
      have h81 := (hT37.ext hR80)
      refine sOp rfl (oCall rfl call15 (unidiv_Divides hT79 h81 (by omega) (by omega) (by omega) (by omega)) rfl ?_)
      rintro _ w83 ⟨gr_82, rfl, hE84, e_82⟩
      have hz85 := hE84.size
      obtain rfl : gr_82 = true := e_82.2 (by rw [hP49]; exact hd1)
      refine sV (v := (.bool true)) (rfl) (sMb rfl (sEv (v := (.slice Ar_18 nr_18 cr_18)) (rfl) rfl rfl (sEv (v := (.int .i64 ((xk_41 : Int)))) (rfl) rfl rfl (sEv (v := (.int .i64 (((xk_41 : Int)) + 1))) (evAdd (((xk_41 : Int)) + 1) rfl rfl wI) rfl rfl ?_))))
      have hR86 := hE76.trans hE84
      have h87 := (h73.ext hR86)
      refine sOp rfl (oCall rfl call8 (unipoly_Pow h87 (by omega) (by omega) (by omega)) rfl ?_)
      rintro _ w89 ⟨Ar_88, nr_88, cr_88, lr_88, rfl, hE90, hr_88, e_88, ln_88, cn_88⟩
      have hz91 := hE90.size
      have ⟨kr_88, jr_88, mr_88⟩ := hr_88.lkm
      have ep57 := e_88; rw [show ((xk_41 : Int) + 1).toNat = xk_41 + 1 by omega] at ep57
      have hl_57 : nr_88 ≤ 31 := by have h := congrArg List.length ep57; rw [zlen] at h; omega
      have hT93 := PolyR.tight (K := 14) hr_88 cn_88 (Nat.lt_of_le_of_lt (pow_norm ep57 hng (by decide) (show _ ≤ 25 by omega)) (by decide))
      have hP57 : P (zs lr_88) = P (zs lr_18) ^ (xk_41 + 1) := by rw [ep57, P_trim, P_pow]
      refine sEv (v := (.slice Ar_32 nr_32 cr_32)) (rfl) rfl rfl ?_
      have hR94 := hE84.trans hE90
      have h95 := (h81.ext hR94)
      refine sOp rfl (oCall rfl call15 (unidiv_Divides hT93 h95 (by omega) (by omega) (by omega) (by omega)) rfl ?_)
      rintro _ w97 ⟨gr_96, rfl, hE98, e_96⟩
      have hz99 := hE98.size
      obtain rfl : gr_96 = false := Bool.eq_false_iff.2 fun hh => hd2 (by have h := e_96.1 hh; rw [hP57] at h; exact h)
      refine sEv (v := (.bool true)) (evNot _ rfl rfl) rfl rfl (sV (v := (.bool true)) (rfl) (sAb rfl (sK hK65 (wp_ret (ret1 (.bool true) Try.results4 (resT rfl) ?_)))))
      have hR100 := ((((((((((hR16.trans hE20).trans hE26).trans hE34).trans hE43).trans hE51).trans hE60).trans hE71).trans hE76).trans hE84).trans hE90).trans hE98
      exact ⟨(true), rfl, hR100, rfl⟩

end Go.Proofs.Yteiagkehhlpidaa
