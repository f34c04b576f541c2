/-
  Walks of package unipoly: trim, sums, products, comparison.
-/
import Derived.Test.YteiagkehhlpidaaInt1
import Derived.Test.YteiagkehhlpidaaPolyMath
namespace Go.Proofs.Yteiagkehhlpidaa
open Go.RowKit Go.Gx
theorem unipoly_trim {w : World} {Sa : Nat → Prop} {Aa : Option Addr} {na ca Ma : Nat} {la : List RI} (ha : PolyR w Sa Aa na ca la Ma)  : Calls Try.prog 18 #[(.slice Aa na ca)] w (Ret fun v w' => ∃ (Ar : Option Addr) (nr : Nat) (cr : Nat) (lr : List RI), v = (.slice Ar nr cr) ∧ Ext w w' ∧ PolyR w' (Sa) Ar nr cr lr (Ma) ∧ (lr = trimB RI.isZ la) ∧ (nr ≤ na)) := by
  have ⟨ka, ja, ma⟩ := ha.lkm
  refine enter Try.func18 rfl Try.ntmps18 rfl (rS fun K1 hK1 => sAs rfl (sK hK1 (rS fun K2 hK2 => sMs rfl (sV (evLen Try.underlying27 rfl) (sAi rfl (sK hK2 (wp_seq_k fun K3 hK3 => wp_block ?_)))))))
  refine lLoop (fun m e w_ => ∃ (k : Nat), m = k ∧ e 0 = (.slice Aa na ca) ∧ e 3 = (.int .i64 ((k : Int))) ∧ Frm (fun b => False) w w_ ∧ (k ≤ na) ∧ (∀ j, k ≤ j → (zs la).getD j 0 = 0)) ((na)) ?_ ?_
  · refine ⟨(na), rfl, rfl, cI, (Frm.refl _ _), ?_, ?_⟩
    · omega
    · exact zget_ge (by simp; omega)
  · rintro m4 e10 w5 ⟨k, hm9, hs6, hs7, hF8, hk, hz⟩
    obtain ⟨r11, rfl⟩ := sq (e := e10) (t := 0) hs6
    obtain ⟨r12, rfl⟩ := sq (e := r11) (t := 3) hs7
    have hz13 := hF8.size
    refine wp_seq_k fun K14 hK14 => rS fun K15 hK15 => sMi rfl ?_
    by_cases hc16 : ((k : Int)) > 0
    · refine sV (evGtr true rfl rfl (dT hc16)) (sMb rfl (sEv (v := (.slice Aa na ca)) (rfl) rfl rfl (sEv (v := (.int .i64 ((k : Int)))) (rfl) rfl rfl (sEv (v := (.int .i64 (((k : Int)) - 1))) (evSub (((k : Int)) - 1) rfl rfl wI) rfl rfl ?_))))
      have h17 := (ha.ext hF8)
      obtain ⟨b18, o19, rfl⟩ := h17.base (by omega)
      refine sEv (v := (.pointer (some ⟨b18, o19 + ((k - 1) * 2), none⟩))) (evIx (k - 1) Try.underlying27 sz34 rfl rfl (o19 + ((k - 1) * 2))) rfl rfl ?_
      obtain ⟨g_20, A_20, n_20, c_20, d_20, he_20, hp_20, hq_20, h_20, hM_20, hS_20, hb_20, z_20⟩ := h17.at_ (i := k - 1) (by omega)
      have ⟨l_20, k_20, m_20⟩ := h_20.lkm
      refine sEv (v := (.agg #[(.bool g_20), (.slice A_20 n_20 c_20)])) (evLoadA [(.bool g_20), (.slice A_20 n_20 c_20)] agg34 sz34 rfl (cell2 hp_20 hq_20)) rfl rfl (sOp rfl (oCall rfl call24 (integer_Sign h_20) rfl ?_))
      rintro _ w23 ⟨xr_22, rfl, hE24, e_22⟩
      have hz25 := hE24.size
      by_cases hc26 : xr_22 = 0
      · refine sEv (v := (.bool true)) (evEql true rfl rfl (dT hc26)) rfl rfl ?_
        have hzz := (sign_zero_iff e_22 z_20).1 hc26
        refine sV (v := (.bool true)) (rfl) (sK hK15 (cT rfl (wp_skip (xN (hK14 _ _ (wp_block (wp_region_lit (sMi rfl (sV (evSub (((k : Int)) - 1) rfl rfl wI) (sAi rfl (sDone (bN (again ((k - 1)) (by omega) ⟨(k - 1), rfl, rfl, cI, (hF8.trans hE24), ?_, ?_⟩)))))))))))))
        · omega
        · exact zeros_downZ hz hzz
      · refine sEv (v := (.bool false)) (evEql false rfl rfl (dF hc26)) rfl rfl ?_
        have hzz := fun hh => hc26 ((sign_zero_iff e_22 z_20).2 hh)
        refine sV (v := (.bool false)) (rfl) (sK hK15 (cF rfl (wp_exit (xE (xE (bE (xN (hK3 _ _ (rS fun K27 hK27 => sMs rfl (sMi rfl ?_))))))))))
        have h28 := (h17.ext hE24)
        have h29 := h28.take (m := k) (by omega)
        refine sV (evSliceHi k Try.underlying27 sz34 rfl rfl (by omega) (by omega)) (sAs rfl (sK hK27 (wp_ret (ret1 (.slice (some ⟨b18, o19, none⟩) k ca) Try.results18 (resT rfl) ?_))))
        have hR31 := hF8.trans hE24
        exact ⟨(some ⟨b18, o19, none⟩), k, ca, ((la).take k), rfl, hR31, (PolyR.le h29 (by omega)), (trimI_of (by omega) hz (by first | omega | exact .inr hzz)), (by omega)⟩
    · refine sV (evGtr false rfl rfl (dF hc16)) (sMb rfl (sSkip rfl rfl (sSkip rfl rfl (sSkip rfl rfl (sSkip rfl rfl (sSkip rfl rfl (sSkip rfl rfl (sSkip rfl rfl (sV (v := (.bool false)) (rfl) (sK hK15 (cF rfl (wp_exit (xE (xE (bE (xN (hK3 _ _ (rS fun K32 hK32 => sMs rfl (sMi rfl ?_)))))))))))))))))))
      have h33 := (ha.ext hF8)
      have h34 := h33.take (m := k) (by omega)
      refine sV (evSliceHi k Try.underlying27 sz34 rfl rfl (by omega) (by omega)) (sAs rfl (sK hK32 (wp_ret (ret1 (.slice Aa k ca) Try.results18 (resT rfl) ?_))))
      exact ⟨Aa, k, ca, ((la).take k), rfl, hF8, (PolyR.le h34 (by omega)), (trimI_of (by omega) hz (by first | omega | exact .inr hzz)), (by omega)⟩

end Go.Proofs.Yteiagkehhlpidaa
