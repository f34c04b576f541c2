/-
  Walks of packages unidiv, squarefree: divisibility, multiplicities.
-/
import Derived.Test.YtbniolgfaeiedaaGreatSq3
import Derived.Test.YtbniolgfaeiedaaGreatSq4
import Derived.Test.YtbniolgfaeiedaaGreatLibB
namespace Go.Proofs.YtbniolgfaeiedaaGreat
open Go.RowKit Go.Gx
set_option maxHeartbeats 1000000 in
theorem squarefree_remove {w : World} {Sf : Nat → Prop} {Af : Option Addr} {nf cf Mf : Nat} {lf : List RI} {Sg : Nat → Prop} {Ag : Option Addr} {ng cg Mg : Nat} {lg : List RI} (hf : PolyR w Sf Af nf cf lf Mf) (hg : PolyR w Sg Ag ng cg lg Mg) (hnf : nf ≤ 64) (hMf : Mf ≤ 4096) (hng : ng ≤ 64) (hMg : Mg ≤ 4096) : Calls Tryz.prog 40 #[(.slice Af nf cf), (.slice Ag ng cg)] w (Ret fun v w' => ∃ (xk : Nat) (Ar : Option Addr) (nr : Nat) (cr : Nat) (lr : List RI), v = (.tuple #[(.int .i64 ((xk : Int))), (.slice Ar nr cr)]) ∧ Ext w w' ∧ xk ≤ 9223372036854775807 ∧ PolyR w' (fun b => w.heap.size ≤ b) Ar nr cr lr (remM Mf Mg) ∧ (Rem (zs lf) (zs lg) xk (zs lr)) ∧ (xk ≤ 64) ∧ (nr ≤ nf) ∧ (AllC lr)) := by
  have ⟨kf, jf, mf⟩ := hf.lkm
  replace hf := hf.low
  have ⟨kg, jg, mg⟩ := hg.lkm
  replace hg := hg.low
  refine enter Tryz.func40 rfl Tryz.ntmps40 rfl (rS fun K1 hK1 => sAi rfl (sAs rfl (sK hK1 (rS fun K2 hK2 => sMs rfl (sO (oCall rfl call35 (unidiv_Primitive hf (by omega) (by omega)) rfl ?_))))))
  rintro _ w4 ⟨Ar_3, nr_3, cr_3, lr_3, rfl, hE5, hr_3, e_3, ln_3, cn_3⟩
  have hz6 := hE5.size
  have ⟨kr_3, jr_3, mr_3⟩ := hr_3.lkm
  have lz1 : (zs lr_3).length = nr_3 := by rw [zlen]; omega
  refine sMs rfl ?_
  have h8 := (hg.ext hE5)
  refine sO (oCall rfl call35 (unidiv_Primitive h8 (by omega) (by omega)) rfl ?_)
  rintro _ w10 ⟨Ar_9, nr_9, cr_9, lr_9, rfl, hE11, hr_9, e_9, ln_9, cn_9⟩
  have hz12 := hE11.size
  have ⟨kr_9, jr_9, mr_9⟩ := hr_9.lkm
  have lz2 : (zs lr_9).length = nr_9 := by rw [zlen]; omega
  refine sAs rfl (sAs rfl (sK hK2 (wp_seq_k fun K14 hK14 => rS fun K15 hK15 => sMs rfl (sV (evLen Tryz.underlying32 rfl) ?_))))
  by_cases hc16 : ((nr_3 : Int)) = 0
  · refine sV (evEql true rfl rfl (dT hc16)) (sMb rfl (sSkip rfl rfl (sSkip rfl rfl (sSkip rfl rfl (sV (v := (.bool true)) (rfl) (sK hK15 (cT rfl (rS fun K17 hK17 => sMs rfl (sAi rfl (sAs rfl (sK hK17 (wp_ret (xR (ret2 (.int .i64 (0)) (.slice Ar_3 nr_3 cr_3) Tryz.results40 (resT rfl) (resT rfl) ?_))))))))))))))
    have hBK : Mf + 1 ≤ remM Mf Mg := by unfold remM; exact Nat.succ_le_succ (Nat.le_add_right _ _)
    have h18 := (hr_3.ext hE11)
    have hR19 := hE5.trans hE11
    exact ⟨(0), Ar_3, nr_3, cr_3, lr_3, rfl, hR19, (by omega), (PolyR.le (PolyR.sub h18 q5) (by omega)), (rem_none e_3 e_9 (by omega)), (by omega), (by omega), cn_3⟩
  · refine sV (evEql false rfl rfl (dF hc16)) (sMb rfl (sEv (v := (.slice Ar_9 nr_9 cr_9)) (rfl) rfl rfl (sEv (v := (.int .i64 ((nr_9 : Int)))) (evLen Tryz.underlying32 rfl) rfl rfl ?_)))
    by_cases hc20 : ((nr_9 : Int)) < 2
    · refine sEv (v := (.bool true)) (evLss true rfl rfl (dT hc20)) rfl rfl (sV (v := (.bool true)) (rfl) (sK hK15 (cT rfl (rS fun K21 hK21 => sMs rfl (sAi rfl (sAs rfl (sK hK21 (wp_ret (xR (ret2 (.int .i64 (0)) (.slice Ar_3 nr_3 cr_3) Tryz.results40 (resT rfl) (resT rfl) ?_))))))))))
      have hBK : Mf + 1 ≤ remM Mf Mg := by unfold remM; exact Nat.succ_le_succ (Nat.le_add_right _ _)
      have h22 := (hr_3.ext hE11)
      have hR23 := hE5.trans hE11
      exact ⟨(0), Ar_3, nr_3, cr_3, lr_3, rfl, hR23, (by omega), (PolyR.le (PolyR.sub h22 q5) (by omega)), (rem_none e_3 e_9 (by omega)), (by omega), (by omega), cn_3⟩
    · refine sEv (v := (.bool false)) (evLss false rfl rfl (dF hc20)) rfl rfl (sV (v := (.bool false)) (rfl) (sK hK15 (cF rfl (wp_skip (xN (hK14 _ _ (rS fun K24 hK24 => sAi rfl (sK hK24 (wp_block ?_)))))))))
      have hcd := rem_open e_3 e_9 (by omega) (by omega)
      have ⟨hf0, hg2, hgz, hgc, hgl⟩ := hcd; have hgl2 : ldP (zs lr_9) ≠ 0 := by rw [e_9]; exact hgl
      have h26 := (hr_3.ext hE11)
      refine lLoop (fun m e w_ => ∃ (k : Nat) (B : Nat) (Ap : Option Addr) (np : Nat) (cp : Nat) (lp : List RI), m = (trimZ (zs lp)).length ∧ e 6 = (.slice Ap np cp) ∧ e 7 = (.slice Ar_9 nr_9 cr_9) ∧ e 8 = (.int .i64 ((k : Int))) ∧ Frm (fun b => w10.heap.size ≤ b) w10 w_ ∧ (B + 64 * (Mg + 16) * (trimZ (zs lp)).length ≤ Mf + 1 + 64 * (Mg + 16) * (zs lr_3).length) ∧ (np ≤ nf) ∧ (PolyR w_ (fun b => w.heap.size ≤ b) Ap np cp lp B) ∧ (AllC lp) ∧ (k + (trimZ (zs lp)).length ≤ (zs lr_3).length) ∧ (P (primP (zs lf)) = P (zs lp) * P (primP (zs lg)) ^ k) ∧ (P (zs lp) ≠ 0)) ((trimZ (zs (lr_3))).length) ?_ ?_
      · refine ⟨(0), (Mf + 1), (Ar_3), (nr_3), (cr_3), (lr_3), rfl, rfl, rfl, cI, (Frm.refl _ _), ?_, ?_, ?_, ?_, ?_, ?_, ?_⟩
        · rw [e_3, prim_trim]; omega
        · omega
        · exact (PolyR.sub h26 q5).le (by first | exact hex | omega)
        · exact cn_3
        · rw [e_3, prim_trim]; omega
        · rw [e_3]; exact rem_start _ _
        · rw [e_3]; exact hf0
      · rintro m25 e33 w27 ⟨k, B, Ap, np, cp, lp, hm32, hs28, hs29, hs30, hF31, hB, hnp, hPR, hC, hk, hv, hz⟩
        obtain ⟨r34, rfl⟩ := sq (e := e33) (t := 6) hs28
        obtain ⟨r35, rfl⟩ := sq (e := r34) (t := 7) hs29
        obtain ⟨r36, rfl⟩ := sq (e := r35) (t := 8) hs30
        have hz37 := hF31.size
        have ⟨k7, j7, m7⟩ := hPR.lkm
        have hBK := rem_big hB (show (zs lr_3).length ≤ 64 by omega); have hBM := rem_cap hBK hMf hMg
        refine wp_seq_k fun K38 hK38 => wp_block (rS fun K39 hK39 => sMs rfl (sMs rfl ?_))
        have h40 := (hr_9.frmB hF31 q3)
        refine sO (oCall rfl call66 (unidiv_Exact hPR h40 (by omega) (by omega) (by omega) (by omega) (by assumption)) rfl ?_)
        rintro _ w42 ⟨Aq_41, nq_41, cq_41, lq_41, xe_41, rfl, hE43, hq_41, ex_41, cn_41, ln_41, lk_41⟩
        have hz44 := hE43.size
        have ⟨kq_41, jq_41, mq_41⟩ := hq_41.lkm
        have hex := exM_rem (B := B) (G := Mg) (K := (trimZ (zs lp)).length - ((trimZ (zs lr_9)).length - 1)) (by have h := trimZ_len (zs lp); rw [zlen] at h; omega)
        refine sV (v := (.tuple #[(.slice Aq_41 nq_41 cq_41), (.int .i64 (xe_41))])) (rfl) (sV (v := (.slice Aq_41 nq_41 cq_41)) (rfl) (sV (v := (.int .i64 (xe_41))) (rfl) (sAs rfl (sAi rfl (sK hK39 (wp_seq_k fun K46 hK46 => rS fun K47 hK47 => sMi rfl ?_))))))
        by_cases hc48 : xe_41 ≠ 0
        · refine sV (evNeq true rfl rfl (dT hc48)) ?_
          have hbad := (ex_41.resolve_left fun hh => hc48 hh.1).2
          rw [e_9] at hbad; have hbad := exFail_not hgc hgl hbad
          refine sK hK47 (cT rfl (rS fun K49 hK49 => sMi rfl (sMs rfl (sAi rfl (sAs rfl (sK hK49 (wp_ret (xR (bR (xR (xR (bR (ret2 (.int .i64 ((k : Int))) (.slice Ap np cp) Tryz.results40 (resT rfl) (resT rfl) ?_)))))))))))))
          have h50 := (hPR.ext hE43)
          have hR51 := ((hE5.trans hE11).rx hF31).xr hE43
          exact ⟨(k), Ap, np, cp, lp, rfl, (Frm.mono hR51 q4), (by omega), (PolyR.le (PolyR.sub h50 q5) (by omega)), (.inl ⟨hcd, hv, hbad⟩), (by omega), (by omega), hC⟩
        · refine sV (evNeq false rfl rfl (dF hc48)) ?_
          have hq := rem_quo (ex_41.resolve_right fun hh => hc48 (by have h3 := hh.1; omega)).2 e_9
          have hlt := rem_lt hz hq hgz hg2
          refine sK hK47 (cF rfl (wp_skip (xN (hK46 _ _ (wp_region_lit (sMs rfl (sAs rfl (sDone (bN (xN (hK38 _ _ (wp_region_lit (sMi rfl (sV (evAdd (((k : Int)) + 1) rfl rfl wI) (sAi rfl (sDone (again ((trimZ (zs (lq_41))).length) (by omega) ⟨(k + 1), (B + (64 * (Mg + 16))), (Aq_41), (nq_41), (cq_41), (lq_41), rfl, rfl, rfl, cI, (hF31.xr hE43), ?_, ?_, ?_, ?_, ?_, ?_, ?_⟩)))))))))))))))))
          · exact rem_bud hB hlt
          · omega
          · exact (PolyR.sub hq_41 q5).le (by first | exact hex | omega)
          · exact cn_41
          · omega
          · exact rmv_step hv hq
          · exact rem_ne hz hq

end Go.Proofs.YtbniolgfaeiedaaGreat
