/-
  Walk of the law SquarefreeOrderless.
-/
import Derived.Test.YtbniolgfaeiedaaBs2
import Derived.Test.YtbniolgfaeiedaaLibC
import Derived.Test.YtbniolgfaeiedaaFacts2
namespace Go.Proofs.Ytbniolgfaeiedaa
open Go.RowKit Go.Gx
set_option maxHeartbeats 2000000 in
theorem law11_orderless {w : World} {Sc0 : Nat → Prop} {Ac0 : Option Addr} {nc0 cc0 : Nat} {xc0 : List Int} {Sc1 : Nat → Prop} {Ac1 : Option Addr} {nc1 cc1 : Nat} {xc1 : List Int} {Sc2 : Nat → Prop} {Ac2 : Option Addr} {nc2 cc2 : Nat} {xc2 : List Int} {xn : Int} (hc0 : I16R w Sc0 Ac0 nc0 cc0 xc0) (hc1 : I16R w Sc1 Ac1 nc1 cc1 xc1) (hc2 : I16R w Sc2 Ac2 nc2 cc2 xc2) (bn : -32768 ≤ xn ∧ xn ≤ 32767)  : Calls Try.prog 3 #[(.agg #[(.slice Ac0 nc0 cc0), (.slice Ac1 nc1 cc1), (.slice Ac2 nc2 cc2)]), (.int .i16 (xn))] w (Ret fun v w' => ∃ (gr : Bool), v = (.bool gr) ∧ Ext w w' ∧ (gr = true)) := by
  have ⟨lc0, kc0, mc0⟩ := hc0.lkm
  replace hc0 := hc0.low
  have ⟨lc1, kc1, mc1⟩ := hc1.lkm
  replace hc1 := hc1.low
  have ⟨lc2, kc2, mc2⟩ := hc2.lkm
  replace hc2 := hc2.low
  refine enter Try.func3 rfl Try.ntmps3 rfl (rS fun K1 hK1 => sO (oBox [(.slice Ac0 nc0 cc0), (.slice Ac1 nc1 cc1), (.slice Ac2 nc2 cc2)] rfl rfl (fun g2 w3 hg4 hE5 hz6 hB7 => sAb rfl (sK hK1 (wp_seq_k fun K8 hK8 => rS fun K9 hK9 => sO (oCall rfl call4 (law11_awake) rfl ?_))))))
  rintro _ w11 ⟨gr_10, rfl, hE12, e_10⟩
  have hz13 := hE12.size
  obtain rfl : gr_10 = true := e_10
  refine sV (evNot _ rfl rfl) (sK hK9 (cF rfl (wp_skip (xN (hK8 _ _ (wp_seq_k fun K14 hK14 => dBegin (fun _ => False) mixed (fun w15 hE16 hz17 => dV 0 rfl (fun _ _ => evArr 0 Try.underlying23 sz22 rfl rfl 0) ?_)))))))
  have hR18 := hE12.trans hE16
  have hB19 := (hB7.ext hR18)
  refine dV 1 rfl (fun _ hf => evLoadB one22 rfl (hB19.ext hf) rfl) (dV 3 rfl (fun _ _ => evArr 1 Try.underlying23 sz22 rfl rfl 1) (dV 4 rfl (fun _ hf => evLoadB one22 rfl (hB19.ext hf) rfl) (dV 6 rfl (fun _ _ => evArr 2 Try.underlying23 sz22 rfl rfl 2) (dV 7 rfl (fun _ hf => evLoadB one22 rfl (hB19.ext hf) rfl) ?_))))
  have hR20 := (hE5.trans hE12).trans hE16
  have h21 := (hc0.ext hR20)
  refine dOp 2 rfl rfl (by kernel_rfl) (oCall rfl call5 (law11_Short h21 (xn := 6) (by omega) (by omega)) rfl ?_)
  rintro _ w23 ⟨Ar_22, nr_22, cr_22, lr_22, rfl, hE24, hr_22, e_22, ln_22, cn_22⟩
  refine ⟨(Frm.of_ext hE24), ?_⟩
  have hz25 := hE24.size
  have ⟨kr_22, jr_22, mr_22⟩ := hr_22.lkm
  have hnf := nrm_short e_22 hc0.2; rw [show (32768 * 6 : Nat) = 196608 from rfl] at hnf
  have hR27 := hR20.trans hE24
  have h28 := (hc1.ext hR27)
  refine dOp 5 rfl rfl (by kernel_rfl) (oCall rfl call5 (law11_Short h28 (xn := 6) (by omega) (by omega)) rfl ?_)
  rintro _ w30 ⟨Ar_29, nr_29, cr_29, lr_29, rfl, hE31, hr_29, e_29, ln_29, cn_29⟩
  refine ⟨(Frm.of_ext hE31), ?_⟩
  have hz32 := hE31.size
  have ⟨kr_29, jr_29, mr_29⟩ := hr_29.lkm
  have hng := nrm_short e_29 hc1.2; rw [show (32768 * 6 : Nat) = 196608 from rfl] at hng
  have hR34 := hR27.trans hE31
  have h35 := (hc2.ext hR34)
  refine dOp 8 rfl rfl (by kernel_rfl) (oCall rfl call5 (law11_Short h35 (xn := 6) (by omega) (by omega)) rfl ?_)
  rintro _ w37 ⟨Ar_36, nr_36, cr_36, lr_36, rfl, hE38, hr_36, e_36, ln_36, cn_36⟩
  refine ⟨(Frm.of_ext hE38), ?_⟩
  have hz39 := hE38.size
  have ⟨kr_36, jr_36, mr_36⟩ := hr_36.lkm
  have hnh := nrm_short e_36 hc2.2; rw [show (32768 * 6 : Nat) = 196608 from rfl] at hnh
  refine dAs 9 rfl rfl (dAs 10 rfl rfl (dAs 11 rfl rfl (dDone (by kernel_rfl) (xN (hK14 _ _ (rS fun K41 hK41 => sMs rfl (sMs rfl (sMs rfl (sO (oBuildSlice [(.slice Ar_22 nr_22 cr_22), (.slice Ar_29 nr_29 cr_29), (.slice Ar_36 nr_36 cr_36)] [[(.slice Ar_22 nr_22 cr_22)], [(.slice Ar_29 nr_29 cr_29)], [(.slice Ar_36 nr_36 cr_36)]] Try.underlying29 inf27 rfl rfl rfl rfl rfl (fun g42 w43 hg44 hE45 hz46 hB47 => ?_)))))))))))
  replace hB47 : Blk w43 g42 27 [(.slice Ar_22 nr_22 cr_22), (.slice Ar_29 nr_29 cr_29), (.slice Ar_36 nr_36 cr_36)] := hB47
  have hR48 := (hE31.trans hE38).trans hE45
  have h49 := (hr_22.ext hR48)
  have hR50 := hE38.trans hE45
  have h51 := (hr_29.ext hR50)
  have h52 := (hr_36.ext hE45)
  refine sO (oCall rfl call6 (squarefree_Basis (PolysR.lit (M := 64) (n := 3) (l := [⟨Ar_22, nr_22, cr_22, lr_22⟩, ⟨Ar_29, nr_29, cr_29, lr_29⟩, ⟨Ar_36, nr_36, cr_36, lr_36⟩]) hB47 (AllP.cons h49 (by omega) (AllP.cons h51 (by omega) (AllP.cons h52 (by omega) AllP.nil))) rfl (by decide)) (by omega) (by omega) (by intro x hx; simp only [List.mem_cons, List.not_mem_nil, or_false] at hx; rcases hx with rfl | rfl | rfl <;> refine ⟨?_, ?_⟩ <;> (dsimp only) <;> first | omega | exact Nat.zero_le _)) rfl ?_)
  rintro _ w54 ⟨Ar_53, nr_53, cr_53, fr_53, rfl, hE55, hr_53, bs_53, so_53, sm_53, nn_53⟩
  have hz56 := hE55.size
  have ⟨kr_53, jr_53, mr_53⟩ := hr_53.lkm
  replace hr_53 := hr_53.low
  refine sAs rfl (sK hK41 (rS fun K58 hK58 => sMs rfl (sMs rfl (sMi rfl (sV (evConv xn Try.underlying24 Try.underlying2 rfl (wI64 (by omega))) (sO (oBuildSlice [(.int .i64 (xn))] [[(.int .i64 (xn))]] Try.underlying35 inf2 rfl rfl rfl rfl rfl (fun g59 w60 hg61 hE62 hz63 hB64 => ?_))))))))
  replace hB64 : Blk w60 g59 2 [(.int .i64 (xn))] := hB64
  refine sO (oCall rfl call7 (unipoly_Of (IntsR.of_blk (S := fun b => b = g59) (n := 1) (c := 1) (xs := [xn]) hB64 rfl (by intro x hx; simp only [List.mem_cons, List.not_mem_nil, or_false] at hx; omega) rfl (Nat.le_refl _) (by decide)) (by omega)) rfl ?_)
  rintro _ w66 ⟨Ar_65, nr_65, cr_65, lr_65, rfl, hE67, hr_65, e_65, le_65, cn_65⟩
  have hz68 := hE67.size
  have ⟨kr_65, jr_65, mr_65⟩ := hr_65.lkm
  have hlo : (trimZ (zs lr_65)).length ≤ 1 := by have h := trimZ_len (zs lr_65); rw [zlen] at h; omega
  have hno : nrm (zs lr_65) ≤ 32768 := by rw [e_65, nrm_trim]; show _ + 0 ≤ 32768; omega
  refine sMs rfl (sMs rfl (sMs rfl ?_))
  have hR70 := (hE55.trans hE62).trans hE67
  have h71 := (h51.ext hR70)
  refine sO (oCall rfl call8 (unipoly_Neg h71 (by omega) (by omega)) rfl ?_)
  rintro _ w73 ⟨Ar_72, nr_72, cr_72, lr_72, rfl, hE74, hr_72, e_72, ln_72, cn_72⟩
  have hz75 := hE74.size
  have ⟨kr_72, jr_72, mr_72⟩ := hr_72.lkm
  have hnn : nrm (zs lr_72) ≤ 196608 := by rw [e_72, nrm_trim, nrm_scale, show ((-1 : Int)).natAbs = 1 from rfl, Nat.one_mul]; omega
  have hnp := neg_P e_72 (by decide)
  refine sO (oBuildSlice [(.slice Ar_36 nr_36 cr_36), (.slice Ar_22 nr_22 cr_22), (.slice Ar_65 nr_65 cr_65), (.slice Ar_29 nr_29 cr_29), (.slice Ar_22 nr_22 cr_22), (.slice Ar_72 nr_72 cr_72), (.slice none 0 0)] [[(.slice Ar_36 nr_36 cr_36)], [(.slice Ar_22 nr_22 cr_22)], [(.slice Ar_65 nr_65 cr_65)], [(.slice Ar_29 nr_29 cr_29)], [(.slice Ar_22 nr_22 cr_22)], [(.slice Ar_72 nr_72 cr_72)], [(.slice none 0 0)]] Try.underlying29 inf27 rfl rfl rfl rfl rfl (fun g77 w78 hg79 hE80 hz81 hB82 => ?_))
  replace hB82 : Blk w78 g77 27 [(.slice Ar_36 nr_36 cr_36), (.slice Ar_22 nr_22 cr_22), (.slice Ar_65 nr_65 cr_65), (.slice Ar_29 nr_29 cr_29), (.slice Ar_22 nr_22 cr_22), (.slice Ar_72 nr_72 cr_72), (.slice none 0 0)] := hB82
  have hR83 := (hR70.trans hE74).trans hE80
  have h84 := (h52.ext hR83)
  have h85 := (h49.ext hR83)
  have hR86 := hE74.trans hE80
  have h87 := (hr_65.ext hR86)
  have h88 := (h71.ext hR86)
  have h89 := (hr_72.ext hE80)
  refine sO (oCall rfl call6 (squarefree_Basis (PolysR.lit (M := 64) (n := 7) (l := [⟨Ar_36, nr_36, cr_36, lr_36⟩, ⟨Ar_22, nr_22, cr_22, lr_22⟩, ⟨Ar_65, nr_65, cr_65, lr_65⟩, ⟨Ar_29, nr_29, cr_29, lr_29⟩, ⟨Ar_22, nr_22, cr_22, lr_22⟩, ⟨Ar_72, nr_72, cr_72, lr_72⟩, ⟨none, 0, 0, []⟩]) hB82 (AllP.cons h84 (by omega) (AllP.cons h85 (by omega) (AllP.cons h87 (by omega) (AllP.cons h88 (by omega) (AllP.cons h85 (by omega) (AllP.cons h89 (by omega) (AllP.cons (PolyR.nil (S := fun _ => True) (M := 0)) (by omega) AllP.nil))))))) rfl (by decide)) (by omega) (by omega) (by intro x hx; simp only [List.mem_cons, List.not_mem_nil, or_false] at hx; rcases hx with rfl | rfl | rfl | rfl | rfl | rfl | rfl <;> refine ⟨?_, ?_⟩ <;> (dsimp only) <;> first | omega | exact Nat.zero_le _)) rfl ?_)
  rintro _ w91 ⟨Ar_90, nr_90, cr_90, fr_90, rfl, hE92, hr_90, bs_90, so_90, sm_90, nn_90⟩
  have hz93 := hE92.size
  have ⟨kr_90, jr_90, mr_90⟩ := hr_90.lkm
  replace hr_90 := hr_90.low
  refine sAs rfl (sK hK58 (wp_seq_k fun K95 hK95 => wp_seq_k fun K96 hK96 => ?_))
  have hAB := orderless hlo hnp rfl bs_53 bs_90 so_53 so_90
  have hlen := polys_len hAB
  refine wp_region_lit (sMs rfl (sV (evLen Try.underlying29 rfl) (sMs rfl (sV (evLen Try.underlying29 rfl) (sV (evNeq false rfl rfl (dF (by omega))) (sK hK96 (cF rfl (wp_skip (xN (hK95 _ _ (wp_seq_k fun K97 hK97 => rS fun K98 hK98 => sAi rfl (sK hK98 (wp_block ?_)))))))))))))
  refine lLoop (fun m e w_ => ∃ (i : Nat), m = nr_53 - i ∧ e 8 = (.slice Ar_53 nr_53 cr_53) ∧ e 9 = (.slice Ar_90 nr_90 cr_90) ∧ e 10 = (.int .i64 ((i : Int))) ∧ Frm (fun b => False) w91 w_ ∧ (i ≤ nr_53)) (nr_53 - (0)) ?_ ?_
  · refine ⟨(0), rfl, rfl, rfl, cI, (Frm.refl _ _), ?_⟩
    · omega
  · rintro m99 e106 w100 ⟨i, hm105, hs101, hs102, hs103, hF104, hi⟩
    obtain ⟨r107, rfl⟩ := sq (e := e106) (t := 8) hs101
    obtain ⟨r108, rfl⟩ := sq (e := r107) (t := 9) hs102
    obtain ⟨r109, rfl⟩ := sq (e := r108) (t := 10) hs103
    have hz110 := hF104.size
    refine wp_seq_k fun K111 hK111 => rS fun K112 hK112 => sMi rfl (sMs rfl (sV (evLen Try.underlying29 rfl) ?_))
    by_cases hc113 : ((i : Int)) < ((nr_53 : Int))
    · refine sV (evLss true rfl rfl (dT hc113)) (sK hK112 (cT rfl (wp_skip (xN (hK111 _ _ (wp_seq_k fun K114 hK114 => wp_block (wp_seq_k fun K115 hK115 => dBegin (fun _ => False) mixed (fun w116 hE117 hz118 => dMs 0 rfl rfl (dMi 1 rfl rfl ?_)))))))))
      have hR119 := (((((hE62.trans hE67).trans hE74).trans hE80).trans hE92).trans hF104).trans hE117
      have h120 := (hr_53.ext hR119)
      obtain ⟨b121, o122, rfl⟩ := h120.base (by omega)
      refine dV 2 rfl (fun _ _ => evIx i Try.underlying29 sz27 rfl rfl (o122 + i)) ?_
      obtain ⟨⟨A_123, n_123, c_123, l_123⟩, he_123, hp_123, hP_123, hS_123, hb_123⟩ := h120.at_ (i := i) (by omega)
      dsimp only at hp_123 hP_123; have ⟨q1_123, q2_123, q3_123⟩ := hP_123.lkm
      refine dV 3 rfl (fun _ hf => evLoad one27 rfl ((hf.cell (p := ⟨_, _, none⟩) hb_123 (fun h => h)).trans hp_123)) (dMs 4 rfl rfl (dMi 5 rfl rfl ?_))
      have hR125 := hF104.trans hE117
      have h126 := (hr_90.ext hR125)
      obtain ⟨b127, o128, rfl⟩ := h126.base (by omega)
      refine dV 6 rfl (fun _ _ => evIx i Try.underlying29 sz27 rfl rfl (o128 + i)) ?_
      obtain ⟨⟨A_129, n_129, c_129, l_129⟩, he_129, hp_129, hP_129, hS_129, hb_129⟩ := h126.at_ (i := i) (by omega)
      dsimp only at hp_129 hP_129; have ⟨q1_129, q2_129, q3_129⟩ := hP_129.lkm
      refine dV 7 rfl (fun _ hf => evLoad one27 rfl ((hf.cell (p := ⟨_, _, none⟩) hb_129 (fun h => h)).trans hp_129)) (dOp 8 rfl rfl (by kernel_rfl) (oCall rfl call9 (unipoly_Same hP_123 hP_129) rfl ?_))
      rintro _ w132 ⟨gr_131, rfl, hE133, e_131⟩
      refine ⟨(Frm.of_ext hE133), ?_⟩
      have hz134 := hE133.size
      obtain rfl : gr_131 = true := by rw [e_131, polys_get hAB he_123 he_129]; simp
      refine dV 9 rfl (fun _ _ => evNot _ rfl rfl) (dDone (by kernel_rfl) (xN (hK115 _ _ (cF rfl (wp_skip (bN (xN (hK114 _ _ (wp_region_lit (sMi rfl (sV (evAdd (((i : Int)) + 1) rfl rfl wI) (sAi rfl (sDone ?_)))))))))))))
      have hR135 := hE117.trans hE133
      refine again (nr_53 - (i + 1)) (by omega) ⟨(i + 1), rfl, rfl, rfl, cI, (hF104.trans hR135), ?_⟩
      · omega
    · refine sV (evLss false rfl rfl (dF hc113)) (sK hK112 (cF rfl (wp_exit (xE (xE (bE (xN (hK97 _ _ (rS fun K136 hK136 => sAb rfl (sK hK136 (wp_ret (ret1 (.bool true) Try.results3 (resT rfl) ?_))))))))))))
      have hR137 := ((((((((hR34.trans hE38).trans hE45).trans hE55).trans hE62).trans hE67).trans hE74).trans hE80).trans hE92).trans hF104
      exact ⟨(true), rfl, hR137, rfl⟩

end Go.Proofs.Ytbniolgfaeiedaa
