/-
  Walk of package squarefree: the square-free basis.
-/
import Derived.Test.YtbniolgfaeiedaaGreatBs1
import Derived.Test.YtbniolgfaeiedaaGreatShelf
import Derived.Test.YtbniolgfaeiedaaGreatLibD
namespace Go.Proofs.YtbniolgfaeiedaaGreat
open Go.RowKit Go.Gx
theorem squarefree_Basis_1 {w : World} {Sa : Nat → Prop} {Aa : Option Addr} {na ca Ma : Nat} {la : List RI} {Sb : Nat → Prop} {Ab : Option Addr} {nb cb Mb : Nat} {lb : List RI} (ha : PolyR w Sa Aa na ca la Ma) (hb : PolyR w Sb Ab nb cb lb Mb)  : Calls Tryz.prog 34 #[(.slice Aa na ca), (.slice Ab nb cb)] w (Ret fun v w' => ∃ (xr : Int), v = (.int .i64 (xr)) ∧ Ext w w' ∧ (xr = cmpP (trimZ (zs la)) (trimZ (zs lb)))) := by
  have ⟨ka, ja, ma⟩ := ha.lkm
  replace ha := ha.low
  have ⟨kb, jb, mb⟩ := hb.lkm
  replace hb := hb.low
  refine enter Tryz.func34 rfl Tryz.ntmps34 rfl (rS fun K1 hK1 => sAi rfl (sK hK1 (rS fun K2 hK2 => sMs rfl (sMs rfl (sO (oCall rfl call16 (unipoly_Compare ha hb) rfl ?_))))))
  rintro _ w4 ⟨xr_3, rfl, hE5, e_3⟩
  have hz6 := hE5.size
  refine sAi rfl (sK hK2 (wp_ret (ret1 (.int .i64 (xr_3)) Tryz.results34 (resT rfl) ?_)))
  exact ⟨(xr_3), rfl, hE5, e_3⟩
theorem basis_cmp (w : World) (blk : Nat) : CmpOk Tryz.prog 34 w blk 17 := fun W hF a b ha hb => Ret.mono (squarefree_Basis_1 ha.1 hb.1) fun v w' ⟨xr, e1, hE, e2⟩ => ⟨e1.trans (by rw [e2]), hE⟩
theorem sort_polys {w : World} {B n c : Nat} {A : Option Addr} {ps : List PE} (h : OwnL w B 32 A n c ps 17) (hs : ∀ f ∈ ps, SmE f.A f.n f.l) (hn : n ≤ 1000000000) :
    Calls Tryz.prog 33 #[.slice A n c, .func (.func 34) #[] #[]] w (Ret fun v w' => v = .tuple #[] ∧ Frm (fun b => B ≤ b) w w' ∧ ∃ qs, qs.Perm ps ∧ (qs.Pairwise fun a b => ¬ cmpP (trimZ (zs b.l)) (trimZ (zs a.l)) < 0) ∧ PolysR w' (fun _ => True) A n c qs 17) := by
  obtain ⟨g, h1, h2, h3⟩ := h
  rcases Nat.eq_zero_or_pos n with h0 | h0
  · subst h0
    have hps : ps = [] := List.eq_nil_of_length_eq_zero h2.len
    subst hps
    have hS := AnyF.slices_SortFunc_none (P := Tryz.prog) (ρ := Tryz.sortL_ren) { Tryz.sortL with } A c (.func (.func 34) #[] #[]) w
    refine Calls.mono hS ?_
    rintro e w' ⟨rfl, rfl⟩
    exact ⟨_, rfl, rfl, Frm.refl _ _, [], List.Perm.refl _, List.Pairwise.nil, h2.sub fun _ _ _ => trivial⟩
  · rcases h1 with h1 | ⟨sp, hA, hBg, hB⟩
    · omega
    · subst hA
      have hS := sort_calls Tryz.sortL (g := 34) (c := c) (enters_of Tryz.func34 (by kernel_rfl) rfl) hB h2.len h0 (by omega) (fun f hf => ⟨h3 f hf, (hs f hf).2.2⟩) (basis_cmp w g)
      refine Calls.mono hS ?_
      rintro e w' ⟨rfl, qs, hp, hso, hF, hB'⟩
      have hql : qs.length = n := hp.length_eq.trans h2.len
      refine ⟨_, rfl, rfl, hF.mono fun b _ hb => by omega, qs, hp, hso, ⟨by rw [cellsP_len, hql, Nat.mul_one], h2.1.2.1, h2.1.2.2.1, fun _ => ⟨g, 0, rfl, trivial, hB'.lt, fun j v hj => ?_⟩⟩, fun f hf => ((h3 f (hp.mem_iff.1 hf)).frmB hF fun b _ hb e => hb e).sub fun _ _ _ => trivial⟩
      rw [Nat.zero_add]
      refine hB'.at_ ?_
      have hjl : j < (cellsP qs).length := by
        rcases Nat.lt_or_ge j (cellsP qs).length with h5 | h5
        · exact h5
        · rw [List.getElem?_eq_none h5] at hj; cases hj
      rw [List.getElem?_append_left hjl]; exact hj
set_option maxHeartbeats 2000000 in
theorem squarefree_Basis {w : World} {Sl : Nat → Prop} {Al : Option Addr} {nl cl Ml : Nat} {fl : List PE} (hl : PolysR w Sl Al nl cl fl Ml) (hnl : nl ≤ 8) (hMl : Ml ≤ 64) (hle : ∀ x ∈ fl, x.n ≤ 11 ∧ nrm (zs x.l) ≤ 16777216) : Calls Tryz.prog 10 #[(.slice Al nl cl)] w (Ret fun v w' => ∃ (Ar : Option Addr) (nr : Nat) (cr : Nat) (fr : List PE), v = (.slice Ar nr cr) ∧ Ext w w' ∧ PolysR w' (fun _ => True) Ar nr cr fr 17 ∧ (BasisOf (posQ fl) (fr.map fun f => zs f.l)) ∧ ((fr.map fun f => zs f.l).Pairwise fun x y => cmpP x y < 0) ∧ (∀ f ∈ fr, SmE f.A f.n f.l) ∧ (nr ≤ 1000000000)) := by
  have ⟨kl, jl, ml⟩ := hl.lkm; replace hl := hl.low
  refine enter Tryz.func10 rfl Tryz.ntmps10 rfl (rS fun K1 hK1 => sAs rfl (sK hK1 (rS fun K2 hK2 => sAs rfl (sK hK2 (wp_seq_k fun K3 hK3 => rS fun K4 hK4 => sMs rfl (sV (evLen Tryz.underlying25 rfl) (sMi rfl (sK hK4 (wp_block ?_)))))))))
  refine lLoop (fun m e w_ => ∃ (i : Nat) (Ab : Option Addr) (nb : Nat) (cb : Nat) (fb : List PE), m = nl - i ∧ e 3 = (.slice Ab nb cb) ∧ e 8 = (.slice Al nl cl) ∧ e 9 = (.int .i64 ((nl : Int))) ∧ e 10 = (.int .i64 ((i : Int))) ∧ Frm (fun b => w.heap.size ≤ b) w w_ ∧ (i ≤ nl) ∧ (OwnL w_ w.heap.size 32 Ab nb cb fb 17) ∧ (BasisOf (posQ (fl.take i)) (fb.map fun f => zs f.l)) ∧ (∀ f ∈ fb, SmE f.A f.n f.l) ∧ (nb + 1 ≤ 12 ^ i)) (nl - (0)) ?_ ?_
  · refine ⟨(0), (none), (0), (0), ([]), rfl, rfl, rfl, rfl, cI, (Frm.refl _ _), ?_, ?_, ?_, ?_, ?_⟩
    · omega
    · exact OwnL.nil
    · exact BasisOf.nil
    · intro f hf; cases hf
    · decide
  · rintro m5 e13 w6 ⟨i, Ab, nb, cb, fb, hm12, hs7, hs8, hs9, hs10, hF11, hi, hOL, hBa, hsm, hcp⟩
    obtain ⟨r14, rfl⟩ := sq (e := e13) (t := 3) hs7
    obtain ⟨r15, rfl⟩ := sq (e := r14) (t := 8) hs8
    obtain ⟨r16, rfl⟩ := sq (e := r15) (t := 9) hs9
    obtain ⟨r17, rfl⟩ := sq (e := r16) (t := 10) hs10
    have hz18 := hF11.size
    have ⟨kb_, jb_, mb_⟩ := hOL.lkm; have hrd := hOL.read; have hnb8 := pow12_8 hcp (by omega)
    refine rS fun K19 hK19 => ?_
    by_cases hc20 : ((i : Int)) < ((nl : Int))
    · refine sV (evLss true rfl rfl (dT hc20)) (sK hK19 (wp_seq_k fun K21 hK21 => cT rfl (wp_skip (xN (hK21 _ _ (wp_seq_k fun K22 hK22 => wp_block (rS fun K23 hK23 => ?_)))))))
      have h24 := (hl.frmB hF11 q3)
      obtain ⟨b25, o26, rfl⟩ := h24.base (by omega)
      refine sV (evIx i Tryz.underlying25 sz32 rfl rfl (o26 + i)) ?_
      obtain ⟨⟨A_27, n_27, c_27, l_27⟩, he_27, hp_27, hP_27, hS_27, hb_27⟩ := h24.at_ (i := i) (by omega)
      dsimp only at hp_27 hP_27; have ⟨q1_27, q2_27, q3_27⟩ := hP_27.lkm
      have hnb7 : nb + 1 ≤ 35831808 := Nat.le_trans hcp (Nat.le_trans (show 12 ^ i ≤ 12 ^ 7 from Nat.pow_le_pow_right (by decide) (by omega)) (by decide))
      have hx := hle _ (List.mem_of_getElem? he_27); dsimp only at hx
      refine sV (evLoad one32 rfl hp_27) (sAs rfl (sK hK23 (rS fun K29 hK29 => sMs rfl (sO (oCall rfl call19 (unipoly_Degree hP_27 (by omega) (by omega)) rfl ?_)))))
      rintro _ w31 ⟨xr_30, rfl, hE32, e_30⟩
      have hz33 := hE32.size
      by_cases hc34 : xr_30 > 0
      · refine sV (evGtr true rfl rfl (dT hc34)) ?_
        have hF : P (zs l_27) ≠ 0 := dg_pos.2 (by rw [dg_P]; omega)
        refine sK hK29 (cT rfl (rS fun K35 hK35 => sMs rfl ?_))
        have h36 := (hP_27.ext hE32)
        refine sO (oCall rfl call31 (squarefree_Decompose h36 (by omega) (by omega) (by omega)) rfl ?_)
        rintro _ w38 ⟨gu_37, Au_37, nu_37, cu_37, du_37, Ar_37, nr_37, cr_37, fr_37, rfl, hE39, hu_37, hr_37, dc_37, nu2_37, nr2_37, own_37⟩
        have hz40 := hE39.size
        have ⟨lu_37, ku_37, mu_37⟩ := hu_37.lkm
        have ⟨kr_37, jr_37, mr_37⟩ := hr_37.lkm
        refine sV (v := (.tuple #[(.agg #[(.bool gu_37), (.slice Au_37 nu_37 cu_37)]), (.slice Ar_37 nr_37 cr_37)])) (rfl) (sV (v := (.agg #[(.bool gu_37), (.slice Au_37 nu_37 cu_37)])) (rfl) (sV (v := (.slice Ar_37 nr_37 cr_37)) (rfl) ?_))
        have hne := dec_some dc_37 (by omega)
        have hnpos : 0 < nr_37 := by rcases Nat.eq_zero_or_pos nr_37 with h | h; exact absurd (List.eq_nil_of_length_eq_zero (by omega)) hne; exact h
        obtain ⟨pF, spF, rfl, hBpF, hBF, hAF⟩ := own_37.block hnpos
        have ltF := hBF.lt; obtain ⟨ks0, hks⟩ := hBa
        refine sO (oAlloc [(.bool false), (.slice none 0 0)] zero68 rfl (fun g43 w44 hg45 hE46 hz47 hB48 => sO (oStore [(.bool gu_37), (.slice Au_37 nu_37 cu_37)] rfl rfl rfl sz68 rfl hB48 (Nat.le_of_ble_eq_true rfl) (fun w49 hU50 hz51 hB52 => ?_))))
        replace hB52 : Blk w49 g43 68 [(.bool gu_37), (.slice Au_37 nu_37 cu_37)] := hB52
        refine sAs rfl (sK hK35 (wp_region_lit (sMs rfl (sMs rfl ?_))))
        have hR53 := ((hE32.trans hE39).trans hE46).rx hU50
        have h54 := (hrd.frmB hR53 q3)
        have hR55 := hE46.rx hU50
        have hB56 := (hBF.frm hR55 q1)
        have h57 := (hAF.frmB hR55 q3)
        refine sO (oCall rfl call32 (squarefree_refine (PolysR.sub h54 q5) hB56 h57 (by omega) hks (dec_bs dc_37 hF) hsm (dec_sm dc_37 hF hx.2 (by rw [zlen]; omega)) (by omega) (by omega)) rfl ?_)
        rintro _ w59 ⟨Ar_58, nr_58, cr_58, fr_58, gr_58, pr_58, rfl, hE60, hr_58, own_58, hpr_58, bs_58, sm_58, le_58⟩
        have hz61 := hE60.size
        have ⟨kr_58, jr_58, mr_58⟩ := hr_58.lkm
        replace hr_58 := hr_58.low
        refine sAs rfl (sDone (bN (xN (hK22 _ _ (wp_region_lit (sV (evAdd (((i : Int)) + 1) rfl rfl wI) (sMi rfl (sDone ?_))))))))
        have hR63 := hR53.tr hE60
        refine again (nl - (i + 1)) (by omega) ⟨(i + 1), (Ar_58), (nr_58), (cr_58), (fr_58), rfl, rfl, rfl, rfl, cI, (Frm.mono (hF11.tr hR63) q4), ?_, ?_, ?_, ?_, ?_⟩
        · omega
        · exact own_58.ownL (by omega)
        · obtain ⟨ls1, h1⟩ := bs_58; exact basis_yes he_27 (by dsimp only; omega) h1
        · exact sm_58
        · exact Nat.le_trans (by omega) (pow12 hcp)
      · refine sV (evGtr false rfl rfl (dF hc34)) (sK hK29 (cF rfl (wp_skip (bN (xN (hK22 _ _ (wp_region_lit (sV (evAdd (((i : Int)) + 1) rfl rfl wI) (sMi rfl (sDone ?_))))))))))
        have h64 := (hOL.ext hE32)
        refine again (nl - (i + 1)) (by omega) ⟨(i + 1), (Ab), (nb), (cb), (fb), rfl, rfl, rfl, rfl, cI, (hF11.xr hE32), ?_, ?_, ?_, ?_, ?_⟩
        · omega
        · exact h64
        · exact basis_no he_27 (by dsimp only; omega) hBa
        · exact hsm
        · exact pow12_le hcp
    · refine sV (evLss false rfl rfl (dF hc20)) (sK hK19 (wp_seq_k fun K65 hK65 => cF rfl (wp_exit (xE (xE (bE (xN (hK3 _ _ (rS fun K66 hK66 => sMs rfl (sO (oCall rfl call33 (sort_polys hOL hsm (by omega)) rfl ?_)))))))))))
      rintro _ w68 ⟨rfl, hF69, qs_67, hpm_67, hso_67, hP_67⟩
      have hz70 := hF69.size; have ⟨kq_67, jq_67, mq_67⟩ := hP_67.lkm
      refine sK hK66 (rS fun K71 hK71 => sMs rfl (sAs rfl (sK hK71 (wp_ret (ret1 (.slice Ab nb cb) Tryz.results10 (resT rfl) ?_)))))
      have hBz : BasisOf (posQ fl) (fb.map fun f => zs f.l) := by have h := hBa; rw [List.take_of_length_le (by omega)] at h; exact h
      have hBq := hBz.perm (hpm_67.symm.map _)
      have hR72 := hF11.trans hF69
      exact ⟨Ab, nb, cb, qs_67, rfl, (Frm.mono hR72 q4), (PolysR.sub hP_67 fun _ _ _ => trivial), hBq, (strict_of hBq hso_67), (fun f hf => hsm f (hpm_67.mem_iff.1 hf)), (by omega)⟩
end Go.Proofs.YtbniolgfaeiedaaGreat
