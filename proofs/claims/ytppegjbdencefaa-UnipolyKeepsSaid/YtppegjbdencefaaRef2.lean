/-
  Walks of package cylinderref01: digits of bits, products.
-/
import Derived.Test.YtppegjbdencefaaRef1
namespace Go.Proofs.Ytppegjbdencefaa
open Go.RowKit Go.Gx
theorem ref01_To {w : World} {Sb : Nat → Prop} {Ab : Option Addr} {nb cb : Nat} {db : List Nat} (hb : DigR 2 w Sb Ab nb cb db) (hnb : nb ≤ 1099511627776) : Calls Try.prog 102 #[(.slice Ab nb cb)] w (Ret fun v w' => ∃ (Ar : Option Addr) (nr : Nat) (cr : Nat) (dr : List Nat), v = (.slice Ar nr cr) ∧ Ext w w' ∧ NatR w' (fun b => w.heap.size ≤ b) Ar nr cr dr ∧ (val dr = vb 2 db) ∧ (Canon isZ dr) ∧ (nr ≤ (nb + 31) / 32)) := by
  have ⟨lb, kb, mb⟩ := hb.lkm
  replace hb := hb.low
  refine enter Try.func102 rfl Try.ntmps102 rfl (rS fun K1 hK1 => sAs rfl (sK hK1 (rS fun K2 hK2 => sMs rfl (sO (oCall rfl call74 (ref01_Trim hb) rfl ?_)))))
  rintro _ w4 ⟨Ar_3, nr_3, cr_3, dr_3, rfl, hE5, hr_3, e_3, le_3⟩
  have hz6 := hE5.size
  have ⟨lr_3, kr_3, mr_3⟩ := hr_3.lkm
  refine sAs rfl (sK hK2 (rS fun K8 hK8 => sAs rfl (sK hK8 (wp_seq_k fun K9 hK9 => rS fun K10 hK10 => sAi rfl (sK hK10 (wp_block ?_))))))
  refine lLoop (fun m e w_ => ∃ (k : Nat) (L : Nat) (P : List Nat) (Ao : Option Addr) (co : Nat), m = nr_3 - k ∧ e 0 = (.slice Ar_3 nr_3 cr_3) ∧ e 3 = (.slice Ao L co) ∧ e 4 = (.int .i64 ((k : Int))) ∧ Frm (fun b => w4.heap.size ≤ b) w4 w_ ∧ (k ≤ nr_3) ∧ (L = (k + 31) / 32) ∧ (P.length = L) ∧ (∀ d ∈ P, d < BS) ∧ (val P = vb 2 (dr_3.take k)) ∧ (Own w_ w4.heap.size 62 1 Ao L co (P.map u32))) (nr_3 - (0)) ?_ ?_
  · refine ⟨(0), (0), ([]), (none), (0), rfl, rfl, rfl, cI, (Frm.refl _ _), ?_, ?_, ?_, ?_, ?_, ?_⟩
    · omega
    · omega
    · rfl
    · simp
    · simp [val, vb]
    · exact Own.nil
  · rintro m11 e18 w12 ⟨k, L, P, Ao, co, hm17, hs13, hs14, hs15, hF16, hk, hL, hP, hlt, hv, hO⟩
    obtain ⟨r19, rfl⟩ := sq (e := e18) (t := 0) hs13
    obtain ⟨r20, rfl⟩ := sq (e := r19) (t := 3) hs14
    obtain ⟨r21, rfl⟩ := sq (e := r20) (t := 4) hs15
    have hz22 := hF16.size
    refine wp_seq_k fun K23 hK23 => rS fun K24 hK24 => sMi rfl (sMs rfl (sV (evLen Try.underlying29 rfl) ?_))
    by_cases hc25 : ((k : Int)) < ((nr_3 : Int))
    · refine sV (evLss true rfl rfl (dT hc25)) (sK hK24 (cT rfl (wp_skip (xN (hK23 _ _ (wp_seq_k fun K26 hK26 => wp_block (wp_seq_k fun K27 hK27 => rS fun K28 hK28 => sMi rfl (sV (evRem (((k % 32 : Nat) : Int)) rfl rfl (by omega) (remE (by omega) (by omega))) ?_))))))))
      by_cases hc29 : (((k % 32 : Nat) : Int)) = 0
      · refine sV (evEql true rfl rfl (dT hc29)) (sK hK28 (cT rfl (wp_region_lit (sMs rfl (sO (oBuildSlice [(.int .u32 (0))] [[(.int .u32 (0))]] Try.underlying43 inf62 rfl rfl rfl rfl rfl (fun g30 w31 hg32 hE33 hz34 hB35 => ?_)))))))
        replace hB35 : Blk w31 g30 62 [(.int .u32 (0))] := hB35
        have hO36 := (hO.ext hE33)
        refine sO (oApp (B := w4.heap.size) (cs := (P).map u32) Try.underlying43 inf62 rfl (by decide) rfl rfl hO36 hB35 rfl rfl (by omega) (by omega) (by omega) (fun A37 c38 w39 hO40 hF41 _ _ => ?_))
        replace hO40 : Own w39 w4.heap.size 62 1 A37 (L + 1) c38 ((P ++ [0]).map u32) := by rw [List.map_append]; exact hO40
        refine sAs rfl (sK hK27 ?_)
        have hmx := hO40.max; have hcap := hO40.cap
        obtain ⟨g42, sp43, rfl, hg44, hB45, hl46⟩ := hO40.open_ (by omega)
        have hlt3 := hB45.lt
        have hvv : val (P ++ [0]) = vb 2 (dr_3.take k) := by rw [val_snoc_zero]; exact hv
        have hR47 := (hF16.xr hE33).trans hF41
        have h48 := (hr_3.frmB hR47 q3)
        have hsb := to_step hvv h48.2 (by exact lq)
        have hsh := bit_shift (k := k) (s := 32) (m := 31) h48.2 (by omega)
        simp only [show (2 : Nat) ^ 31 = 2147483648 from rfl] at hsh
        refine dBegin (fun b => b = g42) mixed (fun w49 hE50 hz51 => dMs 0 rfl rfl (dMi 1 rfl rfl (dV 2 rfl (fun _ _ => evQuo (((k / 32 : Nat) : Int)) rfl rfl (by omega) (quoEi64 (by omega) (by omega) (by omega))) (dV 3 rfl (fun _ _ => evIx (k / 32) Try.underlying43 sz62 rfl rfl (k / 32)) (dMs 5 rfl rfl (dMi 6 rfl rfl ?_))))))
        have h52 := (h48.ext hE50)
        obtain ⟨b53, o54, rfl⟩ := h52.base (by omega)
        refine dV 7 rfl (fun _ _ => evIx k Try.underlying29 sz3 rfl rfl (o54 + k)) ?_
        have hd55 := h52.lt k
        refine dV 8 rfl (fun _ hf => evLoad one3 rfl ((h52.frm hf q2).cell (by omega))) (dV 9 rfl (fun _ _ => evConv (((dr_3.getD k 0 : Nat) : Int)) Try.underlying3 Try.underlying62 rfl (wU32 (by omega))) (dMi 10 rfl rfl (dV 11 rfl (fun _ _ => evRem (((k % 32 : Nat) : Int)) rfl rfl (by omega) (remE (by omega) (by omega))) (dV 12 rfl (fun _ _ => evConv (((k % 32 : Nat) : Int)) Try.underlying3 Try.underlying90 rfl (wU64 (by omega))) (dV 13 rfl (fun _ _ => evShl (((dr_3.getD k 0 * 2 ^ (k % 32) : Nat) : Int)) rfl rfl (by omega) (shlE32 (by omega) (by omega) (by omega) (by omega))) ?_)))))
        have hB56 := (hB45.ext hE50)
        have hd57 := vgetD_lt (P := P ++ [0]) (i := k / 32) (vlt_snoc hlt (by decide)) (by decide)
        refine dOp 4 rfl rfl (by kernel_rfl) (oEv (v := (.int .u32 ((((P ++ [0]).getD (k / 32) 0 : Nat) : Int)))) (evLoad one62 rfl (hB56.appdig (by exact lq))) rfl ⟨Frm.refl _ _, dV 14 rfl (fun _ _ => evAdd (((((P ++ [0]).getD (k / 32) 0) + (dr_3.getD k 0 * 2 ^ (k % 32)) : Nat) : Int)) rfl rfl (wU32 (by omega))) (dV 15 rfl (fun _ _ => evIx (k / 32) Try.underlying43 sz62 rfl rfl (k / 32)) (dOp 16 rfl rfl (by kernel_rfl) (oStore1 rfl rfl rfl sz62 hB56 (by exact lq) (fun w58 hU59 hz60 hB61 => ?_))))⟩)
        replace hB61 : Blk w58 g42 62 (((P ++ [0]).set (k / 32) (((P ++ [0]).getD (k / 32) 0) + (dr_3.getD k 0 * 2 ^ (k % 32)))).map u32 ++ sp43) := (app_set (ds := P ++ [0]) (i := k / 32) (by exact lq)) ▸ hB61
        refine ⟨hU59, dDone (by kernel_rfl) (bN (xN (hK26 _ _ (wp_region_lit (sMi rfl (sV (evAdd (((k : Int)) + 1) rfl rfl wI) (sAi rfl (sDone ?_))))))))⟩
        have hR62 := ((hE33.rx hF41).xr hE50).tr hU59
        refine again (nr_3 - (k + 1)) (by omega) ⟨(k + 1), (L + 1), ((P ++ [0]).set (k / 32) (((P ++ [0]).getD (k / 32) 0) + (dr_3.getD k 0 * 2 ^ (k % 32)))), ((some ⟨g42, 0, none⟩)), (c38), rfl, rfl, rfl, cI, (Frm.mono (hF16.tr hR62) q4), ?_, ?_, ?_, ?_, ?_, ?_⟩
        · omega
        · omega
        · simp; omega
        · exact vlt_set (vlt_snoc hlt (by decide)) (by show _ < 4294967296; omega)
        · exact hsb.2
        · exact Own.close hg44 hB61 (by simp at hl46 ⊢; omega) (by simp; omega) (by unfold CapMax; omega)
      · refine sV (evEql false rfl rfl (dF hc29)) (sK hK28 (cF rfl (wp_skip (xN (hK27 _ _ ?_)))))
        have hmx := hO.max; have hcap := hO.cap
        obtain ⟨g63, sp64, rfl, hg65, hB66, hl67⟩ := hO.open_ (by omega)
        have hlt3 := hB66.lt
        have hvv : val (P) = vb 2 (dr_3.take k) := hv
        have h68 := (hr_3.frmB hF16 q3)
        have hsb := to_step hvv h68.2 (by exact lq)
        have hsh := bit_shift (k := k) (s := 32) (m := 31) h68.2 (by omega)
        simp only [show (2 : Nat) ^ 31 = 2147483648 from rfl] at hsh
        refine dBegin (fun b => b = g63) mixed (fun w69 hE70 hz71 => dMs 0 rfl rfl (dMi 1 rfl rfl (dV 2 rfl (fun _ _ => evQuo (((k / 32 : Nat) : Int)) rfl rfl (by omega) (quoEi64 (by omega) (by omega) (by omega))) (dV 3 rfl (fun _ _ => evIx (k / 32) Try.underlying43 sz62 rfl rfl (k / 32)) (dMs 5 rfl rfl (dMi 6 rfl rfl ?_))))))
        have h72 := (h68.ext hE70)
        obtain ⟨b73, o74, rfl⟩ := h72.base (by omega)
        refine dV 7 rfl (fun _ _ => evIx k Try.underlying29 sz3 rfl rfl (o74 + k)) ?_
        have hd75 := h72.lt k
        refine dV 8 rfl (fun _ hf => evLoad one3 rfl ((h72.frm hf q2).cell (by omega))) (dV 9 rfl (fun _ _ => evConv (((dr_3.getD k 0 : Nat) : Int)) Try.underlying3 Try.underlying62 rfl (wU32 (by omega))) (dMi 10 rfl rfl (dV 11 rfl (fun _ _ => evRem (((k % 32 : Nat) : Int)) rfl rfl (by omega) (remE (by omega) (by omega))) (dV 12 rfl (fun _ _ => evConv (((k % 32 : Nat) : Int)) Try.underlying3 Try.underlying90 rfl (wU64 (by omega))) (dV 13 rfl (fun _ _ => evShl (((dr_3.getD k 0 * 2 ^ (k % 32) : Nat) : Int)) rfl rfl (by omega) (shlE32 (by omega) (by omega) (by omega) (by omega))) ?_)))))
        have hB76 := (hB66.ext hE70)
        have hd77 := vgetD_lt (P := P) (i := k / 32) hlt (by decide)
        refine dOp 4 rfl rfl (by kernel_rfl) (oEv (v := (.int .u32 (((P.getD (k / 32) 0 : Nat) : Int)))) (evLoad one62 rfl (hB76.appdig (by exact lq))) rfl ⟨Frm.refl _ _, dV 14 rfl (fun _ _ => evAdd ((((P.getD (k / 32) 0) + (dr_3.getD k 0 * 2 ^ (k % 32)) : Nat) : Int)) rfl rfl (wU32 (by omega))) (dV 15 rfl (fun _ _ => evIx (k / 32) Try.underlying43 sz62 rfl rfl (k / 32)) (dOp 16 rfl rfl (by kernel_rfl) (oStore1 rfl rfl rfl sz62 hB76 (by exact lq) (fun w78 hU79 hz80 hB81 => ?_))))⟩)
        replace hB81 : Blk w78 g63 62 (((P).set (k / 32) ((P.getD (k / 32) 0) + (dr_3.getD k 0 * 2 ^ (k % 32)))).map u32 ++ sp64) := (app_set (ds := P) (i := k / 32) (by exact lq)) ▸ hB81
        refine ⟨hU79, dDone (by kernel_rfl) (bN (xN (hK26 _ _ (wp_region_lit (sMi rfl (sV (evAdd (((k : Int)) + 1) rfl rfl wI) (sAi rfl (sDone ?_))))))))⟩
        have hR82 := hE70.rx hU79
        refine again (nr_3 - (k + 1)) (by omega) ⟨(k + 1), (L), ((P).set (k / 32) ((P.getD (k / 32) 0) + (dr_3.getD k 0 * 2 ^ (k % 32)))), ((some ⟨g63, 0, none⟩)), (co), rfl, rfl, rfl, cI, (Frm.mono (hF16.tr hR82) q4), ?_, ?_, ?_, ?_, ?_, ?_⟩
        · omega
        · omega
        · simp; omega
        · exact vlt_set hlt (by show _ < 4294967296; omega)
        · exact hsb.2
        · exact Own.close hg65 hB81 (by simp at hl67 ⊢; omega) (by simp; omega) (by unfold CapMax; omega)
    · refine sV (evLss false rfl rfl (dF hc25)) (sK hK24 (cF rfl (wp_exit (xE (xE (bE (xN (hK9 _ _ (rS fun K83 hK83 => sMs rfl (sAs rfl (sK hK83 (wp_ret (ret1 (.slice Ao L co) Try.results102 (resT rfl) ?_)))))))))))))
      have hR84 := hE5.rx hF16
      exact ⟨Ao, L, co, P, rfl, (Frm.mono hR84 q4), (NatR.sub (Own.natR hO hlt) q5), (by rw [hv, vb_all dr_3 (by omega), e_3, vb_trim]), (to_canon (bs := dr_3) (by rw [e_3]; exact canon_trim _ _) rfl (by omega) hlt (by omega) hv), (by omega)⟩

theorem ref01_Is {w : World} {Sa : Nat → Prop} {Aa : Option Addr} {na ca : Nat} {da : List Nat} {Sb : Nat → Prop} {Ab : Option Addr} {nb cb : Nat} {db : List Nat} (ha : NatR w Sa Aa na ca da) (hb : DigR 2 w Sb Ab nb cb db) (hnb : nb ≤ 1099511627776) (hc : Canon isZ da) (hv : val da = vb 2 db) : Calls Try.prog 81 #[(.slice Aa na ca), (.slice Ab nb cb)] w (Ret fun v w' => ∃ (gr : Bool), v = (.bool gr) ∧ Ext w w' ∧ (gr = true)) := by
  have ⟨la, ka, ma⟩ := ha.lkm
  replace ha := ha.low
  have ⟨lb, kb, mb⟩ := hb.lkm
  replace hb := hb.low
  refine enter Try.func81 rfl Try.ntmps81 rfl (rS fun K1 hK1 => sAb rfl (sK hK1 (rS fun K2 hK2 => sMs rfl (sO (oCall rfl call102 (ref01_To hb (by omega)) rfl ?_)))))
  rintro _ w4 ⟨Ar_3, nr_3, cr_3, dr_3, rfl, hE5, hr_3, v_3, cn_3, le_3⟩
  have hz6 := hE5.size
  have ⟨lr_3, kr_3, mr_3⟩ := hr_3.lkm
  have hEq := canon_val_inj ha.2 hr_3.2 hc cn_3 (hv.trans v_3.symm)
  have hln : na = nr_3 := by rw [← la, ← lr_3, hEq]
  refine sAs rfl (sK hK2 (wp_seq_k fun K8 hK8 => rS fun K9 hK9 => sMs rfl (sV (evLen Try.underlying43 rfl) (sMs rfl (sV (evLen Try.underlying43 rfl) (sV (evNeq false rfl rfl (dF (by omega))) (sK hK9 (cF rfl (wp_skip (xN (hK8 _ _ (wp_seq_k fun K10 hK10 => rS fun K11 hK11 => sAi rfl (sK hK11 (wp_block ?_))))))))))))))
  refine lLoop (fun m e w_ => ∃ (k : Nat), m = na - k ∧ e 0 = (.slice Aa na ca) ∧ e 5 = (.slice Ar_3 nr_3 cr_3) ∧ e 6 = (.int .i64 ((k : Int))) ∧ Frm (fun b => False) w4 w_ ∧ (k ≤ na)) (na - (0)) ?_ ?_
  · refine ⟨(0), rfl, rfl, rfl, cI, (Frm.refl _ _), ?_⟩
    · omega
  · rintro m12 e19 w13 ⟨k, hm18, hs14, hs15, hs16, hF17, hk⟩
    obtain ⟨r20, rfl⟩ := sq (e := e19) (t := 0) hs14
    obtain ⟨r21, rfl⟩ := sq (e := r20) (t := 5) hs15
    obtain ⟨r22, rfl⟩ := sq (e := r21) (t := 6) hs16
    have hz23 := hF17.size
    refine wp_seq_k fun K24 hK24 => rS fun K25 hK25 => sMi rfl (sMs rfl (sV (evLen Try.underlying43 rfl) ?_))
    by_cases hc26 : ((k : Int)) < ((na : Int))
    · refine sV (evLss true rfl rfl (dT hc26)) (sK hK25 (cT rfl (wp_skip (xN (hK24 _ _ (wp_seq_k fun K27 hK27 => wp_block (wp_seq_k fun K28 hK28 => dBegin (fun _ => False) mixed (fun w29 hE30 hz31 => dMs 0 rfl rfl (dMi 1 rfl rfl ?_)))))))))
      have hR32 := (hE5.trans hF17).trans hE30
      have h33 := (ha.ext hR32)
      obtain ⟨b34, o35, rfl⟩ := h33.base (by omega)
      refine dV 2 rfl (fun _ _ => evIx k Try.underlying43 sz62 rfl rfl (o35 + k)) ?_
      have hd36 := h33.lt k
      refine dV 3 rfl (fun _ hf => evLoad one62 rfl ((h33.ext hf).cell (by omega))) (dMs 4 rfl rfl (dMi 5 rfl rfl ?_))
      have hR37 := hF17.trans hE30
      have h38 := (hr_3.ext hR37)
      obtain ⟨b39, o40, rfl⟩ := h38.base (by omega)
      refine dV 6 rfl (fun _ _ => evIx k Try.underlying43 sz62 rfl rfl (o40 + k)) ?_
      have hd41 := h38.lt k
      refine dV 7 rfl (fun _ hf => evLoad one62 rfl ((h38.ext hf).cell (by omega))) (dV 8 rfl (fun _ _ => evNeq false rfl rfl (dF (by rw [hEq]; simp))) (dDone (by kernel_rfl) (xN (hK28 _ _ (cF rfl (wp_skip (bN (xN (hK27 _ _ (wp_region_lit (sMi rfl (sV (evAdd (((k : Int)) + 1) rfl rfl wI) (sAi rfl (sDone (again (na - (k + 1)) (by omega) ⟨(k + 1), rfl, rfl, rfl, cI, (hF17.trans hE30), ?_⟩)))))))))))))))
      · omega
    · refine sV (evLss false rfl rfl (dF hc26)) (sK hK25 (cF rfl (wp_exit (xE (xE (bE (xN (hK10 _ _ (rS fun K42 hK42 => sAb rfl (sK hK42 (wp_ret (ret1 (.bool true) Try.results81 (resT rfl) ?_))))))))))))
      have hR43 := hE5.trans hF17
      exact ⟨(true), rfl, hR43, rfl⟩

theorem ref01_words {w : World} {Sb : Nat → Prop} {Ab : Option Addr} {nb cb : Nat} {db : List Nat} (hb : DigR 2 w Sb Ab nb cb db) (hnb : nb ≤ 1099511627776) : Calls Try.prog 117 #[(.slice Ab nb cb)] w (Ret fun v w' => ∃ (Ar : Option Addr) (nr : Nat) (cr : Nat) (dr : List Nat), v = (.slice Ar nr cr) ∧ Ext w w' ∧ DigR 32768 w' (fun b => w.heap.size ≤ b) Ar nr cr dr ∧ (vb 32768 dr = vb 2 db) ∧ (nr = (nb + 14) / 15) ∧ (Own w' w.heap.size 3 1 Ar nr cr (dr.map i64n))) := by
  have ⟨lb, kb, mb⟩ := hb.lkm
  replace hb := hb.low
  refine enter Try.func117 rfl Try.ntmps117 rfl (rS fun K1 hK1 => sAs rfl (sK hK1 (rS fun K2 hK2 => sMs rfl (sV (evLen Try.underlying29 rfl) (sV (evAdd (((nb : Int)) + 14) rfl rfl wI) (sV (evQuo ((((nb + 14) / 15 : Nat) : Int)) rfl rfl (by omega) (quoEi64 (by omega) (by omega) (by omega))) (sO (oMake1 ((nb + 14) / 15) Try.underlying29 inf3 rfl cI cI (by omega) (by omega) (fun g3 w4 hg5 hE6 hz7 hB8 => ?_)))))))))
  have hB9 : Blk w4 g3 3 (((List.replicate ((nb + 14) / 15) 0)).map i64n) := by rw [List.map_replicate]; exact hB8
  refine sAs rfl (sK hK2 (wp_seq_k fun K10 hK10 => rS fun K11 hK11 => sAi rfl (sK hK11 (wp_block ?_))))
  refine lLoop (fun m e w_ => ∃ (k : Nat) (P : List Nat), m = nb - k ∧ e 0 = (.slice Ab nb cb) ∧ e 3 = (.slice (some ⟨g3, 0, none⟩) ((nb + 14) / 15) ((nb + 14) / 15)) ∧ e 4 = (.int .i64 ((k : Int))) ∧ Frm (fun b => b = g3) w4 w_ ∧ Blk w_ g3 3 (P.map i64n) ∧ (k ≤ nb) ∧ (P.length = (nb + 14) / 15) ∧ (∀ d ∈ P, d < 32768) ∧ (vb 32768 P = vb 2 (db.take k))) (nb - (0)) ?_ ?_
  · refine ⟨(0), (List.replicate ((nb + 14) / 15) 0), rfl, rfl, rfl, cI, (Frm.refl _ _), ?_, ?_, ?_, ?_, ?_⟩
    · exact hB9
    · omega
    · simp
    · exact vlt_zeros (by decide) _
    · simp [vb, vb_zeros]
  · rintro m12 e20 w13 ⟨k, P, hm19, hs14, hs15, hs16, hF17, hB18, hk, hP, hlt, hv⟩
    obtain ⟨r21, rfl⟩ := sq (e := e20) (t := 0) hs14
    obtain ⟨r22, rfl⟩ := sq (e := r21) (t := 3) hs15
    obtain ⟨r23, rfl⟩ := sq (e := r22) (t := 4) hs16
    have hz24 := hF17.size
    refine wp_seq_k fun K25 hK25 => rS fun K26 hK26 => sMi rfl (sMs rfl (sV (evLen Try.underlying29 rfl) ?_))
    by_cases hc27 : ((k : Int)) < ((nb : Int))
    · refine sV (evLss true rfl rfl (dT hc27)) (sK hK26 (cT rfl (wp_skip (xN (hK25 _ _ (wp_seq_k fun K28 hK28 => wp_block ?_))))))
      have hsb := word_step (s := 15) hv hb.2 (by omega)
      have hsh := bit_shift (k := k) (s := 15) (m := 14) hb.2 (by omega)
      simp only [show (2 : Nat) ^ 14 = 16384 from rfl] at hsh
      refine dBegin (fun b => b = g3) mixed (fun w29 hE30 hz31 => dMs 0 rfl rfl (dMi 1 rfl rfl (dV 2 rfl (fun _ _ => evQuo (((k / 15 : Nat) : Int)) rfl rfl (by omega) (quoEi64 (by omega) (by omega) (by omega))) (dV 3 rfl (fun _ _ => evIx (k / 15) Try.underlying29 sz3 rfl rfl (k / 15)) (dMs 5 rfl rfl (dMi 6 rfl rfl ?_))))))
      have hR32 := (hE6.rx hF17).xr hE30
      have h33 := (hb.frmB hR32 q3)
      obtain ⟨b34, o35, rfl⟩ := h33.base (by omega)
      refine dV 7 rfl (fun _ _ => evIx k Try.underlying29 sz3 rfl rfl (o35 + k)) ?_
      have hd36 := h33.lt k
      refine dV 8 rfl (fun _ hf => evLoad one3 rfl ((h33.frm hf q2).cell (by omega))) (dMi 9 rfl rfl (dV 10 rfl (fun _ _ => evRem (((k % 15 : Nat) : Int)) rfl rfl (by omega) (remE (by omega) (by omega))) (dV 11 rfl (fun _ _ => evConv (((k % 15 : Nat) : Int)) Try.underlying3 Try.underlying90 rfl (wU64 (by omega))) (dV 12 rfl (fun _ _ => evShl (((db.getD k 0 * 2 ^ (k % 15) : Nat) : Int)) rfl rfl (by omega) (shlE64 (by omega) (by omega) (by omega) (by omega))) ?_))))
      have hB37 := (hB18.ext hE30)
      have hd38 := vgetD_lt (P := P) (i := k / 15) hlt (by decide)
      refine dOp 4 rfl rfl (by kernel_rfl) (oEv (v := (.int .i64 (((P.getD (k / 15) 0 : Nat) : Int)))) (evLoad one3 rfl (hB37.digi (by exact lq))) rfl ⟨Frm.refl _ _, dV 13 rfl (fun _ _ => evAdd ((((P.getD (k / 15) 0 : Nat) : Int)) + (((db.getD k 0 * 2 ^ (k % 15) : Nat) : Int))) rfl rfl wI) (dV 14 rfl (fun _ _ => evIx (k / 15) Try.underlying29 sz3 rfl rfl (k / 15)) (dOp 15 rfl rfl (by kernel_rfl) (oStore1 rfl (congrArg (Value.int .i64) (by omega : _ = (((P.getD (k / 15) 0) + (db.getD k 0 * 2 ^ (k % 15)) : Nat) : Int))) rfl sz3 hB37 (by exact lq) (fun w39 hU40 hz41 hB42 => ?_))))⟩)
      replace hB42 : Blk w39 g3 3 (((P).set (k / 15) ((P.getD (k / 15) 0) + (db.getD k 0 * 2 ^ (k % 15)))).map i64n) := by rw [List.map_set]; exact hB42
      refine ⟨hU40, dDone (by kernel_rfl) (bN (xN (hK28 _ _ (wp_region_lit (sMi rfl (sV (evAdd (((k : Int)) + 1) rfl rfl wI) (sAi rfl (sDone ?_))))))))⟩
      have hR43 := hE30.rx hU40
      refine again (nb - (k + 1)) (by omega) ⟨(k + 1), ((P).set (k / 15) ((P.getD (k / 15) 0) + (db.getD k 0 * 2 ^ (k % 15)))), rfl, rfl, rfl, cI, (hF17.trans hR43), ?_, ?_, ?_, ?_, ?_⟩
      · exact hB42
      · omega
      · simp [hP]
      · exact vlt_set hlt (by omega)
      · exact hsb.2
    · refine sV (evLss false rfl rfl (dF hc27)) (sK hK26 (cF rfl (wp_exit (xE (xE (bE (xN (hK10 _ _ (rS fun K44 hK44 => sMs rfl (sAs rfl (sK hK44 (wp_ret (ret1 (.slice (some ⟨g3, 0, none⟩) ((nb + 14) / 15) ((nb + 14) / 15)) Try.results117 (resT rfl) ?_)))))))))))))
      have h45 : DigR 32768 w13 (fun b => b = g3) (some ⟨g3, 0, none⟩) ((nb + 14) / 15) ((nb + 14) / 15) (P) := DigR.of_blk hB18 rfl hlt (by exact lq) (by omega) (by unfold CapMax; omega)
      have hR46 := hE6.rx hF17
      exact ⟨(some ⟨g3, 0, none⟩), ((nb + 14) / 15), ((nb + 14) / 15), P, rfl, (Frm.mono hR46 q4), (DigR.sub h45 q5), (by rw [hv, vb_all db (by omega)]), (by omega), (Own.whole (by omega) hB18 (by simp; omega) (by unfold CapMax; omega))⟩

theorem ref01_bits {w : World} {Sw : Nat → Prop} {Aw : Option Addr} {nw cw : Nat} {dw : List Nat} (hw : DigR 32768 w Sw Aw nw cw dw) (hnw : nw ≤ 1099511627776) : Calls Try.prog 118 #[(.slice Aw nw cw)] w (Ret fun v w' => ∃ (Ar : Option Addr) (nr : Nat) (cr : Nat) (dr : List Nat), v = (.slice Ar nr cr) ∧ Ext w w' ∧ DigR 2 w' (fun b => w.heap.size ≤ b) Ar nr cr dr ∧ (vb 2 dr = vb 32768 dw) ∧ (Canon isZ dr) ∧ (nr ≤ 15 * nw)) := by
  have ⟨lw, kw, mw⟩ := hw.lkm
  replace hw := hw.low
  refine enter Try.func118 rfl Try.ntmps118 rfl (rS fun K1 hK1 => sAs rfl (sK hK1 (rS fun K2 hK2 => sMs rfl (sV (evLen Try.underlying29 rfl) (sV (evMul (((15 * nw : Nat) : Int)) rfl rfl (wI64 (by omega))) (sO (oMake1 (15 * nw) Try.underlying29 inf3 rfl cI cI (by omega) (by omega) (fun g3 w4 hg5 hE6 hz7 hB8 => ?_))))))))
  have hB9 : Blk w4 g3 3 (((List.replicate (15 * nw) 0)).map i64n) := by rw [List.map_replicate]; exact hB8
  refine sAs rfl (sK hK2 (wp_seq_k fun K10 hK10 => rS fun K11 hK11 => sAi rfl (sK hK11 (wp_block ?_))))
  refine lLoop (fun m e w_ => ∃ (k : Nat) (P : List Nat), m = 15 * nw - k ∧ e 0 = (.slice Aw nw cw) ∧ e 3 = (.slice (some ⟨g3, 0, none⟩) (15 * nw) (15 * nw)) ∧ e 4 = (.int .i64 ((k : Int))) ∧ Frm (fun b => b = g3) w4 w_ ∧ Blk w_ g3 3 ((P ++ List.replicate (15 * nw - k) 0).map i64n) ∧ (k ≤ 15 * nw) ∧ (P.length = k) ∧ (∀ d ∈ P, d < 2) ∧ (vb 2 P = vb 32768 dw % 2 ^ k)) (15 * nw - (0)) ?_ ?_
  · refine ⟨(0), ([]), rfl, rfl, rfl, cI, (Frm.refl _ _), ?_, ?_, ?_, ?_, ?_⟩
    · simpa using hB9
    · omega
    · rfl
    · simp
    · simp [vb, Nat.mod_one]
  · rintro m12 e20 w13 ⟨k, P, hm19, hs14, hs15, hs16, hF17, hB18, hk, hP, hlt, hv⟩
    obtain ⟨r21, rfl⟩ := sq (e := e20) (t := 0) hs14
    obtain ⟨r22, rfl⟩ := sq (e := r21) (t := 3) hs15
    obtain ⟨r23, rfl⟩ := sq (e := r22) (t := 4) hs16
    have hz24 := hF17.size
    refine wp_seq_k fun K25 hK25 => rS fun K26 hK26 => sMi rfl (sMs rfl (sV (evLen Try.underlying29 rfl) ?_))
    by_cases hc27 : ((k : Int)) < (((15 * nw : Nat) : Int))
    · refine sV (evLss true rfl rfl (dT hc27)) (sK hK26 (cT rfl (wp_skip (xN (hK25 _ _ (wp_seq_k fun K28 hK28 => wp_block (wp_region_lit (sMs rfl (sMi rfl (sMs rfl (sMi rfl (sV (evQuo (((k / 15 : Nat) : Int)) rfl rfl (by omega) (quoEi64 (by omega) (by omega) (by omega))) ?_))))))))))))
      have hR29 := hE6.rx hF17
      have h30 := (hw.frmB hR29 q3)
      obtain ⟨b31, o32, rfl⟩ := h30.base (by omega)
      refine sV (evIx (k / 15) Try.underlying29 sz3 rfl rfl (o32 + (k / 15))) ?_
      have hd33 := h30.lt (k / 15)
      refine sV (evLoad one3 rfl (h30.cell (by omega))) (sMi rfl (sV (evRem (((k % 15 : Nat) : Int)) rfl rfl (by omega) (remE (by omega) (by omega))) (sV (evConv (((k % 15 : Nat) : Int)) Try.underlying3 Try.underlying90 rfl (wU64 (by omega))) (sV (evShr ((((dw.getD (k / 15) 0) / 2 ^ (k % 15) : Nat) : Int)) rfl rfl (by omega) (shrE (x := dw.getD (k / 15) 0) (s := k % 15) (by omega) (by omega) (by show _ ≤ 64; omega))) (sV (evRem (((((dw.getD (k / 15) 0) / 2 ^ (k % 15)) % 2 : Nat) : Int)) rfl rfl (by omega) (remE (by omega) (by omega))) (sV (evIx k Try.underlying29 sz3 rfl rfl k) (sO (oStore1 rfl rfl rfl sz3 hB18 (by exact lq) (fun w34 hU35 hz36 hB37 => ?_)))))))))
      replace hB37 : Blk w34 g3 3 (((P ++ [((dw.getD (k / 15) 0) / 2 ^ (k % 15)) % 2]) ++ List.replicate (15 * nw - (k + 1)) 0).map i64n) := by rw [← (fill_set2 hP (by omega) : (P ++ List.replicate (15 * nw - k) 0).set k (((dw.getD (k / 15) 0) / 2 ^ (k % 15)) % 2) = (P ++ [((dw.getD (k / 15) 0) / 2 ^ (k % 15)) % 2]) ++ List.replicate (15 * nw - (k + 1)) 0), List.map_set]; exact hB37
      refine sDone (bN (xN (hK28 _ _ (wp_region_lit (sMi rfl (sV (evAdd (((k : Int)) + 1) rfl rfl wI) (sAi rfl (sDone (again (15 * nw - (k + 1)) (by omega) ⟨(k + 1), (P ++ [((dw.getD (k / 15) 0) / 2 ^ (k % 15)) % 2]), rfl, rfl, rfl, cI, (hF17.trans hU35), ?_, ?_, ?_, ?_, ?_⟩)))))))))
      · exact hB37
      · omega
      · simp [hP]
      · exact vlt_snoc hlt (by omega)
      · exact bits_step hv hP (bits_bit hw.2 k)
    · refine sV (evLss false rfl rfl (dF hc27)) (sK hK26 (cF rfl (wp_exit (xE (xE (bE (xN (hK10 _ _ (rS fun K38 hK38 => sMs rfl ?_)))))))))
      have h39 : DigR 2 w13 (fun b => b = g3) (some ⟨g3, 0, none⟩) (15 * nw) (15 * nw) (P ++ List.replicate (15 * nw - k) 0) := DigR.of_blk hB18 rfl (vlt_fill (by decide) hlt) (by exact lq) (by omega) (by unfold CapMax; omega)
      refine sO (oCall rfl call74 (ref01_Trim h39) rfl ?_)
      rintro _ w41 ⟨Ar_40, nr_40, cr_40, dr_40, rfl, hE42, hr_40, e_40, le_40⟩
      have hz43 := hE42.size
      have ⟨lr_40, kr_40, mr_40⟩ := hr_40.lkm
      refine sAs rfl (sK hK38 (wp_ret (ret1 (.slice Ar_40 nr_40 cr_40) Try.results118 (resT rfl) ?_)))
      have hR45 := (hE6.rx hF17).xr hE42
      exact ⟨Ar_40, nr_40, cr_40, dr_40, rfl, (Frm.mono hR45 q4), (DigR.sub hr_40 q5), (by rw [e_40, vb_trim]; exact bits_end hw.2 lw (by omega) hv), (by rw [e_40]; exact canon_trim _ _), (by omega)⟩

set_option maxHeartbeats 1000000 in
theorem ref01_Mul {w : World} {Sa : Nat → Prop} {Aa : Option Addr} {na ca : Nat} {da : List Nat} {Sb : Nat → Prop} {Ab : Option Addr} {nb cb : Nat} {db : List Nat} (ha : DigR 2 w Sa Aa na ca da) (hb : DigR 2 w Sb Ab nb cb db) (hna : na ≤ 1073741824) (hnb : nb ≤ 1073741824) : Calls Try.prog 97 #[(.slice Aa na ca), (.slice Ab nb cb)] w (Ret fun v w' => ∃ (Ar : Option Addr) (nr : Nat) (cr : Nat) (dr : List Nat), v = (.slice Ar nr cr) ∧ Ext w w' ∧ DigR 2 w' (fun b => w.heap.size ≤ b) Ar nr cr dr ∧ (vb 2 dr = vb 2 da * vb 2 db) ∧ (Canon isZ dr) ∧ (nr ≤ na + nb)) := by
  have ⟨la, ka, ma⟩ := ha.lkm
  replace ha := ha.low
  have ⟨lb, kb, mb⟩ := hb.lkm
  replace hb := hb.low
  refine enter Try.func97 rfl Try.ntmps97 rfl (rS fun K1 hK1 => sAs rfl (sK hK1 (rS fun K2 hK2 => sMs rfl (sO (oCall rfl call117 (ref01_words ha (by omega)) rfl ?_)))))
  rintro _ w4 ⟨Ar_3, nr_3, cr_3, dr_3, rfl, hE5, hr_3, v_3, ln_3, ow_3⟩
  have hz6 := hE5.size
  have ⟨lr_3, kr_3, mr_3⟩ := hr_3.lkm
  refine sMs rfl ?_
  have h8 := (hb.ext hE5)
  refine sO (oCall rfl call117 (ref01_words h8 (by omega)) rfl ?_)
  rintro _ w10 ⟨Ar_9, nr_9, cr_9, dr_9, rfl, hE11, hr_9, v_9, ln_9, ow_9⟩
  have hz12 := hE11.size
  have ⟨lr_9, kr_9, mr_9⟩ := hr_9.lkm
  refine sAs rfl (sAs rfl (sK hK2 (rS fun K14 hK14 => sMs rfl (sV (evLen Try.underlying29 rfl) (sMs rfl (sV (evLen Try.underlying29 rfl) (sV (evAdd (((nr_3 : Int)) + ((nr_9 : Int))) rfl rfl wI) (sO (oMake1 (nr_3 + nr_9) Try.underlying29 inf3 rfl cI cI (by omega) (by omega) (fun g15 w16 hg17 hE18 hz19 hB20 => ?_))))))))))
  have hB21 : Blk w16 g15 3 (((List.replicate (nr_3 + nr_9) 0)).map i64n) := by rw [List.map_replicate]; exact hB20
  refine sAs rfl (sK hK14 (wp_seq_k fun K22 hK22 => rS fun K23 hK23 => sAi rfl (sK hK23 (wp_block ?_))))
  refine lLoop (fun m e w_ => ∃ (i : Nat) (Q : List Nat), m = nr_3 - i ∧ e 5 = (.slice Ar_3 nr_3 cr_3) ∧ e 6 = (.slice Ar_9 nr_9 cr_9) ∧ e 7 = (.slice (some ⟨g15, 0, none⟩) (nr_3 + nr_9) (nr_3 + nr_9)) ∧ e 8 = (.int .i64 ((i : Int))) ∧ Frm (fun b => b = g15) w16 w_ ∧ Blk w_ g15 3 ((Q ++ List.replicate (nr_3 - i) 0).map i64n) ∧ (i ≤ nr_3) ∧ (Q.length = i + nr_9) ∧ (∀ d ∈ Q, d < 32768) ∧ (vb 32768 Q = vb 32768 (dr_3.take i) * vb 32768 dr_9)) (nr_3 - (0)) ?_ ?_
  · refine ⟨(0), (List.replicate nr_9 0), rfl, rfl, rfl, rfl, cI, (Frm.refl _ _), ?_, ?_, ?_, ?_, ?_⟩
    · rw [List.replicate_append_replicate, show nr_9 + (nr_3 - 0) = nr_3 + nr_9 by omega]; exact hB21
    · omega
    · simp
    · exact vlt_zeros (by decide) _
    · simp [vb, vb_zeros]
  · rintro m24 e33 w25 ⟨i, Q, hm32, hs26, hs27, hs28, hs29, hF30, hB31, hi, hQ, hQt, hv⟩
    obtain ⟨r34, rfl⟩ := sq (e := e33) (t := 5) hs26
    obtain ⟨r35, rfl⟩ := sq (e := r34) (t := 6) hs27
    obtain ⟨r36, rfl⟩ := sq (e := r35) (t := 7) hs28
    obtain ⟨r37, rfl⟩ := sq (e := r36) (t := 8) hs29
    have hz38 := hF30.size
    refine wp_seq_k fun K39 hK39 => rS fun K40 hK40 => sMi rfl (sMs rfl (sV (evLen Try.underlying29 rfl) ?_))
    by_cases hc41 : ((i : Int)) < ((nr_3 : Int))
    · refine sV (evLss true rfl rfl (dT hc41)) (sK hK40 (cT rfl (wp_skip (xN (hK39 _ _ (wp_seq_k fun K42 hK42 => wp_block (rS fun K43 hK43 => sAi rfl (sK hK43 (wp_seq_k fun K44 hK44 => rS fun K45 hK45 => sAi rfl (sK hK45 (wp_block ?_)))))))))))
      refine lLoop (fun m e w_ => ∃ (j : Nat) (R : List Nat) (cy : Nat), m = nr_9 - j ∧ e 5 = (.slice Ar_3 nr_3 cr_3) ∧ e 6 = (.slice Ar_9 nr_9 cr_9) ∧ e 7 = (.slice (some ⟨g15, 0, none⟩) (nr_3 + nr_9) (nr_3 + nr_9)) ∧ e 8 = (.int .i64 ((i : Int))) ∧ e 9 = (.int .i64 ((cy : Int))) ∧ e 10 = (.int .i64 ((j : Int))) ∧ Frm (fun b => b = g15) w25 w_ ∧ Blk w_ g15 3 ((R ++ Q.drop (i + j) ++ List.replicate (nr_3 - i) 0).map i64n) ∧ (j ≤ nr_9) ∧ (R.length = i + j) ∧ (∀ d ∈ R, d < 32768) ∧ (cy < 32768) ∧ (vb 32768 R + 32768 ^ (i + j) * cy = vb 32768 (Q.take (i + j)) + 32768 ^ i * (dr_3.getD i 0 * vb 32768 (dr_9.take j)))) (nr_9 - (0)) ?_ ?_
      · refine ⟨(0), (Q.take i), (0), rfl, rfl, rfl, rfl, rfl, cI, cI, (Frm.refl _ _), ?_, ?_, ?_, ?_, ?_, ?_⟩
        · rw [Nat.add_zero, List.take_append_drop]; exact hB31
        · omega
        · simp [hQ]
        · exact fun d hd => hQt d (List.mem_of_mem_take hd)
        · omega
        · simp [vb]
      · rintro m46 e57 w47 ⟨j, R, cy, hm56, hs48, hs49, hs50, hs51, hs52, hs53, hF54, hB55, hj, hR, hRt, hcy, hw⟩
        obtain ⟨r58, rfl⟩ := sq (e := e57) (t := 5) hs48
        obtain ⟨r59, rfl⟩ := sq (e := r58) (t := 6) hs49
        obtain ⟨r60, rfl⟩ := sq (e := r59) (t := 7) hs50
        obtain ⟨r61, rfl⟩ := sq (e := r60) (t := 8) hs51
        obtain ⟨r62, rfl⟩ := sq (e := r61) (t := 9) hs52
        obtain ⟨r63, rfl⟩ := sq (e := r62) (t := 10) hs53
        have hz64 := hF54.size
        refine wp_seq_k fun K65 hK65 => rS fun K66 hK66 => sMi rfl (sMs rfl (sV (evLen Try.underlying29 rfl) ?_))
        by_cases hc67 : ((j : Int)) < ((nr_9 : Int))
        · refine sV (evLss true rfl rfl (dT hc67)) (sK hK66 (cT rfl (wp_skip (xN (hK65 _ _ (wp_seq_k fun K68 hK68 => wp_block (wp_seq_k fun K69 hK69 => ?_)))))))
          have hR70 := ((hE11.trans hE18).rx hF30).trans hF54
          have h71 := (hr_3.frmB hR70 q3)
          have hR72 := (hE18.rx hF30).trans hF54
          have h73 := (hr_9.frmB hR72 q3)
          have hq := mid_get (Z := List.replicate (nr_3 - i) 0) hR (show i + j < Q.length by omega)
          have hqq := vgetD_lt (i := i + j) hQt (by decide)
          have hxy := mul15_le (vgetD_lt (i := i) h71.2 (by decide)) (vgetD_lt (i := j) h73.2 (by decide))
          refine dBegin (fun _ => False) mixed (fun w74 hE75 hz76 => dMs 0 rfl rfl (dMi 1 rfl rfl (dMi 2 rfl rfl (dV 3 rfl (fun _ _ => evAdd (((i : Int)) + ((j : Int))) rfl rfl wI) (dV 4 rfl (fun _ _ => evIx (i + j) Try.underlying29 sz3 rfl rfl (i + j)) ?_)))))
          have hB77 := (hB55.ext hE75)
          have hd78 := vgetD_lt (P := R ++ Q.drop (i + j) ++ List.replicate (nr_3 - i) 0) (i := i + j) (vlt_mid (by decide) hRt hQt) (by decide)
          refine dV 5 rfl (fun _ hf => evLoad one3 rfl ((hB77.ext hf).digi (by exact lq))) ?_
          generalize hq39 : (R ++ Q.drop (i + j) ++ List.replicate (nr_3 - i) 0).getD (i + j) 0 = q39 at *
          refine dMs 6 rfl rfl (dMi 7 rfl rfl ?_)
          have h79 := (h71.ext hE75)
          obtain ⟨b80, o81, rfl⟩ := h79.base (by omega)
          refine dV 8 rfl (fun _ _ => evIx i Try.underlying29 sz3 rfl rfl (o81 + i)) ?_
          have hd82 := h79.lt i
          refine dV 9 rfl (fun _ hf => evLoad one3 rfl ((h79.ext hf).cell (by omega))) (dMs 10 rfl rfl (dMi 11 rfl rfl ?_))
          have h83 := (h73.ext hE75)
          obtain ⟨b84, o85, rfl⟩ := h83.base (by omega)
          refine dV 12 rfl (fun _ _ => evIx j Try.underlying29 sz3 rfl rfl (o85 + j)) ?_
          have hd86 := h83.lt j
          refine dV 13 rfl (fun _ hf => evLoad one3 rfl ((h83.ext hf).cell (by omega))) (dV 14 rfl (fun _ _ => evMul (((dr_3.getD i 0 * dr_9.getD j 0 : Nat) : Int)) rfl rfl (mulI64 (by omega))) (dV 15 rfl (fun _ _ => evAdd (((q39 : Int)) + (((dr_3.getD i 0 * dr_9.getD j 0 : Nat) : Int))) rfl rfl wI) (dMi 16 rfl rfl (dV 17 rfl (fun _ _ => evAdd ((((q39 : Int)) + (((dr_3.getD i 0 * dr_9.getD j 0 : Nat) : Int))) + ((cy : Int))) rfl rfl wI) (dAi 18 rfl rfl (dDone (by kernel_rfl) (xN (hK69 _ _ (rS fun K87 hK87 => sMs rfl (sMi rfl (sMi rfl (sV (evAdd (((i : Int)) + ((j : Int))) rfl rfl wI) (sMi rfl (sV (evRem (((((q39 + (dr_3.getD i 0 * dr_9.getD j 0)) + cy) % 32768 : Nat) : Int)) rfl rfl (by omega) (remE (by omega) (by omega))) ?_))))))))))))))
          refine sV (evIx (i + j) Try.underlying29 sz3 rfl rfl (i + j)) (sO (oStore1 rfl rfl rfl sz3 hB77 (by exact lq) (fun w88 hU89 hz90 hB91 => ?_)))
          replace hB91 : Blk w88 g15 3 (((R ++ [((q39 + (dr_3.getD i 0 * dr_9.getD j 0)) + cy) % 32768]) ++ Q.drop (i + j + 1) ++ List.replicate (nr_3 - i) 0).map i64n) := by rw [← (mid_set hR (by omega) : (R ++ Q.drop (i + j) ++ List.replicate (nr_3 - i) 0).set (i + j) (((q39 + (dr_3.getD i 0 * dr_9.getD j 0)) + cy) % 32768) = (R ++ [((q39 + (dr_3.getD i 0 * dr_9.getD j 0)) + cy) % 32768]) ++ Q.drop (i + j + 1) ++ List.replicate (nr_3 - i) 0), List.map_set]; exact hB91
          refine sK hK87 (wp_region_lit (sMi rfl (sV (evQuo (((((q39 + (dr_3.getD i 0 * dr_9.getD j 0)) + cy) / 32768 : Nat) : Int)) rfl rfl (by omega) (quoEi64 (by omega) (by omega) (by omega))) (sAi rfl (sDone (bN (xN (hK68 _ _ (wp_region_lit (sMi rfl (sV (evAdd (((j : Int)) + 1) rfl rfl wI) (sAi rfl (sDone ?_)))))))))))))
          have hR92 := hE75.rx hU89
          refine again (nr_9 - (j + 1)) (by omega) ⟨(j + 1), (R ++ [((q39 + (dr_3.getD i 0 * dr_9.getD j 0)) + cy) % 32768]), (((q39 + (dr_3.getD i 0 * dr_9.getD j 0)) + cy) / 32768), rfl, rfl, rfl, rfl, rfl, cI, cI, (hF54.trans hR92), ?_, ?_, ?_, ?_, ?_, ?_⟩
          · rw [show i + (j + 1) = i + j + 1 from rfl]; exact hB91
          · omega
          · simp [hR]; omega
          · exact vlt_snoc hRt (by omega)
          · omega
          · exact vmul_step hw hR (by omega)
        · refine sV (evLss false rfl rfl (dF hc67)) (sK hK66 (cF rfl (wp_exit (xE (xE (bE (xN (hK44 _ _ ?_))))))))
          have hq0 := mid_zero (m := nr_3 - i) hR (show i + j = Q.length by omega) (show i + nr_9 = i + j by omega)
          refine wp_region_lit (sMs rfl (sMi rfl (sMs rfl (sV (evLen Try.underlying29 rfl) (sV (evAdd (((i : Int)) + ((nr_9 : Int))) rfl rfl wI) (sV (evIx (i + nr_9) Try.underlying29 sz3 rfl rfl (i + nr_9)) ?_))))))
          have hd93 := vgetD_lt (P := R ++ Q.drop (i + j) ++ List.replicate (nr_3 - i) 0) (i := i + nr_9) (vlt_mid (by decide) hRt hQt) (by decide)
          refine sV (evLoad one3 rfl (hB55.digi (by exact lq))) (sMi rfl (sV (evAdd ((cy : Int)) rfl rfl (wI64 (by omega))) (sV (evIx (i + nr_9) Try.underlying29 sz3 rfl rfl (i + nr_9)) (sO (oStore1 rfl rfl rfl sz3 hB55 (by exact lq) (fun w94 hU95 hz96 hB97 => ?_))))))
          replace hB97 : Blk w94 g15 3 (((R ++ [cy]) ++ List.replicate (nr_3 - (i + 1)) 0).map i64n) := by rw [← (row_end (Q := Q) hR (by omega) (by omega) (by omega) : (R ++ Q.drop (i + j) ++ List.replicate (nr_3 - i) 0).set (i + nr_9) cy = (R ++ [cy]) ++ List.replicate (nr_3 - (i + 1)) 0), List.map_set]; exact hB97
          refine sDone (bN (xN (hK42 _ _ (wp_region_lit (sMi rfl (sV (evAdd (((i : Int)) + 1) rfl rfl wI) (sAi rfl (sDone ?_))))))))
          have hR98 := hF54.trans hU95
          refine again (nr_3 - (i + 1)) (by omega) ⟨(i + 1), (R ++ [cy]), rfl, rfl, rfl, rfl, cI, (hF30.trans hR98), ?_, ?_, ?_, ?_, ?_⟩
          · exact hB97
          · omega
          · simp [hR]; omega
          · exact vlt_snoc hRt (by omega)
          · exact vmul_row hw hR (by omega) (by omega) hv
    · refine sV (evLss false rfl rfl (dF hc41)) (sK hK40 (cF rfl (wp_exit (xE (xE (bE (xN (hK22 _ _ (rS fun K99 hK99 => sMs rfl ?_)))))))))
      have h100 : DigR 32768 w25 (fun b => b = g15) (some ⟨g15, 0, none⟩) (nr_3 + nr_9) (nr_3 + nr_9) (Q ++ List.replicate (nr_3 - i) 0) := DigR.of_blk hB31 rfl (vlt_fill (by decide) hQt) (by exact lq) (by omega) (by unfold CapMax; omega)
      refine sO (oCall rfl call118 (ref01_bits h100 (by omega)) rfl ?_)
      rintro _ w102 ⟨Ar_101, nr_101, cr_101, dr_101, rfl, hE103, hr_101, v_101, cn_101, ln_101⟩
      have hz104 := hE103.size
      have ⟨lr_101, kr_101, mr_101⟩ := hr_101.lkm
      refine sAs rfl (sK hK99 (wp_ret (ret1 (.slice Ar_101 nr_101 cr_101) Try.results97 (resT rfl) ?_)))
      have hmv := mul_end v_101 hv (by omega) v_3 v_9
      have hR106 := (((hE5.trans hE11).trans hE18).rx hF30).xr hE103
      exact ⟨Ar_101, nr_101, cr_101, dr_101, rfl, (Frm.mono hR106 q4), (DigR.sub hr_101 q5), hmv, cn_101, (by have h := mul_nat_len cn_101 hmv ha.2 hb.2 la lb; omega)⟩

end Go.Proofs.Ytppegjbdencefaa
