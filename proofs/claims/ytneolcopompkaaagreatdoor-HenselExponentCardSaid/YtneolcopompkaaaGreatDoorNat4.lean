/-
  Walks of package natural: the product.
-/
import Derived.Test.YtneolcopompkaaaGreatDoorNat3
import Derived.Test.YtneolcopompkaaaGreatDoorLibA
namespace Go.Proofs.YtneolcopompkaaaGreatDoor
open Go.RowKit Go.Gx
theorem natural_addInto {w : World} {pz oz nz cz : Nat} {Uz Zz : List Nat} {Ax : Option Addr} {nx cx : Nat} {dx : List Nat} (Bz : Blk w pz 26 ((Uz ++ Zz).map u32)) (luz : Uz.length = oz) (lzz : Zz.length = nz) (ltz : ∀ d ∈ Uz ++ Zz, d < BS) (lcz : cz ≤ 9223372036854775807) (lkz : nz ≤ cz) (hx : NatR w (fun b => b ≠ pz) Ax nx cx dx) (hxz : nx ≤ nz) : Calls Tryz.prog 127 #[(.slice (some ⟨pz, oz, none⟩) nz cz), (.slice Ax nx cx)] w (Ret fun v w' => ∃ (Zr : List Nat) (cr : Nat), v = (.tuple #[]) ∧ Frm (fun b => b = pz) w w' ∧ (Blk w' pz 26 ((Uz ++ Zr).map u32)) ∧ (Zr.length = nz) ∧ (∀ d ∈ Uz ++ Zr, d < BS) ∧ (val Zr + BS ^ nz * cr = val Zz + val dx)) := by
  have ⟨lx, kx, mx⟩ := hx.lkm
  refine enter Tryz.func127 rfl Tryz.ntmps127 rfl (rS fun K1 hK1 => sAi rfl (sK hK1 (wp_seq_k fun K2 hK2 => rS fun K3 hK3 => sMs rfl (sV (evLen Tryz.underlying23 rfl) (sMi rfl (sK hK3 (wp_block ?_)))))))
  refine lLoop (fun m e w_ => ∃ (k : Nat) (P : List Nat) (cy : Nat), m = nx - k ∧ e 0 = (.slice (some ⟨pz, oz, none⟩) nz cz) ∧ e 1 = (.slice Ax nx cx) ∧ e 4 = (.int .u32 ((cy : Int))) ∧ e 8 = (.slice Ax nx cx) ∧ e 9 = (.int .i64 ((nx : Int))) ∧ e 10 = (.int .i64 ((k : Int))) ∧ Frm (fun b => b = pz) w w_ ∧ Blk w_ pz 26 ((Uz ++ (P ++ Zz.drop k)).map u32) ∧ (k ≤ nx) ∧ (0 ≤ k) ∧ (P.length = k) ∧ (∀ d ∈ P, d < BS) ∧ (cy ≤ 1) ∧ (val P + BS ^ k * cy = val (Zz.take k) + val (dx.take k))) (nx - (0)) ?_ ?_
  · refine ⟨(0), ([]), (0), rfl, rfl, rfl, cI, rfl, rfl, cI, (Frm.refl _ _), ?_, ?_, ?_, ?_, ?_, ?_, ?_⟩
    · simpa using Bz
    · omega
    · omega
    · rfl
    · simp
    · omega
    · simp [val]
  · rintro m4 e15 w5 ⟨k, P, cy, hm14, hs6, hs7, hs8, hs9, hs10, hs11, hF12, hB13, hk, hl, hP, hlt, hcy, hv⟩
    obtain ⟨r16, rfl⟩ := sq (e := e15) (t := 0) hs6
    obtain ⟨r17, rfl⟩ := sq (e := r16) (t := 1) hs7
    obtain ⟨r18, rfl⟩ := sq (e := r17) (t := 4) hs8
    obtain ⟨r19, rfl⟩ := sq (e := r18) (t := 8) hs9
    obtain ⟨r20, rfl⟩ := sq (e := r19) (t := 9) hs10
    obtain ⟨r21, rfl⟩ := sq (e := r20) (t := 10) hs11
    have hz22 := hF12.size
    refine rS fun K23 hK23 => ?_
    by_cases hc24 : ((k : Int)) < ((nx : Int))
    · refine sV (evLss true rfl rfl (dT hc24)) (sK hK23 (wp_seq_k fun K25 hK25 => cT rfl (wp_skip (xN (hK25 _ _ (wp_seq_k fun K26 hK26 => wp_block (rS fun K27 hK27 => sMi rfl ?_)))))))
      have h28 := (hx.frmB hF12 q3)
      obtain ⟨b29, o30, rfl⟩ := h28.base (by omega)
      refine sV (evIx k Tryz.underlying23 sz26 rfl rfl (o30 + k)) ?_
      have hd31 := h28.lt k
      refine sV (evLoad one26 rfl (h28.cell (by omega))) (sAi rfl (sAi rfl (sK hK27 (wp_region_lit (sMs rfl (sMi rfl (sMs rfl (sMi rfl (sV (evIx k Tryz.underlying23 sz26 rfl rfl (oz + k)) ?_)))))))))
      have hd32 := getD_lt (ds := Uz ++ (P ++ Zz.drop k)) (i := oz + k) (lt_seg ltz hlt)
      refine sV (evLoad one26 rfl (hB13.dig (by exact lq))) ?_
      have hq := seg_get luz hP (show k < Zz.length by omega) (t := oz + k) rfl
      refine sMi rfl (sMi rfl (sO (oCall rfl call89 (bits_Add32 (x1 := (Uz ++ (P ++ Zz.drop k)).getD (oz + k) 0) (by omega) (x2 := dx.getD k 0) (by omega) (x3 := cy) (by omega) (by omega)) rfl ?_)))
      rintro _ w34 ⟨xs_33, xc_33, rfl, hE35, bs_33, bc_33, e_33, z_33⟩
      have hz36 := hE35.size
      refine sV (v := (.tuple #[(.int .u32 ((xs_33 : Int))), (.int .u32 ((xc_33 : Int)))])) (rfl) (sV (v := (.int .u32 ((xs_33 : Int)))) (rfl) (sV (v := (.int .u32 ((xc_33 : Int)))) (rfl) (sV (evIx k Tryz.underlying23 sz26 rfl rfl (oz + k)) ?_)))
      have hB37 := (hB13.ext hE35)
      refine sO (oStore1 rfl rfl rfl sz26 hB37 (by exact lq) (fun w38 hU39 hz40 hB41 => ?_))
      replace hB41 : Blk w38 pz 26 ((Uz ++ ((P ++ [xs_33]) ++ Zz.drop (k + 1))).map u32) := by rw [← (seg_set luz hP (by omega) (by omega) : (Uz ++ (P ++ Zz.drop k)).set (oz + k) xs_33 = Uz ++ ((P ++ [xs_33]) ++ Zz.drop (k + 1))), List.map_set]; exact hB41
      refine sAi rfl (sDone (bN (xN (hK26 _ _ (wp_region_lit (sV (evAdd (((k : Int)) + 1) rfl rfl wI) (sMi rfl (sDone ?_))))))))
      have hR42 := hE35.rx hU39
      refine again (nx - (k + 1)) (by omega) ⟨(k + 1), (P ++ [xs_33]), (xc_33), rfl, rfl, rfl, cI, rfl, rfl, cI, (hF12.trans hR42), ?_, ?_, ?_, ?_, ?_, ?_, ?_⟩
      · exact hB41
      · omega
      · omega
      · simp [hP]
      · exact lt_snoc hlt (by omega)
      · omega
      · exact add_step hv hP (by omega)
    · refine sV (evLss false rfl rfl (dF hc24)) (sK hK23 (wp_seq_k fun K43 hK43 => cF rfl (wp_exit (xE (xE (bE (xN (hK2 _ _ (rS fun K44 hK44 => sMs rfl (sV (evLen Tryz.underlying23 rfl) (sAi rfl (sK hK44 (wp_block ?_)))))))))))))
      refine lLoop (fun m e w_ => ∃ (k2 : Nat) (P2 : List Nat) (cy2 : Nat), m = nz - k2 ∧ e 0 = (.slice (some ⟨pz, oz, none⟩) nz cz) ∧ e 4 = (.int .u32 ((cy2 : Int))) ∧ e 7 = (.int .i64 ((k2 : Int))) ∧ Frm (fun b => b = pz) w5 w_ ∧ Blk w_ pz 26 ((Uz ++ (P2 ++ Zz.drop k2)).map u32) ∧ (k2 ≤ nz) ∧ (nx ≤ k2) ∧ (P2.length = k2) ∧ (∀ d ∈ P2, d < BS) ∧ (cy2 ≤ 1) ∧ (val P2 + BS ^ k2 * cy2 = val (Zz.take k2) + val (dx.take k2))) (nz - (k)) ?_ ?_
      · refine ⟨(k), (P), (cy), rfl, rfl, cI, cI, (Frm.refl _ _), ?_, ?_, ?_, ?_, ?_, ?_, ?_⟩
        · exact hB13
        · omega
        · omega
        · exact hP
        · exact hlt
        · omega
        · exact hv
      · rintro m45 e53 w46 ⟨k2, P2, cy2, hm52, hs47, hs48, hs49, hF50, hB51, hk2, hl2, hP2, hlt2, hcy2, hv2⟩
        obtain ⟨r54, rfl⟩ := sq (e := e53) (t := 0) hs47
        obtain ⟨r55, rfl⟩ := sq (e := r54) (t := 4) hs48
        obtain ⟨r56, rfl⟩ := sq (e := r55) (t := 7) hs49
        have hz57 := hF50.size
        refine wp_seq_k fun K58 hK58 => rS fun K59 hK59 => sMi rfl ?_
        by_cases hc60 : ((cy2 : Int)) ≠ 0
        · refine sV (evNeq true rfl rfl (dT hc60)) (sMb rfl (sEv (v := (.int .i64 ((k2 : Int)))) (rfl) rfl rfl (sEv (v := (.slice (some ⟨pz, oz, none⟩) nz cz)) (rfl) rfl rfl (sEv (v := (.int .i64 ((nz : Int)))) (evLen Tryz.underlying23 rfl) rfl rfl ?_))))
          by_cases hc61 : ((k2 : Int)) < ((nz : Int))
          · refine sEv (v := (.bool true)) (evLss true rfl rfl (dT hc61)) rfl rfl (sV (v := (.bool true)) (rfl) (sK hK59 (cT rfl (wp_skip (xN (hK58 _ _ (wp_seq_k fun K62 hK62 => wp_block (wp_region_lit (sMs rfl (sMi rfl (sMs rfl (sMi rfl (sV (evIx k2 Tryz.underlying23 sz26 rfl rfl (oz + k2)) ?_)))))))))))))
            have hd63 := getD_lt (ds := Uz ++ (P2 ++ Zz.drop k2)) (i := oz + k2) (lt_seg ltz hlt2)
            refine sV (evLoad one26 rfl (hB51.dig (by exact lq))) ?_
            have hq := seg_get luz hP2 (show k2 < Zz.length by omega) (t := oz + k2) rfl
            refine sMi rfl (sO (oCall rfl call89 (bits_Add32 (x1 := (Uz ++ (P2 ++ Zz.drop k2)).getD (oz + k2) 0) (by omega) (x2 := 0) (by omega) (x3 := cy2) (by omega) (by omega)) rfl ?_))
            rintro _ w65 ⟨xs_64, xc_64, rfl, hE66, bs_64, bc_64, e_64, z_64⟩
            have hz67 := hE66.size
            refine sV (v := (.tuple #[(.int .u32 ((xs_64 : Int))), (.int .u32 ((xc_64 : Int)))])) (rfl) (sV (v := (.int .u32 ((xs_64 : Int)))) (rfl) (sV (v := (.int .u32 ((xc_64 : Int)))) (rfl) (sV (evIx k2 Tryz.underlying23 sz26 rfl rfl (oz + k2)) ?_)))
            have hB68 := (hB51.ext hE66)
            refine sO (oStore1 rfl rfl rfl sz26 hB68 (by exact lq) (fun w69 hU70 hz71 hB72 => ?_))
            replace hB72 : Blk w69 pz 26 ((Uz ++ ((P2 ++ [xs_64]) ++ Zz.drop (k2 + 1))).map u32) := by rw [← (seg_set luz hP2 (by omega) (by omega) : (Uz ++ (P2 ++ Zz.drop k2)).set (oz + k2) xs_64 = Uz ++ ((P2 ++ [xs_64]) ++ Zz.drop (k2 + 1))), List.map_set]; exact hB72
            refine sAi rfl (sDone (bN (xN (hK62 _ _ (wp_region_lit (sMi rfl (sV (evAdd (((k2 : Int)) + 1) rfl rfl wI) (sAi rfl (sDone ?_)))))))))
            have hR73 := hE66.rx hU70
            refine again (nz - (k2 + 1)) (by omega) ⟨(k2 + 1), (P2 ++ [xs_64]), (xc_64), rfl, rfl, cI, cI, (hF50.trans hR73), ?_, ?_, ?_, ?_, ?_, ?_, ?_⟩
            · exact hB72
            · omega
            · omega
            · simp [hP2]
            · exact lt_snoc hlt2 (by omega)
            · omega
            · exact add_step hv2 hP2 (by rw [getD_ge (ds := dx) (n := nx) (by omega) k2 (by omega)]; omega)
          · refine sEv (v := (.bool false)) (evLss false rfl rfl (dF hc61)) rfl rfl (sV (v := (.bool false)) (rfl) (sK hK59 (cF rfl (wp_exit (xE (xE (bE (end0 Tryz.results127 ?_))))))))
            have hR74 := hF12.trans hF50
            exact ⟨(P2 ++ Zz.drop k2), cy2, rfl, hR74, hB51, (by exact lq), (lt_seg ltz hlt2), (addin_full hv2 hP2 (by omega) (by omega) (by omega))⟩
        · refine sV (evNeq false rfl rfl (dF hc60)) (sMb rfl (sSkip rfl rfl (sSkip rfl rfl (sSkip rfl rfl (sSkip rfl rfl (sV (v := (.bool false)) (rfl) (sK hK59 (cF rfl (wp_exit (xE (xE (bE (end0 Tryz.results127 ?_)))))))))))))
          obtain rfl : cy2 = 0 := by omega
          have hR75 := hF12.trans hF50
          exact ⟨(P2 ++ Zz.drop k2), 0, rfl, hR75, hB51, (by exact lq), (lt_seg ltz hlt2), (addin_zero hv2 hP2 (by omega) (by omega) (by omega))⟩
set_option maxHeartbeats 1000000 in
theorem natural_product_step (N : Nat) (ih : ∀ {w : World} {Sa : Nat → Prop} {Aa : Option Addr} {na ca : Nat} {da : List Nat} {Sb : Nat → Prop} {Ab : Option Addr} {nb cb : Nat} {db : List Nat} (ha : NatR w Sa Aa na ca da) (hb : NatR w Sb Ab nb cb db) (hna : na + nb ≤ 1099511627776) (hN : na + nb + 1 ≤ N), Calls Tryz.prog 110 #[(.slice Aa na ca), (.slice Ab nb cb)] w (Ret fun v w' => ∃ (Ar : Option Addr) (nr : Nat) (cr : Nat) (dr : List Nat), v = (.slice Ar nr cr) ∧ Ext w w' ∧ NatR w' (fun b => w.heap.size ≤ b) Ar nr cr dr ∧ (val dr = val da * val db) ∧ (nr = na + nb))) {w : World} {Sa : Nat → Prop} {Aa : Option Addr} {na ca : Nat} {da : List Nat} {Sb : Nat → Prop} {Ab : Option Addr} {nb cb : Nat} {db : List Nat} (ha : NatR w Sa Aa na ca da) (hb : NatR w Sb Ab nb cb db) (hna : na + nb ≤ 1099511627776) (hN : na + nb ≤ N) : Calls Tryz.prog 110 #[(.slice Aa na ca), (.slice Ab nb cb)] w (Ret fun v w' => ∃ (Ar : Option Addr) (nr : Nat) (cr : Nat) (dr : List Nat), v = (.slice Ar nr cr) ∧ Ext w w' ∧ NatR w' (fun b => w.heap.size ≤ b) Ar nr cr dr ∧ (val dr = val da * val db) ∧ (nr = na + nb)) := by
  have ⟨la, ka, ma⟩ := ha.lkm
  replace ha := ha.low
  have ⟨lb, kb, mb⟩ := hb.lkm
  replace hb := hb.low
  refine enter Tryz.func110 rfl Tryz.ntmps110 rfl (rS fun K1 hK1 => sAs rfl (sK hK1 (wp_seq_k fun K2 hK2 => rS fun K3 hK3 => sMs rfl (sV (evLen Tryz.underlying23 rfl) (sMs rfl (sV (evLen Tryz.underlying23 rfl) ?_))))))
  by_cases hc4 : ((na : Int)) < ((nb : Int))
  · refine sV (evLss true rfl rfl (dT hc4)) (sK hK3 (cT rfl (wp_region_lit (sMs rfl (sMs rfl (sAs rfl (sAs rfl (sK hK2 (wp_seq_k fun K5 hK5 => rS fun K6 hK6 => sMs rfl (sV (evLen Tryz.underlying23 rfl) ?_))))))))))
    by_cases hc7 : ((na : Int)) < 48
    · refine sV (evLss true rfl rfl (dT hc7)) (sK hK6 (cT rfl (rS fun K8 hK8 => sMs rfl (sMs rfl (sO (oCall rfl call126 (natural_schoolbook ha hb (by omega) (by omega)) rfl ?_))))))
      rintro _ w10 ⟨Ar_9, nr_9, cr_9, dr_9, rfl, hE11, hr_9, v_9, ln_9⟩
      have hz12 := hE11.size
      have ⟨lr_9, kr_9, mr_9⟩ := hr_9.lkm
      refine sAs rfl (sK hK8 (wp_ret (xR (ret1 (.slice Ar_9 nr_9 cr_9) Tryz.results110 (resT rfl) ?_))))
      exact ⟨Ar_9, nr_9, cr_9, dr_9, rfl, hE11, (NatR.sub hr_9 q5), v_9, (by omega)⟩
    · refine sV (evLss false rfl rfl (dF hc7)) (sK hK6 (cF rfl (wp_skip (xN (hK5 _ _ (rS fun K14 hK14 => sMs rfl (sV (evLen Tryz.underlying23 rfl) (sMs rfl (sV (evLen Tryz.underlying23 rfl) (sV (evAdd (((nb : Int)) + ((na : Int))) rfl rfl wI) (sO (oMake1 (nb + na) Tryz.underlying23 inf26 rfl cI cI (by omega) (by omega) (fun g15 w16 hg17 hE18 hz19 hB20 => ?_)))))))))))))
      have hB21 : Blk w16 g15 26 (((List.replicate (nb + na) 0)).map u32) := by rw [List.map_replicate]; exact hB20
      refine sAs rfl (sK hK14 (wp_seq_k fun K22 hK22 => rS fun K23 hK23 => sMs rfl ?_))
      have h24 := (hb.ext hE18)
      refine sO (oCall rfl call69 (natural_IsZero h24) rfl ?_)
      rintro _ w26 ⟨gr_25, rfl, hE27, e_25⟩
      have hz28 := hE27.size
      refine sMb rfl ?_
      cases gr_25
      · refine sEv (v := (.slice Aa na ca)) (rfl) rfl rfl ?_
        have hR29 := hE18.trans hE27
        have h30 := (ha.ext hR29)
        refine sOp rfl (oCall rfl call69 (natural_IsZero h30) rfl ?_)
        rintro _ w32 ⟨gr_31, rfl, hE33, e_31⟩
        have hz34 := hE33.size
        refine sV (v := (.bool gr_31)) (rfl) (sK hK23 (cB gr_31 rfl ?_ ?_))
        · intro hc35
          subst hc35
          refine rS fun K36 hK36 => sMs rfl (sAs rfl (sK hK36 (wp_ret (xR (ret1 (.slice (some ⟨g15, 0, none⟩) (nb + na) (nb + na)) Tryz.results110 (resT rfl) ?_)))))
          have hR37 := hE27.trans hE33
          have hB38 := (hB21.ext hR37)
          have h39 : NatR w32 (fun b => b = g15) (some ⟨g15, 0, none⟩) (nb + na) (nb + na) (List.replicate (nb + na) 0) := NatR.of_blk hB38 rfl (lt_zeros _) (by exact lq) (by omega) (by unfold CapMax; omega)
          have hR40 := hR29.trans hE33
          exact ⟨(some ⟨g15, 0, none⟩), (nb + na), (nb + na), (List.replicate (nb + na) 0), rfl, hR40, (NatR.sub h39 q5), (by rw [val_zeros, zmul1 (of_decide_eq_true e_31.symm)]), (by omega)⟩
        · intro hc35
          subst hc35
          refine wp_skip (xN (hK22 _ _ (rS fun K41 hK41 => sMs rfl (sV (evLen Tryz.underlying23 rfl) (sV (evAdd (((nb : Int)) + 1) rfl rfl wI) (sV (evQuo ((((nb + 1) / 2 : Nat) : Int)) rfl rfl (by omega) (quoI (by omega) (by omega))) (sAi rfl (sK hK41 (wp_seq_k fun K42 hK42 => rS fun K43 hK43 => sMs rfl (sV (evLen Tryz.underlying23 rfl) (sMi rfl ?_)))))))))))
          by_cases hc44 : ((na : Int)) ≤ ((((nb + 1) / 2 : Nat) : Int))
          · refine sV (evLeq true rfl rfl (dT hc44)) (sK hK43 (cT rfl (rS fun K45 hK45 => sMs rfl (sMs rfl (sMi rfl ?_)))))
            have hR46 := hE27.trans hE33
            have h47 := (h24.ext hR46)
            have h48 := h47.take (m := (nb + 1) / 2) (by omega)
            refine sV (evSliceHi ((nb + 1) / 2) Tryz.underlying23 sz26 rfl rfl (by omega) (by omega)) (sMs rfl ?_)
            have h50 := (h30.ext hE33)
            refine sO (oCall rfl call110 (ih h48 h50 (by omega) (by omega)) rfl ?_)
            rintro _ w52 ⟨Ar_51, nr_51, cr_51, dr_51, rfl, hE53, hr_51, v_51, ln_51⟩
            have hz54 := hE53.size
            have ⟨lr_51, kr_51, mr_51⟩ := hr_51.lkm
            have hR56 := hR46.trans hE53
            have hB57 := (hB21.ext hR56)
            refine sO (oCopy Tryz.underlying23 sz26 rfl rfl hr_51.1 (u32s_one _) hB57 (by omega) (by exact lq) (fun w58 hU59 hz60 hB61 => ?_))
            replace hB61 : Blk w58 g15 26 ((dr_51 ++ List.replicate (nb + na - nr_51) 0).map u32) := by rw [← (copy_first lr_51 (by omega) : (List.replicate (nb + na) 0).take 0 ++ dr_51 ++ (List.replicate (nb + na) 0).drop (0 + nr_51) = dr_51 ++ List.replicate (nb + na - nr_51) 0), List.map_append, List.map_append, List.map_take, List.map_drop]; exact hB61
            rw [put_mkA]
            refine sK hK45 (wp_seq_k fun K62 hK62 => dBegin (fun b => b = g15) mixed (fun w63 hE64 hz65 => dMs 0 rfl rfl (dMi 1 rfl rfl (dV 2 rfl (fun _ _ => evSliceLoAt ((nb + 1) / 2) Tryz.underlying23 sz26 rfl rfl (by omega) (by omega) (by omega) (by omega) ((nb + 1) / 2) (by omega)) (dMs 3 rfl rfl (dMi 4 rfl rfl ?_))))))
            have hR66 := (hE53.rx hU59).xr hE64
            have h67 := (h47.frmB hR66 q3)
            have h70 := h67.drop (m := (nb + 1) / 2) (by omega)
            refine dV 5 rfl (fun _ _ => evSliceLo ((nb + 1) / 2) Tryz.underlying23 sz26 rfl rfl (by omega) (by omega) (by omega)) ?_
            generalize (if cb = ((nb + 1) / 2) then Ab else Ab.map (·.add (((nb + 1) / 2) * 1))) = A68 at *
            refine dMs 6 rfl rfl ?_
            have h72 := (h50.frmB hR66 q3)
            refine dOp 7 rfl rfl (by kernel_rfl) (oCall rfl call110 (ih h70 h72 (by omega) (by omega)) rfl ?_)
            rintro _ w74 ⟨Ar_73, nr_73, cr_73, dr_73, rfl, hE75, hr_73, v_73, ln_73⟩
            refine ⟨(Frm.of_ext hE75), ?_⟩
            have hz76 := hE75.size
            have ⟨lr_73, kr_73, mr_73⟩ := hr_73.lkm
            refine dOp 8 rfl rfl (by kernel_rfl) (oCall rfl call87 (natural_trim hr_73) rfl ?_)
            rintro _ w79 ⟨Ar_78, nr_78, cr_78, dr_78, rfl, hE80, hr_78, e_78, le_78⟩
            refine ⟨(Frm.of_ext hE80), ?_⟩
            have hz81 := hE80.size
            have ⟨lr_78, kr_78, mr_78⟩ := hr_78.lkm
            have hR83 := (hE64.trans hE75).trans hE80
            have hB84 := (hB61.ext hR83)
            refine dOp 9 rfl rfl (by kernel_rfl) (oCall rfl call127 (natural_addInto (Uz := (dr_51 ++ List.replicate (nb + na - nr_51) 0).take ((nb + 1) / 2)) (Zz := (dr_51 ++ List.replicate (nb + na - nr_51) 0).drop ((nb + 1) / 2)) (by rw [List.take_append_drop]; exact hB84) (by exact lq) (by exact lq) (by rw [List.take_append_drop]; exact (lt_fill hr_51.2)) (by omega) (by omega) (NatR.sub hr_78 q5) (by omega)) rfl ?_)
            rintro _ w86 ⟨Zr_85, cr_85, rfl, hE87, B_85, ln_85, lt_85, e_85⟩
            refine ⟨hE87, ?_⟩
            have hz88 := hE87.size
            refine dDone (by kernel_rfl) (xN (hK62 _ _ (rS fun K89 hK89 => sMs rfl (sAs rfl (sK hK89 (wp_ret (xR (ret1 (.slice (some ⟨g15, 0, none⟩) (nb + na) (nb + na)) Tryz.results110 (resT rfl) ?_))))))))
            have h90 : NatR w86 (fun b => b = g15) (some ⟨g15, 0, none⟩) (nb + na) (nb + na) ((dr_51 ++ List.replicate (nb + na - nr_51) 0).take ((nb + 1) / 2) ++ Zr_85) := NatR.of_blk B_85 rfl lt_85 (by exact lq) (by omega) (by unfold CapMax; omega)
            have hR91 := ((((((hR29.trans hE33).trans hE53).rx hU59).xr hE64).xr hE75).xr hE80).trans hE87
            exact ⟨(some ⟨g15, 0, none⟩), (nb + na), (nb + na), ((dr_51 ++ List.replicate (nb + na - nr_51) 0).take ((nb + 1) / 2) ++ Zr_85), rfl, (Frm.mono hR91 q4), (NatR.sub h90 q5), (by rw [Nat.mul_comm (val da)]; exact (kara_short (lo := dr_51) (hi := dr_78) (h := ((nb + 1) / 2)) (n := nb + na) (by omega) hb.2 ha.2 (by omega) v_51 (by rw [e_78, val_trim, v_73]) (by omega) (by omega) ln_85 e_85)), (by omega)⟩
          · refine sV (evLeq false rfl rfl (dF hc44)) (sK hK43 (cF rfl (wp_skip (xN (hK42 _ _ (wp_seq_k fun K92 hK92 => dBegin (fun _ => False) mixed (fun w93 hE94 hz95 => dMs 0 rfl rfl (dMi 1 rfl rfl ?_))))))))
            have hR96 := (hE27.trans hE33).trans hE94
            have h97 := (h24.ext hR96)
            have h98 := h97.take (m := (nb + 1) / 2) (by omega)
            refine dV 2 rfl (fun _ _ => evSliceHi ((nb + 1) / 2) Tryz.underlying23 sz26 rfl rfl (by omega) (by omega)) (dMs 3 rfl rfl (dMi 4 rfl rfl ?_))
            have hR100 := hE33.trans hE94
            have h101 := (h30.ext hR100)
            have h102 := h101.take (m := (nb + 1) / 2) (by omega)
            refine dV 5 rfl (fun _ _ => evSliceHi ((nb + 1) / 2) Tryz.underlying23 sz26 rfl rfl (by omega) (by omega)) (dOp 6 rfl rfl (by kernel_rfl) (oCall rfl call110 (ih h98 h102 (by omega) (by omega)) rfl ?_))
            rintro _ w105 ⟨Ar_104, nr_104, cr_104, dr_104, rfl, hE106, hr_104, v_104, ln_104⟩
            refine ⟨(Frm.of_ext hE106), ?_⟩
            have hz107 := hE106.size
            have ⟨lr_104, kr_104, mr_104⟩ := hr_104.lkm
            refine dAs 7 rfl rfl (dDone (by kernel_rfl) (xN (hK92 _ _ (wp_seq_k fun K109 hK109 => dBegin (fun _ => False) mixed (fun w110 hE111 hz112 => dMs 0 rfl rfl (dMi 1 rfl rfl ?_))))))
            have hR113 := hE106.trans hE111
            have h114 := (h97.ext hR113)
            have h117 := h114.drop (m := (nb + 1) / 2) (by omega)
            refine dV 2 rfl (fun _ _ => evSliceLo ((nb + 1) / 2) Tryz.underlying23 sz26 rfl rfl (by omega) (by omega) (by omega)) ?_
            generalize (if cb = ((nb + 1) / 2) then Ab else Ab.map (·.add (((nb + 1) / 2) * 1))) = A115 at *
            refine dMs 3 rfl rfl (dMi 4 rfl rfl ?_)
            have h119 := (h101.ext hR113)
            have h122 := h119.drop (m := (nb + 1) / 2) (by omega)
            refine dV 5 rfl (fun _ _ => evSliceLo ((nb + 1) / 2) Tryz.underlying23 sz26 rfl rfl (by omega) (by omega) (by omega)) ?_
            generalize (if ca = ((nb + 1) / 2) then Aa else Aa.map (·.add (((nb + 1) / 2) * 1))) = A120 at *
            refine dOp 6 rfl rfl (by kernel_rfl) (oCall rfl call110 (ih h117 h122 (by omega) (by omega)) rfl ?_)
            rintro _ w125 ⟨Ar_124, nr_124, cr_124, dr_124, rfl, hE126, hr_124, v_124, ln_124⟩
            refine ⟨(Frm.of_ext hE126), ?_⟩
            have hz127 := hE126.size
            have ⟨lr_124, kr_124, mr_124⟩ := hr_124.lkm
            refine dAs 7 rfl rfl (dDone (by kernel_rfl) (xN (hK109 _ _ (wp_seq_k fun K129 hK129 => dBegin (fun _ => False) mixed (fun w130 hE131 hz132 => dMs 0 rfl rfl (dMi 1 rfl rfl ?_))))))
            have hR133 := hE126.trans hE131
            have h134 := (h114.ext hR133)
            have h135 := h134.take (m := (nb + 1) / 2) (by omega)
            refine dV 2 rfl (fun _ _ => evSliceHi ((nb + 1) / 2) Tryz.underlying23 sz26 rfl rfl (by omega) (by omega)) (dMs 3 rfl rfl (dMi 4 rfl rfl ?_))
            have h139 := h134.drop (m := (nb + 1) / 2) (by omega)
            refine dV 5 rfl (fun _ _ => evSliceLo ((nb + 1) / 2) Tryz.underlying23 sz26 rfl rfl (by omega) (by omega) (by omega)) ?_
            generalize (if cb = ((nb + 1) / 2) then Ab else Ab.map (·.add (((nb + 1) / 2) * 1))) = A137 at *
            refine dMs 7 rfl rfl (dMi 8 rfl rfl ?_)
            have h141 := (h119.ext hR133)
            have h142 := h141.take (m := (nb + 1) / 2) (by omega)
            refine dV 9 rfl (fun _ _ => evSliceHi ((nb + 1) / 2) Tryz.underlying23 sz26 rfl rfl (by omega) (by omega)) (dMs 10 rfl rfl (dMi 11 rfl rfl ?_))
            have h146 := h141.drop (m := (nb + 1) / 2) (by omega)
            refine dV 12 rfl (fun _ _ => evSliceLo ((nb + 1) / 2) Tryz.underlying23 sz26 rfl rfl (by omega) (by omega) (by omega)) ?_
            generalize (if ca = ((nb + 1) / 2) then Aa else Aa.map (·.add (((nb + 1) / 2) * 1))) = A144 at *
            refine dOp 6 rfl rfl (by kernel_rfl) (oCall rfl call46 (natural_Add h135 h139 (by omega) (by omega)) rfl ?_)
            rintro _ w149 ⟨Ar_148, nr_148, cr_148, dr_148, rfl, hE150, hr_148, v_148, cn_148, le_148⟩
            refine ⟨(Frm.of_ext hE150), ?_⟩
            have hz151 := hE150.size
            have ⟨lr_148, kr_148, mr_148⟩ := hr_148.lkm
            have h153 := (h142.ext hE150)
            have h154 := (h146.ext hE150)
            refine dOp 13 rfl rfl (by kernel_rfl) (oCall rfl call46 (natural_Add h153 h154 (by omega) (by omega)) rfl ?_)
            rintro _ w156 ⟨Ar_155, nr_155, cr_155, dr_155, rfl, hE157, hr_155, v_155, cn_155, le_155⟩
            refine ⟨(Frm.of_ext hE157), ?_⟩
            have hz158 := hE157.size
            have ⟨lr_155, kr_155, mr_155⟩ := hr_155.lkm
            have h160 := (hr_148.ext hE157)
            refine dOp 14 rfl rfl (by kernel_rfl) (oCall rfl call110 (ih h160 hr_155 (by omega) (by omega)) rfl ?_)
            rintro _ w162 ⟨Ar_161, nr_161, cr_161, dr_161, rfl, hE163, hr_161, v_161, ln_161⟩
            refine ⟨(Frm.of_ext hE163), ?_⟩
            have hz164 := hE163.size
            have ⟨lr_161, kr_161, mr_161⟩ := hr_161.lkm
            refine dAs 15 rfl rfl (dDone (by kernel_rfl) (xN (hK129 _ _ (rS fun K166 hK166 => sMs rfl (sMs rfl (sMs rfl ?_))))))
            have hR167 := ((((hE111.trans hE126).trans hE131).trans hE150).trans hE157).trans hE163
            have h168 := (hr_104.ext hR167)
            have hR169 := ((hE131.trans hE150).trans hE157).trans hE163
            have h170 := (hr_124.ext hR169)
            refine sO (oCall rfl call46 (natural_Add h168 h170 (by omega) (by omega)) rfl ?_)
            rintro _ w172 ⟨Ar_171, nr_171, cr_171, dr_171, rfl, hE173, hr_171, v_171, cn_171, le_171⟩
            have hz174 := hE173.size
            have ⟨lr_171, kr_171, mr_171⟩ := hr_171.lkm
            have h176 := (hr_161.ext hE173)
            refine sO (oCall rfl call48 (natural_Sub h176 hr_171 (by omega) (by omega)) rfl ?_)
            rintro _ w178 ⟨Ar_177, nr_177, cr_177, dr_177, gk_177, rfl, hE179, hr_177, k_177, v_177, cn_177, le_177⟩
            have hz180 := hE179.size
            have ⟨lr_177, kr_177, mr_177⟩ := hr_177.lkm
            refine sV (v := (.tuple #[(.slice Ar_177 nr_177 cr_177), (.bool gk_177)])) (rfl) (sV (v := (.slice Ar_177 nr_177 cr_177)) (rfl) (sV (v := (.bool gk_177)) (rfl) (sAs rfl (sK hK166 (rS fun K182 hK182 => sMs rfl (sMs rfl ?_))))))
            have hR183 := ((((((((hR96.trans hE106).trans hE111).trans hE126).trans hE131).trans hE150).trans hE157).trans hE163).trans hE173).trans hE179
            have hB184 := (hB21.ext hR183)
            have hR185 := hE173.trans hE179
            have h186 := (h168.ext hR185)
            refine sO (oCopy Tryz.underlying23 sz26 rfl rfl h186.1 (u32s_one _) hB184 (by omega) (by exact lq) (fun w187 hU188 hz189 hB190 => ?_))
            replace hB190 : Blk w187 g15 26 ((dr_104 ++ List.replicate (nb + na - nr_104) 0).map u32) := by rw [← (copy_first lr_104 (by omega) : (List.replicate (nb + na) 0).take 0 ++ dr_104 ++ (List.replicate (nb + na) 0).drop (0 + nr_104) = dr_104 ++ List.replicate (nb + na - nr_104) 0), List.map_append, List.map_append, List.map_take, List.map_drop]; exact hB190
            rw [put_mkA]
            refine sK hK182 (rS fun K191 hK191 => sMs rfl (sMi rfl (sV (evMul (2 * ((((nb + 1) / 2 : Nat) : Int))) rfl rfl wI) (sV (evSliceLoAt (2 * ((nb + 1) / 2)) Tryz.underlying23 sz26 rfl rfl (by omega) (by omega) (by omega) (by omega) (2 * ((nb + 1) / 2)) (by omega)) (sMs rfl ?_)))))
            have hR192 := hR185.rx hU188
            have h193 := (h170.frmB hR192 q3)
            rw [show nb + na - nr_104 = nr_124 by omega] at hB190
            refine sO (oCopy Tryz.underlying23 sz26 rfl rfl h193.1 (u32s_one _) hB190 (by omega) (by exact lq) (fun w194 hU195 hz196 hB197 => ?_))
            replace hB197 : Blk w194 g15 26 ((dr_104 ++ dr_124).map u32) := by rw [← (copy_second (lr_104.trans (by omega)) lr_124 (by omega) : (dr_104 ++ List.replicate nr_124 0).take (2 * ((nb + 1) / 2)) ++ dr_124 ++ (dr_104 ++ List.replicate nr_124 0).drop ((2 * ((nb + 1) / 2)) + nr_124) = dr_104 ++ dr_124), List.map_append, List.map_append, List.map_take, List.map_drop]; exact hB197
            rw [put_mkA]
            refine sK hK191 (rS fun K198 hK198 => sMs rfl (sMi rfl (sV (evSliceLoAt ((nb + 1) / 2) Tryz.underlying23 sz26 rfl rfl (by omega) (by omega) (by omega) (by omega) ((nb + 1) / 2) (by omega)) ?_)))
            have hmid : val dr_177 = val (db.take ((nb + 1) / 2)) * val (da.drop ((nb + 1) / 2)) + val (db.drop ((nb + 1) / 2)) * val (da.take ((nb + 1) / 2)) := kara_mid (m := val dr_161) (by rw [v_161, v_148, v_155]) v_104 v_124 (by rw [v_177, v_171])
            have hml := lt_val_len cn_177 (kara_mid_lt (h := ((nb + 1) / 2)) (n := nb + na) (by omega) (by omega) hb.2 ha.2 (by omega) hmid)
            refine sMs rfl ?_
            have hR199 := hU188.trans hU195
            have h200 := (hr_177.frmB hR199 q3)
            refine sO (oCall rfl call127 (natural_addInto (Uz := (dr_104 ++ dr_124).take ((nb + 1) / 2)) (Zz := (dr_104 ++ dr_124).drop ((nb + 1) / 2)) (by rw [List.take_append_drop]; exact hB197) (by exact lq) (by exact lq) (by rw [List.take_append_drop]; exact (lt_app hr_104.2 hr_124.2)) (by omega) (by omega) (NatR.sub h200 q5) (by omega)) rfl ?_)
            rintro _ w202 ⟨Zr_201, cr_201, rfl, hE203, B_201, ln_201, lt_201, e_201⟩
            have hz204 := hE203.size
            refine sK hK198 (rS fun K205 hK205 => sMs rfl (sAs rfl (sK hK205 (wp_ret (ret1 (.slice (some ⟨g15, 0, none⟩) (nb + na) (nb + na)) Tryz.results110 (resT rfl) ?_)))))
            have h206 : NatR w202 (fun b => b = g15) (some ⟨g15, 0, none⟩) (nb + na) (nb + na) ((dr_104 ++ dr_124).take ((nb + 1) / 2) ++ Zr_201) := NatR.of_blk B_201 rfl lt_201 (by exact lq) (by omega) (by unfold CapMax; omega)
            have hR207 := (((((((((((((hR29.trans hE33).trans hE94).trans hE106).trans hE111).trans hE126).trans hE131).trans hE150).trans hE157).trans hE163).trans hE173).trans hE179).rx hU188).trans hU195).trans hE203
            exact ⟨(some ⟨g15, 0, none⟩), (nb + na), (nb + na), ((dr_104 ++ dr_124).take ((nb + 1) / 2) ++ Zr_201), rfl, (Frm.mono hR207 q4), (NatR.sub h206 q5), (by rw [Nat.mul_comm (val da)]; exact (kara_full (h := ((nb + 1) / 2)) (n := nb + na) (by omega) (by omega) hb.2 ha.2 (by omega) v_104 v_124 hmid (by omega) (by omega) ln_201 e_201)), (by omega)⟩
      · refine sSkip rfl rfl (sSkip rfl rfl (sV (v := (.bool true)) (rfl) (sK hK23 (cT rfl (rS fun K208 hK208 => sMs rfl (sAs rfl (sK hK208 (wp_ret (xR (ret1 (.slice (some ⟨g15, 0, none⟩) (nb + na) (nb + na)) Tryz.results110 (resT rfl) ?_))))))))))
        have hB209 := (hB21.ext hE27)
        have h210 : NatR w26 (fun b => b = g15) (some ⟨g15, 0, none⟩) (nb + na) (nb + na) (List.replicate (nb + na) 0) := NatR.of_blk hB209 rfl (lt_zeros _) (by exact lq) (by omega) (by unfold CapMax; omega)
        have hR211 := hE18.trans hE27
        exact ⟨(some ⟨g15, 0, none⟩), (nb + na), (nb + na), (List.replicate (nb + na) 0), rfl, hR211, (NatR.sub h210 q5), (by rw [val_zeros, zmul2 (of_decide_eq_true e_25.symm)]), (by omega)⟩
  · refine sV (evLss false rfl rfl (dF hc4)) (sK hK3 (cF rfl (wp_skip (xN (hK2 _ _ (wp_seq_k fun K212 hK212 => rS fun K213 hK213 => sMs rfl (sV (evLen Tryz.underlying23 rfl) ?_)))))))
    by_cases hc214 : ((nb : Int)) < 48
    · refine sV (evLss true rfl rfl (dT hc214)) (sK hK213 (cT rfl (rS fun K215 hK215 => sMs rfl (sMs rfl (sO (oCall rfl call126 (natural_schoolbook hb ha (by omega) (by omega)) rfl ?_))))))
      rintro _ w217 ⟨Ar_216, nr_216, cr_216, dr_216, rfl, hE218, hr_216, v_216, ln_216⟩
      have hz219 := hE218.size
      have ⟨lr_216, kr_216, mr_216⟩ := hr_216.lkm
      refine sAs rfl (sK hK215 (wp_ret (xR (ret1 (.slice Ar_216 nr_216 cr_216) Tryz.results110 (resT rfl) ?_))))
      exact ⟨Ar_216, nr_216, cr_216, dr_216, rfl, hE218, (NatR.sub hr_216 q5), (by rw [Nat.mul_comm (val da)]; exact v_216), (by omega)⟩
    · refine sV (evLss false rfl rfl (dF hc214)) (sK hK213 (cF rfl (wp_skip (xN (hK212 _ _ (rS fun K221 hK221 => sMs rfl (sV (evLen Tryz.underlying23 rfl) (sMs rfl (sV (evLen Tryz.underlying23 rfl) (sV (evAdd (((na : Int)) + ((nb : Int))) rfl rfl wI) (sO (oMake1 (na + nb) Tryz.underlying23 inf26 rfl cI cI (by omega) (by omega) (fun g222 w223 hg224 hE225 hz226 hB227 => ?_)))))))))))))
      have hB228 : Blk w223 g222 26 (((List.replicate (na + nb) 0)).map u32) := by rw [List.map_replicate]; exact hB227
      refine sAs rfl (sK hK221 (wp_seq_k fun K229 hK229 => rS fun K230 hK230 => sMs rfl ?_))
      have h231 := (ha.ext hE225)
      refine sO (oCall rfl call69 (natural_IsZero h231) rfl ?_)
      rintro _ w233 ⟨gr_232, rfl, hE234, e_232⟩
      have hz235 := hE234.size
      refine sMb rfl ?_
      cases gr_232
      · refine sEv (v := (.slice Ab nb cb)) (rfl) rfl rfl ?_
        have hR236 := hE225.trans hE234
        have h237 := (hb.ext hR236)
        refine sOp rfl (oCall rfl call69 (natural_IsZero h237) rfl ?_)
        rintro _ w239 ⟨gr_238, rfl, hE240, e_238⟩
        have hz241 := hE240.size
        refine sV (v := (.bool gr_238)) (rfl) (sK hK230 (cB gr_238 rfl ?_ ?_))
        · intro hc242
          subst hc242
          refine rS fun K243 hK243 => sMs rfl (sAs rfl (sK hK243 (wp_ret (xR (ret1 (.slice (some ⟨g222, 0, none⟩) (na + nb) (na + nb)) Tryz.results110 (resT rfl) ?_)))))
          have hR244 := hE234.trans hE240
          have hB245 := (hB228.ext hR244)
          have h246 : NatR w239 (fun b => b = g222) (some ⟨g222, 0, none⟩) (na + nb) (na + nb) (List.replicate (na + nb) 0) := NatR.of_blk hB245 rfl (lt_zeros _) (by exact lq) (by omega) (by unfold CapMax; omega)
          have hR247 := hR236.trans hE240
          exact ⟨(some ⟨g222, 0, none⟩), (na + nb), (na + nb), (List.replicate (na + nb) 0), rfl, hR247, (NatR.sub h246 q5), (by rw [val_zeros, zmul2 (of_decide_eq_true e_238.symm)]), (by omega)⟩
        · intro hc242
          subst hc242
          refine wp_skip (xN (hK229 _ _ (rS fun K248 hK248 => sMs rfl (sV (evLen Tryz.underlying23 rfl) (sV (evAdd (((na : Int)) + 1) rfl rfl wI) (sV (evQuo ((((na + 1) / 2 : Nat) : Int)) rfl rfl (by omega) (quoI (by omega) (by omega))) (sAi rfl (sK hK248 (wp_seq_k fun K249 hK249 => rS fun K250 hK250 => sMs rfl (sV (evLen Tryz.underlying23 rfl) (sMi rfl ?_)))))))))))
          by_cases hc251 : ((nb : Int)) ≤ ((((na + 1) / 2 : Nat) : Int))
          · refine sV (evLeq true rfl rfl (dT hc251)) (sK hK250 (cT rfl (rS fun K252 hK252 => sMs rfl (sMs rfl (sMi rfl ?_)))))
            have hR253 := hE234.trans hE240
            have h254 := (h231.ext hR253)
            have h255 := h254.take (m := (na + 1) / 2) (by omega)
            refine sV (evSliceHi ((na + 1) / 2) Tryz.underlying23 sz26 rfl rfl (by omega) (by omega)) (sMs rfl ?_)
            have h257 := (h237.ext hE240)
            refine sO (oCall rfl call110 (ih h255 h257 (by omega) (by omega)) rfl ?_)
            rintro _ w259 ⟨Ar_258, nr_258, cr_258, dr_258, rfl, hE260, hr_258, v_258, ln_258⟩
            have hz261 := hE260.size
            have ⟨lr_258, kr_258, mr_258⟩ := hr_258.lkm
            have hR263 := hR253.trans hE260
            have hB264 := (hB228.ext hR263)
            refine sO (oCopy Tryz.underlying23 sz26 rfl rfl hr_258.1 (u32s_one _) hB264 (by omega) (by exact lq) (fun w265 hU266 hz267 hB268 => ?_))
            replace hB268 : Blk w265 g222 26 ((dr_258 ++ List.replicate (na + nb - nr_258) 0).map u32) := by rw [← (copy_first lr_258 (by omega) : (List.replicate (na + nb) 0).take 0 ++ dr_258 ++ (List.replicate (na + nb) 0).drop (0 + nr_258) = dr_258 ++ List.replicate (na + nb - nr_258) 0), List.map_append, List.map_append, List.map_take, List.map_drop]; exact hB268
            rw [put_mkA]
            refine sK hK252 (wp_seq_k fun K269 hK269 => dBegin (fun b => b = g222) mixed (fun w270 hE271 hz272 => dMs 0 rfl rfl (dMi 1 rfl rfl (dV 2 rfl (fun _ _ => evSliceLoAt ((na + 1) / 2) Tryz.underlying23 sz26 rfl rfl (by omega) (by omega) (by omega) (by omega) ((na + 1) / 2) (by omega)) (dMs 3 rfl rfl (dMi 4 rfl rfl ?_))))))
            have hR273 := (hE260.rx hU266).xr hE271
            have h274 := (h254.frmB hR273 q3)
            have h277 := h274.drop (m := (na + 1) / 2) (by omega)
            refine dV 5 rfl (fun _ _ => evSliceLo ((na + 1) / 2) Tryz.underlying23 sz26 rfl rfl (by omega) (by omega) (by omega)) ?_
            generalize (if ca = ((na + 1) / 2) then Aa else Aa.map (·.add (((na + 1) / 2) * 1))) = A275 at *
            refine dMs 6 rfl rfl ?_
            have h279 := (h257.frmB hR273 q3)
            refine dOp 7 rfl rfl (by kernel_rfl) (oCall rfl call110 (ih h277 h279 (by omega) (by omega)) rfl ?_)
            rintro _ w281 ⟨Ar_280, nr_280, cr_280, dr_280, rfl, hE282, hr_280, v_280, ln_280⟩
            refine ⟨(Frm.of_ext hE282), ?_⟩
            have hz283 := hE282.size
            have ⟨lr_280, kr_280, mr_280⟩ := hr_280.lkm
            refine dOp 8 rfl rfl (by kernel_rfl) (oCall rfl call87 (natural_trim hr_280) rfl ?_)
            rintro _ w286 ⟨Ar_285, nr_285, cr_285, dr_285, rfl, hE287, hr_285, e_285, le_285⟩
            refine ⟨(Frm.of_ext hE287), ?_⟩
            have hz288 := hE287.size
            have ⟨lr_285, kr_285, mr_285⟩ := hr_285.lkm
            have hR290 := (hE271.trans hE282).trans hE287
            have hB291 := (hB268.ext hR290)
            refine dOp 9 rfl rfl (by kernel_rfl) (oCall rfl call127 (natural_addInto (Uz := (dr_258 ++ List.replicate (na + nb - nr_258) 0).take ((na + 1) / 2)) (Zz := (dr_258 ++ List.replicate (na + nb - nr_258) 0).drop ((na + 1) / 2)) (by rw [List.take_append_drop]; exact hB291) (by exact lq) (by exact lq) (by rw [List.take_append_drop]; exact (lt_fill hr_258.2)) (by omega) (by omega) (NatR.sub hr_285 q5) (by omega)) rfl ?_)
            rintro _ w293 ⟨Zr_292, cr_292, rfl, hE294, B_292, ln_292, lt_292, e_292⟩
            refine ⟨hE294, ?_⟩
            have hz295 := hE294.size
            refine dDone (by kernel_rfl) (xN (hK269 _ _ (rS fun K296 hK296 => sMs rfl (sAs rfl (sK hK296 (wp_ret (xR (ret1 (.slice (some ⟨g222, 0, none⟩) (na + nb) (na + nb)) Tryz.results110 (resT rfl) ?_))))))))
            have h297 : NatR w293 (fun b => b = g222) (some ⟨g222, 0, none⟩) (na + nb) (na + nb) ((dr_258 ++ List.replicate (na + nb - nr_258) 0).take ((na + 1) / 2) ++ Zr_292) := NatR.of_blk B_292 rfl lt_292 (by exact lq) (by omega) (by unfold CapMax; omega)
            have hR298 := ((((((hR236.trans hE240).trans hE260).rx hU266).xr hE271).xr hE282).xr hE287).trans hE294
            exact ⟨(some ⟨g222, 0, none⟩), (na + nb), (na + nb), ((dr_258 ++ List.replicate (na + nb - nr_258) 0).take ((na + 1) / 2) ++ Zr_292), rfl, (Frm.mono hR298 q4), (NatR.sub h297 q5), (kara_short (lo := dr_258) (hi := dr_285) (h := ((na + 1) / 2)) (n := na + nb) (by omega) ha.2 hb.2 (by omega) v_258 (by rw [e_285, val_trim, v_280]) (by omega) (by omega) ln_292 e_292), (by omega)⟩
          · refine sV (evLeq false rfl rfl (dF hc251)) (sK hK250 (cF rfl (wp_skip (xN (hK249 _ _ (wp_seq_k fun K299 hK299 => dBegin (fun _ => False) mixed (fun w300 hE301 hz302 => dMs 0 rfl rfl (dMi 1 rfl rfl ?_))))))))
            have hR303 := (hE234.trans hE240).trans hE301
            have h304 := (h231.ext hR303)
            have h305 := h304.take (m := (na + 1) / 2) (by omega)
            refine dV 2 rfl (fun _ _ => evSliceHi ((na + 1) / 2) Tryz.underlying23 sz26 rfl rfl (by omega) (by omega)) (dMs 3 rfl rfl (dMi 4 rfl rfl ?_))
            have hR307 := hE240.trans hE301
            have h308 := (h237.ext hR307)
            have h309 := h308.take (m := (na + 1) / 2) (by omega)
            refine dV 5 rfl (fun _ _ => evSliceHi ((na + 1) / 2) Tryz.underlying23 sz26 rfl rfl (by omega) (by omega)) (dOp 6 rfl rfl (by kernel_rfl) (oCall rfl call110 (ih h305 h309 (by omega) (by omega)) rfl ?_))
            rintro _ w312 ⟨Ar_311, nr_311, cr_311, dr_311, rfl, hE313, hr_311, v_311, ln_311⟩
            refine ⟨(Frm.of_ext hE313), ?_⟩
            have hz314 := hE313.size
            have ⟨lr_311, kr_311, mr_311⟩ := hr_311.lkm
            refine dAs 7 rfl rfl (dDone (by kernel_rfl) (xN (hK299 _ _ (wp_seq_k fun K316 hK316 => dBegin (fun _ => False) mixed (fun w317 hE318 hz319 => dMs 0 rfl rfl (dMi 1 rfl rfl ?_))))))
            have hR320 := hE313.trans hE318
            have h321 := (h304.ext hR320)
            have h324 := h321.drop (m := (na + 1) / 2) (by omega)
            refine dV 2 rfl (fun _ _ => evSliceLo ((na + 1) / 2) Tryz.underlying23 sz26 rfl rfl (by omega) (by omega) (by omega)) ?_
            generalize (if ca = ((na + 1) / 2) then Aa else Aa.map (·.add (((na + 1) / 2) * 1))) = A322 at *
            refine dMs 3 rfl rfl (dMi 4 rfl rfl ?_)
            have h326 := (h308.ext hR320)
            have h329 := h326.drop (m := (na + 1) / 2) (by omega)
            refine dV 5 rfl (fun _ _ => evSliceLo ((na + 1) / 2) Tryz.underlying23 sz26 rfl rfl (by omega) (by omega) (by omega)) ?_
            generalize (if cb = ((na + 1) / 2) then Ab else Ab.map (·.add (((na + 1) / 2) * 1))) = A327 at *
            refine dOp 6 rfl rfl (by kernel_rfl) (oCall rfl call110 (ih h324 h329 (by omega) (by omega)) rfl ?_)
            rintro _ w332 ⟨Ar_331, nr_331, cr_331, dr_331, rfl, hE333, hr_331, v_331, ln_331⟩
            refine ⟨(Frm.of_ext hE333), ?_⟩
            have hz334 := hE333.size
            have ⟨lr_331, kr_331, mr_331⟩ := hr_331.lkm
            refine dAs 7 rfl rfl (dDone (by kernel_rfl) (xN (hK316 _ _ (wp_seq_k fun K336 hK336 => dBegin (fun _ => False) mixed (fun w337 hE338 hz339 => dMs 0 rfl rfl (dMi 1 rfl rfl ?_))))))
            have hR340 := hE333.trans hE338
            have h341 := (h321.ext hR340)
            have h342 := h341.take (m := (na + 1) / 2) (by omega)
            refine dV 2 rfl (fun _ _ => evSliceHi ((na + 1) / 2) Tryz.underlying23 sz26 rfl rfl (by omega) (by omega)) (dMs 3 rfl rfl (dMi 4 rfl rfl ?_))
            have h346 := h341.drop (m := (na + 1) / 2) (by omega)
            refine dV 5 rfl (fun _ _ => evSliceLo ((na + 1) / 2) Tryz.underlying23 sz26 rfl rfl (by omega) (by omega) (by omega)) ?_
            generalize (if ca = ((na + 1) / 2) then Aa else Aa.map (·.add (((na + 1) / 2) * 1))) = A344 at *
            refine dMs 7 rfl rfl (dMi 8 rfl rfl ?_)
            have h348 := (h326.ext hR340)
            have h349 := h348.take (m := (na + 1) / 2) (by omega)
            refine dV 9 rfl (fun _ _ => evSliceHi ((na + 1) / 2) Tryz.underlying23 sz26 rfl rfl (by omega) (by omega)) (dMs 10 rfl rfl (dMi 11 rfl rfl ?_))
            have h353 := h348.drop (m := (na + 1) / 2) (by omega)
            refine dV 12 rfl (fun _ _ => evSliceLo ((na + 1) / 2) Tryz.underlying23 sz26 rfl rfl (by omega) (by omega) (by omega)) ?_
            generalize (if cb = ((na + 1) / 2) then Ab else Ab.map (·.add (((na + 1) / 2) * 1))) = A351 at *
            refine dOp 6 rfl rfl (by kernel_rfl) (oCall rfl call46 (natural_Add h342 h346 (by omega) (by omega)) rfl ?_)
            rintro _ w356 ⟨Ar_355, nr_355, cr_355, dr_355, rfl, hE357, hr_355, v_355, cn_355, le_355⟩
            refine ⟨(Frm.of_ext hE357), ?_⟩
            have hz358 := hE357.size
            have ⟨lr_355, kr_355, mr_355⟩ := hr_355.lkm
            have h360 := (h349.ext hE357)
            have h361 := (h353.ext hE357)
            refine dOp 13 rfl rfl (by kernel_rfl) (oCall rfl call46 (natural_Add h360 h361 (by omega) (by omega)) rfl ?_)
            rintro _ w363 ⟨Ar_362, nr_362, cr_362, dr_362, rfl, hE364, hr_362, v_362, cn_362, le_362⟩
            refine ⟨(Frm.of_ext hE364), ?_⟩
            have hz365 := hE364.size
            have ⟨lr_362, kr_362, mr_362⟩ := hr_362.lkm
            have h367 := (hr_355.ext hE364)
            refine dOp 14 rfl rfl (by kernel_rfl) (oCall rfl call110 (ih h367 hr_362 (by omega) (by omega)) rfl ?_)
            rintro _ w369 ⟨Ar_368, nr_368, cr_368, dr_368, rfl, hE370, hr_368, v_368, ln_368⟩
            refine ⟨(Frm.of_ext hE370), ?_⟩
            have hz371 := hE370.size
            have ⟨lr_368, kr_368, mr_368⟩ := hr_368.lkm
            refine dAs 15 rfl rfl (dDone (by kernel_rfl) (xN (hK336 _ _ (rS fun K373 hK373 => sMs rfl (sMs rfl (sMs rfl ?_))))))
            have hR374 := ((((hE318.trans hE333).trans hE338).trans hE357).trans hE364).trans hE370
            have h375 := (hr_311.ext hR374)
            have hR376 := ((hE338.trans hE357).trans hE364).trans hE370
            have h377 := (hr_331.ext hR376)
            refine sO (oCall rfl call46 (natural_Add h375 h377 (by omega) (by omega)) rfl ?_)
            rintro _ w379 ⟨Ar_378, nr_378, cr_378, dr_378, rfl, hE380, hr_378, v_378, cn_378, le_378⟩
            have hz381 := hE380.size
            have ⟨lr_378, kr_378, mr_378⟩ := hr_378.lkm
            have h383 := (hr_368.ext hE380)
            refine sO (oCall rfl call48 (natural_Sub h383 hr_378 (by omega) (by omega)) rfl ?_)
            rintro _ w385 ⟨Ar_384, nr_384, cr_384, dr_384, gk_384, rfl, hE386, hr_384, k_384, v_384, cn_384, le_384⟩
            have hz387 := hE386.size
            have ⟨lr_384, kr_384, mr_384⟩ := hr_384.lkm
            refine sV (v := (.tuple #[(.slice Ar_384 nr_384 cr_384), (.bool gk_384)])) (rfl) (sV (v := (.slice Ar_384 nr_384 cr_384)) (rfl) (sV (v := (.bool gk_384)) (rfl) (sAs rfl (sK hK373 (rS fun K389 hK389 => sMs rfl (sMs rfl ?_))))))
            have hR390 := ((((((((hR303.trans hE313).trans hE318).trans hE333).trans hE338).trans hE357).trans hE364).trans hE370).trans hE380).trans hE386
            have hB391 := (hB228.ext hR390)
            have hR392 := hE380.trans hE386
            have h393 := (h375.ext hR392)
            refine sO (oCopy Tryz.underlying23 sz26 rfl rfl h393.1 (u32s_one _) hB391 (by omega) (by exact lq) (fun w394 hU395 hz396 hB397 => ?_))
            replace hB397 : Blk w394 g222 26 ((dr_311 ++ List.replicate (na + nb - nr_311) 0).map u32) := by rw [← (copy_first lr_311 (by omega) : (List.replicate (na + nb) 0).take 0 ++ dr_311 ++ (List.replicate (na + nb) 0).drop (0 + nr_311) = dr_311 ++ List.replicate (na + nb - nr_311) 0), List.map_append, List.map_append, List.map_take, List.map_drop]; exact hB397
            rw [put_mkA]
            refine sK hK389 (rS fun K398 hK398 => sMs rfl (sMi rfl (sV (evMul (2 * ((((na + 1) / 2 : Nat) : Int))) rfl rfl wI) (sV (evSliceLoAt (2 * ((na + 1) / 2)) Tryz.underlying23 sz26 rfl rfl (by omega) (by omega) (by omega) (by omega) (2 * ((na + 1) / 2)) (by omega)) (sMs rfl ?_)))))
            have hR399 := hR392.rx hU395
            have h400 := (h377.frmB hR399 q3)
            rw [show na + nb - nr_311 = nr_331 by omega] at hB397
            refine sO (oCopy Tryz.underlying23 sz26 rfl rfl h400.1 (u32s_one _) hB397 (by omega) (by exact lq) (fun w401 hU402 hz403 hB404 => ?_))
            replace hB404 : Blk w401 g222 26 ((dr_311 ++ dr_331).map u32) := by rw [← (copy_second (lr_311.trans (by omega)) lr_331 (by omega) : (dr_311 ++ List.replicate nr_331 0).take (2 * ((na + 1) / 2)) ++ dr_331 ++ (dr_311 ++ List.replicate nr_331 0).drop ((2 * ((na + 1) / 2)) + nr_331) = dr_311 ++ dr_331), List.map_append, List.map_append, List.map_take, List.map_drop]; exact hB404
            rw [put_mkA]
            refine sK hK398 (rS fun K405 hK405 => sMs rfl (sMi rfl (sV (evSliceLoAt ((na + 1) / 2) Tryz.underlying23 sz26 rfl rfl (by omega) (by omega) (by omega) (by omega) ((na + 1) / 2) (by omega)) ?_)))
            have hmid : val dr_384 = val (da.take ((na + 1) / 2)) * val (db.drop ((na + 1) / 2)) + val (da.drop ((na + 1) / 2)) * val (db.take ((na + 1) / 2)) := kara_mid (m := val dr_368) (by rw [v_368, v_355, v_362]) v_311 v_331 (by rw [v_384, v_378])
            have hml := lt_val_len cn_384 (kara_mid_lt (h := ((na + 1) / 2)) (n := na + nb) (by omega) (by omega) ha.2 hb.2 (by omega) hmid)
            refine sMs rfl ?_
            have hR406 := hU395.trans hU402
            have h407 := (hr_384.frmB hR406 q3)
            refine sO (oCall rfl call127 (natural_addInto (Uz := (dr_311 ++ dr_331).take ((na + 1) / 2)) (Zz := (dr_311 ++ dr_331).drop ((na + 1) / 2)) (by rw [List.take_append_drop]; exact hB404) (by exact lq) (by exact lq) (by rw [List.take_append_drop]; exact (lt_app hr_311.2 hr_331.2)) (by omega) (by omega) (NatR.sub h407 q5) (by omega)) rfl ?_)
            rintro _ w409 ⟨Zr_408, cr_408, rfl, hE410, B_408, ln_408, lt_408, e_408⟩
            have hz411 := hE410.size
            refine sK hK405 (rS fun K412 hK412 => sMs rfl (sAs rfl (sK hK412 (wp_ret (ret1 (.slice (some ⟨g222, 0, none⟩) (na + nb) (na + nb)) Tryz.results110 (resT rfl) ?_)))))
            have h413 : NatR w409 (fun b => b = g222) (some ⟨g222, 0, none⟩) (na + nb) (na + nb) ((dr_311 ++ dr_331).take ((na + 1) / 2) ++ Zr_408) := NatR.of_blk B_408 rfl lt_408 (by exact lq) (by omega) (by unfold CapMax; omega)
            have hR414 := (((((((((((((hR236.trans hE240).trans hE301).trans hE313).trans hE318).trans hE333).trans hE338).trans hE357).trans hE364).trans hE370).trans hE380).trans hE386).rx hU395).trans hU402).trans hE410
            exact ⟨(some ⟨g222, 0, none⟩), (na + nb), (na + nb), ((dr_311 ++ dr_331).take ((na + 1) / 2) ++ Zr_408), rfl, (Frm.mono hR414 q4), (NatR.sub h413 q5), (kara_full (h := ((na + 1) / 2)) (n := na + nb) (by omega) (by omega) ha.2 hb.2 (by omega) v_311 v_331 hmid (by omega) (by omega) ln_408 e_408), (by omega)⟩
      · refine sSkip rfl rfl (sSkip rfl rfl (sV (v := (.bool true)) (rfl) (sK hK230 (cT rfl (rS fun K415 hK415 => sMs rfl (sAs rfl (sK hK415 (wp_ret (xR (ret1 (.slice (some ⟨g222, 0, none⟩) (na + nb) (na + nb)) Tryz.results110 (resT rfl) ?_))))))))))
        have hB416 := (hB228.ext hE234)
        have h417 : NatR w233 (fun b => b = g222) (some ⟨g222, 0, none⟩) (na + nb) (na + nb) (List.replicate (na + nb) 0) := NatR.of_blk hB416 rfl (lt_zeros _) (by exact lq) (by omega) (by unfold CapMax; omega)
        have hR418 := hE225.trans hE234
        exact ⟨(some ⟨g222, 0, none⟩), (na + nb), (na + nb), (List.replicate (na + nb) 0), rfl, hR418, (NatR.sub h417 q5), (by rw [val_zeros, zmul1 (of_decide_eq_true e_232.symm)]), (by omega)⟩
theorem natural_product_all (N : Nat) : ∀ {w : World} {Sa : Nat → Prop} {Aa : Option Addr} {na ca : Nat} {da : List Nat} {Sb : Nat → Prop} {Ab : Option Addr} {nb cb : Nat} {db : List Nat} (ha : NatR w Sa Aa na ca da) (hb : NatR w Sb Ab nb cb db) (hna : na + nb ≤ 1099511627776) (hN : na + nb ≤ N), Calls Tryz.prog 110 #[(.slice Aa na ca), (.slice Ab nb cb)] w (Ret fun v w' => ∃ (Ar : Option Addr) (nr : Nat) (cr : Nat) (dr : List Nat), v = (.slice Ar nr cr) ∧ Ext w w' ∧ NatR w' (fun b => w.heap.size ≤ b) Ar nr cr dr ∧ (val dr = val da * val db) ∧ (nr = na + nb)) := by
  induction N with
  | zero => intros; exact natural_product_step 0 (by intros; omega) (by assumption) (by assumption) (by omega) (by omega)
  | succ N ih => intros; exact natural_product_step (N + 1) (by intros; exact ih (by assumption) (by assumption) (by omega) (by omega)) (by assumption) (by assumption) (by omega) (by omega)
theorem natural_product {w : World} {Sa : Nat → Prop} {Aa : Option Addr} {na ca : Nat} {da : List Nat} {Sb : Nat → Prop} {Ab : Option Addr} {nb cb : Nat} {db : List Nat} (ha : NatR w Sa Aa na ca da) (hb : NatR w Sb Ab nb cb db) (hna : na + nb ≤ 1099511627776) : Calls Tryz.prog 110 #[(.slice Aa na ca), (.slice Ab nb cb)] w (Ret fun v w' => ∃ (Ar : Option Addr) (nr : Nat) (cr : Nat) (dr : List Nat), v = (.slice Ar nr cr) ∧ Ext w w' ∧ NatR w' (fun b => w.heap.size ≤ b) Ar nr cr dr ∧ (val dr = val da * val db) ∧ (nr = na + nb)) := natural_product_all (na + nb) ha hb hna (Nat.le_refl _)
theorem natural_Mul {w : World} {Sa : Nat → Prop} {Aa : Option Addr} {na ca : Nat} {da : List Nat} {Sb : Nat → Prop} {Ab : Option Addr} {nb cb : Nat} {db : List Nat} (ha : NatR w Sa Aa na ca da) (hb : NatR w Sb Ab nb cb db) (hna : na + nb ≤ 1099511627776) : Calls Tryz.prog 73 #[(.slice Aa na ca), (.slice Ab nb cb)] w (Ret fun v w' => ∃ (Ar : Option Addr) (nr : Nat) (cr : Nat) (dr : List Nat), v = (.slice Ar nr cr) ∧ Ext w w' ∧ NatR w' (fun b => w.heap.size ≤ b) Ar nr cr dr ∧ (val dr = val da * val db) ∧ (Canon isZ dr) ∧ (nr ≤ na + nb)) := by
  have ⟨la, ka, ma⟩ := ha.lkm
  replace ha := ha.low
  have ⟨lb, kb, mb⟩ := hb.lkm
  replace hb := hb.low
  refine enter Tryz.func73 rfl Tryz.ntmps73 rfl (rS fun K1 hK1 => sAs rfl (sK hK1 (rS fun K2 hK2 => sMs rfl (sO (oCall rfl call87 (natural_trim ha) rfl ?_)))))
  rintro _ w4 ⟨Ar_3, nr_3, cr_3, dr_3, rfl, hE5, hr_3, e_3, le_3⟩
  have hz6 := hE5.size
  have ⟨lr_3, kr_3, mr_3⟩ := hr_3.lkm
  refine sMs rfl ?_
  have h8 := (hb.ext hE5)
  refine sO (oCall rfl call87 (natural_trim h8) rfl ?_)
  rintro _ w10 ⟨Ar_9, nr_9, cr_9, dr_9, rfl, hE11, hr_9, e_9, le_9⟩
  have hz12 := hE11.size
  have ⟨lr_9, kr_9, mr_9⟩ := hr_9.lkm
  have h14 := (hr_3.ext hE11)
  refine sO (oCall rfl call110 (natural_product h14 hr_9 (by omega)) rfl ?_)
  rintro _ w16 ⟨Ar_15, nr_15, cr_15, dr_15, rfl, hE17, hr_15, v_15, ln_15⟩
  have hz18 := hE17.size
  have ⟨lr_15, kr_15, mr_15⟩ := hr_15.lkm
  refine sO (oCall rfl call87 (natural_trim hr_15) rfl ?_)
  rintro _ w21 ⟨Ar_20, nr_20, cr_20, dr_20, rfl, hE22, hr_20, e_20, le_20⟩
  have hz23 := hE22.size
  have ⟨lr_20, kr_20, mr_20⟩ := hr_20.lkm
  refine sAs rfl (sK hK2 (wp_ret (ret1 (.slice Ar_20 nr_20 cr_20) Tryz.results73 (resT rfl) ?_)))
  have hR25 := ((hE5.trans hE11).trans hE17).trans hE22
  exact ⟨Ar_20, nr_20, cr_20, dr_20, rfl, hR25, (NatR.sub hr_20 q5), (by rw [e_20, val_trim, v_15, e_3, e_9, val_trim, val_trim]), (by rw [e_20]; exact canon_trim _ _), (by omega)⟩
end Go.Proofs.YtneolcopompkaaaGreatDoor
