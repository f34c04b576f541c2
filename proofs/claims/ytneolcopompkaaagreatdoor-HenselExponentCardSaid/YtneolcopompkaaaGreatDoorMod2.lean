/-
  Walks of package modpoly: normal forms, sums, products.
-/
import Derived.Test.YtneolcopompkaaaGreatDoorMod1
import Derived.Test.YtneolcopompkaaaGreatDoorUni4
import Derived.Test.YtneolcopompkaaaGreatDoorLibB
namespace Go.Proofs.YtneolcopompkaaaGreatDoor
open Go.RowKit Go.Gx
theorem modpoly_trim {w : World} {Sa : Nat → Prop} {Aa : Option Addr} {na ca : Nat} {da : List Nat} (ha : NatR w Sa Aa na ca da)  : Calls Tryz.prog 53 #[(.slice Aa na ca)] w (Ret fun v w' => ∃ (Ar : Option Addr) (nr : Nat) (cr : Nat) (dr : List Nat), v = (.slice Ar nr cr) ∧ Ext w w' ∧ NatR w' (Sa) Ar nr cr dr ∧ (dr = trimN da) ∧ (nr ≤ na)) := by
  have ⟨la, ka, ma⟩ := ha.lkm
  refine enter Tryz.func53 rfl Tryz.ntmps53 rfl (rS fun K1 hK1 => sAs rfl (sK hK1 (rS fun K2 hK2 => sMs rfl (sV (evLen Tryz.underlying46 rfl) (sAi rfl (sK hK2 (wp_seq_k fun K3 hK3 => wp_block ?_)))))))
  refine lLoop (fun m e w_ => ∃ (k : Nat), m = k ∧ e 0 = (.slice Aa na ca) ∧ e 3 = (.int .i64 ((k : Int))) ∧ Frm (fun b => False) w w_ ∧ (k ≤ na) ∧ (∀ j, k ≤ j → da.getD j 0 = 0)) ((na)) ?_ ?_
  · refine ⟨(na), rfl, rfl, cI, (Frm.refl _ _), ?_, ?_⟩
    · omega
    · exact getD_ge (by omega)
  · rintro m4 e10 w5 ⟨k, hm9, hs6, hs7, hF8, hk, hz⟩
    obtain ⟨r11, rfl⟩ := sq (e := e10) (t := 0) hs6
    obtain ⟨r12, rfl⟩ := sq (e := r11) (t := 3) hs7
    have hz13 := hF8.size
    refine wp_seq_k fun K14 hK14 => rS fun K15 hK15 => sMi rfl ?_
    by_cases hc16 : ((k : Int)) > 0
    · refine sV (evGtr true rfl rfl (dT hc16)) (sMb rfl (sEv (v := (.slice Aa na ca)) (rfl) rfl rfl (sEv (v := (.int .i64 ((k : Int)))) (rfl) rfl rfl (sEv (v := (.int .i64 (((k : Int)) - 1))) (evSub (((k : Int)) - 1) rfl rfl wI) rfl rfl ?_))))
      have h17 := (ha.ext hF8)
      obtain ⟨b18, o19, rfl⟩ := h17.base (by omega)
      refine sEv (v := (.pointer (some ⟨b18, o19 + (k - 1), none⟩))) (evIx (k - 1) Tryz.underlying46 sz26 rfl rfl (o19 + (k - 1))) rfl rfl ?_
      have hd20 := h17.lt (k - 1)
      refine sEv (v := (.int .u32 (((da.getD (k - 1) 0 : Nat) : Int)))) (evLoad one26 rfl (h17.cell (by omega))) rfl rfl ?_
      by_cases hc21 : (((da.getD (k - 1) 0 : Nat) : Int)) = 0
      · refine sEv (v := (.bool true)) (evEql true rfl rfl (dT hc21)) rfl rfl (sV (v := (.bool true)) (rfl) (sK hK15 (cT rfl (wp_skip (xN (hK14 _ _ (wp_block (wp_region_lit (sMi rfl (sV (evSub (((k : Int)) - 1) rfl rfl wI) (sAi rfl (sDone (bN (again ((k - 1)) (by omega) ⟨(k - 1), rfl, rfl, cI, hF8, ?_, ?_⟩))))))))))))))
        · omega
        · exact zeros_down hz (by omega)
      · refine sEv (v := (.bool false)) (evEql false rfl rfl (dF hc21)) rfl rfl (sV (v := (.bool false)) (rfl) (sK hK15 (cF rfl (wp_exit (xE (xE (bE (xN (hK3 _ _ (rS fun K22 hK22 => sMs rfl (sMi rfl ?_)))))))))))
        have h23 := h17.take (m := k) (by omega)
        refine sV (evSliceHi k Tryz.underlying46 sz26 rfl rfl (by omega) (by omega)) (sAs rfl (sK hK22 (wp_ret (ret1 (.slice (some ⟨b18, o19, none⟩) k ca) Tryz.results53 (resT rfl) ?_))))
        exact ⟨(some ⟨b18, o19, none⟩), k, ca, ((da).take k), rfl, hF8, h23, (trimN_of (by omega) hz (by omega)), (by omega)⟩
    · refine sV (evGtr false rfl rfl (dF hc16)) (sMb rfl (sSkip rfl rfl (sSkip rfl rfl (sSkip rfl rfl (sSkip rfl rfl (sSkip rfl rfl (sSkip rfl rfl (sV (v := (.bool false)) (rfl) (sK hK15 (cF rfl (wp_exit (xE (xE (bE (xN (hK3 _ _ (rS fun K25 hK25 => sMs rfl (sMi rfl ?_))))))))))))))))))
      have h26 := (ha.ext hF8)
      have h27 := h26.take (m := k) (by omega)
      refine sV (evSliceHi k Tryz.underlying46 sz26 rfl rfl (by omega) (by omega)) (sAs rfl (sK hK25 (wp_ret (ret1 (.slice Aa k ca) Tryz.results53 (resT rfl) ?_))))
      exact ⟨Aa, k, ca, ((da).take k), rfl, hF8, h27, (trimN_of (by omega) hz (by omega)), (by omega)⟩
theorem modpoly_Normal {w : World} {Sf : Nat → Prop} {Af : Option Addr} {nf cf : Nat} {df : List Nat} {xm : Nat} (hf : NatR w Sf Af nf cf df) (bm : xm < 4294967296) (hnf : nf ≤ 1048576) (hm : 0 < xm) : Calls Tryz.prog 77 #[(.slice Af nf cf), (.int .u32 ((xm : Int)))] w (Ret fun v w' => ∃ (Ar : Option Addr) (nr : Nat) (cr : Nat) (dr : List Nat), v = (.slice Ar nr cr) ∧ Ext w w' ∧ NatR w' (fun b => w.heap.size ≤ b) Ar nr cr dr ∧ (dr = nrmP xm df) ∧ (nr ≤ nf) ∧ (CanP xm dr)) := by
  have ⟨lf, kf, mf⟩ := hf.lkm
  replace hf := hf.low
  refine enter Tryz.func77 rfl Tryz.ntmps77 rfl (rS fun K1 hK1 => sAs rfl (sK hK1 (rS fun K2 hK2 => sMi rfl (sV (evMax ((xm : Int)) rfl rfl (by split <;> omega)) (sAi rfl (sK hK2 (rS fun K3 hK3 => sMs rfl (sV (evLen Tryz.underlying46 rfl) (sO (oMake1 nf Tryz.underlying46 inf26 rfl cI cI (by omega) (by omega) (fun g4 w5 hg6 hE7 hz8 hB9 => ?_)))))))))))
  have hB10 : Blk w5 g4 26 (((List.replicate nf 0)).map u32) := by rw [List.map_replicate]; exact hB9
  refine sAs rfl (sK hK3 (wp_seq_k fun K11 hK11 => rS fun K12 hK12 => sMs rfl (sV (evLen Tryz.underlying46 rfl) (sMi rfl (sK hK12 (wp_block ?_))))))
  refine lLoop (fun m e w_ => ∃ (k : Nat) (L : List Nat), m = nf - k ∧ e 5 = (.int .u32 ((xm : Int))) ∧ e 6 = (.slice (some ⟨g4, 0, none⟩) nf nf) ∧ e 14 = (.slice Af nf cf) ∧ e 15 = (.int .i64 ((nf : Int))) ∧ e 16 = (.int .i64 ((k : Int))) ∧ Frm (fun b => b = g4) w5 w_ ∧ Blk w_ g4 26 ((L ++ List.replicate (nf - k) 0).map u32) ∧ (k ≤ nf) ∧ (L.length = k) ∧ (L = (df.take k).map (· % xm)) ∧ (∀ d ∈ L, d < xm)) (nf - (0)) ?_ ?_
  · refine ⟨(0), ([]), rfl, rfl, rfl, rfl, rfl, cI, (Frm.refl _ _), ?_, ?_, ?_, ?_, ?_⟩
    · simpa using hB10
    · omega
    · rfl
    · rfl
    · simp
  · rintro m13 e23 w14 ⟨k, L, hm22, hs15, hs16, hs17, hs18, hs19, hF20, hB21, hk, hLl, hL, hLt⟩
    obtain ⟨r24, rfl⟩ := sq (e := e23) (t := 5) hs15
    obtain ⟨r25, rfl⟩ := sq (e := r24) (t := 6) hs16
    obtain ⟨r26, rfl⟩ := sq (e := r25) (t := 14) hs17
    obtain ⟨r27, rfl⟩ := sq (e := r26) (t := 15) hs18
    obtain ⟨r28, rfl⟩ := sq (e := r27) (t := 16) hs19
    have hz29 := hF20.size
    refine rS fun K30 hK30 => ?_
    by_cases hc31 : ((k : Int)) < ((nf : Int))
    · refine sV (evLss true rfl rfl (dT hc31)) (sK hK30 (wp_seq_k fun K32 hK32 => cT rfl (wp_skip (xN (hK32 _ _ (wp_seq_k fun K33 hK33 => wp_block (rS fun K34 hK34 => sMi rfl ?_)))))))
      have hR35 := hE7.rx hF20
      have h36 := (hf.frmB hR35 q3)
      obtain ⟨b37, o38, rfl⟩ := h36.base (by omega)
      refine sV (evIx k Tryz.underlying46 sz26 rfl rfl (o38 + k)) ?_
      have hd39 := h36.lt k
      refine sV (evLoad one26 rfl (h36.cell (by omega))) (sAi rfl (sAi rfl (sK hK34 (wp_region_lit (sMs rfl (sMi rfl (sMi rfl (sMi rfl (sV (evRem ((((df.getD k 0) % xm : Nat) : Int)) rfl rfl (by omega) (remE (by omega) (by omega))) (sV (evIx k Tryz.underlying46 sz26 rfl rfl k) (sO (oStore1 rfl rfl rfl sz26 hB21 (by exact lq) (fun w40 hU41 hz42 hB43 => ?_)))))))))))))
      replace hB43 : Blk w40 g4 26 (((L ++ [(df.getD k 0) % xm]) ++ List.replicate (nf - (k + 1)) 0).map u32) := by rw [← (fill_set2 hLl (by omega) : (L ++ List.replicate (nf - k) 0).set k ((df.getD k 0) % xm) = (L ++ [(df.getD k 0) % xm]) ++ List.replicate (nf - (k + 1)) 0), List.map_set]; exact hB43
      refine sDone (bN (xN (hK33 _ _ (wp_region_lit (sV (evAdd (((k : Int)) + 1) rfl rfl wI) (sMi rfl (sDone (again (nf - (k + 1)) (by omega) ⟨(k + 1), (L ++ [(df.getD k 0) % xm]), rfl, rfl, rfl, rfl, rfl, cI, (hF20.trans hU41), ?_, ?_, ?_, ?_, ?_⟩))))))))
      · exact hB43
      · omega
      · simp [hLl]
      · exact map_snocN hL (by omega) (rfl)
      · exact lt_snocP hLt (Nat.mod_lt _ (by omega))
    · refine sV (evLss false rfl rfl (dF hc31)) (sK hK30 (wp_seq_k fun K44 hK44 => cF rfl (wp_exit (xE (xE (bE (xN (hK11 _ _ (rS fun K45 hK45 => sMs rfl ?_)))))))))
      have h46 : NatR w14 (fun b => b = g4) (some ⟨g4, 0, none⟩) nf nf (L ++ List.replicate (nf - k) 0) := NatR.of_blk hB21 rfl (lt_fill (lt_BS bm hLt)) (by exact lq) (by omega) (by unfold CapMax; omega)
      refine sO (oCall rfl call53 (modpoly_trim h46) rfl ?_)
      rintro _ w48 ⟨Ar_47, nr_47, cr_47, dr_47, rfl, hE49, hr_47, e_47, le_47⟩
      have hz50 := hE49.size
      have ⟨lr_47, kr_47, mr_47⟩ := hr_47.lkm
      refine sAs rfl (sK hK45 (wp_ret (ret1 (.slice Ar_47 nr_47 cr_47) Tryz.results77 (resT rfl) ?_)))
      have hR52 := (hE7.rx hF20).xr hE49
      exact ⟨Ar_47, nr_47, cr_47, dr_47, rfl, (Frm.mono hR52 q4), (NatR.sub hr_47 q5), (by rw [e_47, show nf - k = 0 by omega, List.replicate_zero, List.append_nil, map_fullN hL (by omega)]; rfl), (by omega), (by rw [e_47]; exact canP_trim (lt_fillP hLt (by omega)))⟩
theorem modpoly_Scale {w : World} {Sf : Nat → Prop} {Af : Option Addr} {nf cf : Nat} {df : List Nat} {xc : Nat} {xm : Nat} (hf : NatR w Sf Af nf cf df) (bc : xc < 4294967296) (bm : xm < 4294967296) (hnf : nf ≤ 1048576) (hm : 0 < xm) : Calls Tryz.prog 40 #[(.slice Af nf cf), (.int .u32 ((xc : Int))), (.int .u32 ((xm : Int)))] w (Ret fun v w' => ∃ (Ar : Option Addr) (nr : Nat) (cr : Nat) (dr : List Nat), v = (.slice Ar nr cr) ∧ Ext w w' ∧ NatR w' (fun b => w.heap.size ≤ b) Ar nr cr dr ∧ (dr = scalP xm df xc) ∧ (nr ≤ nf) ∧ (CanP xm dr)) := by
  have ⟨lf, kf, mf⟩ := hf.lkm
  replace hf := hf.low
  refine enter Tryz.func40 rfl Tryz.ntmps40 rfl (rS fun K1 hK1 => sAs rfl (sK hK1 (rS fun K2 hK2 => sMs rfl (sV (evLen Tryz.underlying46 rfl) (sO (oMake1 nf Tryz.underlying46 inf26 rfl cI cI (by omega) (by omega) (fun g3 w4 hg5 hE6 hz7 hB8 => ?_)))))))
  have hB9 : Blk w4 g3 26 (((List.replicate nf 0)).map u32) := by rw [List.map_replicate]; exact hB8
  refine sAs rfl (sK hK2 (wp_seq_k fun K10 hK10 => rS fun K11 hK11 => sMs rfl (sV (evLen Tryz.underlying46 rfl) (sMi rfl (sK hK11 (wp_block ?_))))))
  refine lLoop (fun m e w_ => ∃ (k : Nat) (L : List Nat), m = nf - k ∧ e 1 = (.int .u32 ((xc : Int))) ∧ e 2 = (.int .u32 ((xm : Int))) ∧ e 7 = (.slice (some ⟨g3, 0, none⟩) nf nf) ∧ e 13 = (.slice Af nf cf) ∧ e 14 = (.int .i64 ((nf : Int))) ∧ e 15 = (.int .i64 ((k : Int))) ∧ Frm (fun b => b = g3) w4 w_ ∧ Blk w_ g3 26 ((L ++ List.replicate (nf - k) 0).map u32) ∧ (k ≤ nf) ∧ (L.length = k) ∧ (L = (df.take k).map (fun a => a * xc % xm)) ∧ (∀ d ∈ L, d < xm)) (nf - (0)) ?_ ?_
  · refine ⟨(0), ([]), rfl, rfl, rfl, rfl, rfl, rfl, cI, (Frm.refl _ _), ?_, ?_, ?_, ?_, ?_⟩
    · simpa using hB9
    · omega
    · rfl
    · rfl
    · simp
  · rintro m12 e23 w13 ⟨k, L, hm22, hs14, hs15, hs16, hs17, hs18, hs19, hF20, hB21, hk, hLl, hL, hLt⟩
    obtain ⟨r24, rfl⟩ := sq (e := e23) (t := 1) hs14
    obtain ⟨r25, rfl⟩ := sq (e := r24) (t := 2) hs15
    obtain ⟨r26, rfl⟩ := sq (e := r25) (t := 7) hs16
    obtain ⟨r27, rfl⟩ := sq (e := r26) (t := 13) hs17
    obtain ⟨r28, rfl⟩ := sq (e := r27) (t := 14) hs18
    obtain ⟨r29, rfl⟩ := sq (e := r28) (t := 15) hs19
    have hz30 := hF20.size
    refine rS fun K31 hK31 => ?_
    by_cases hc32 : ((k : Int)) < ((nf : Int))
    · refine sV (evLss true rfl rfl (dT hc32)) (sK hK31 (wp_seq_k fun K33 hK33 => cT rfl (wp_skip (xN (hK33 _ _ (wp_seq_k fun K34 hK34 => wp_block (rS fun K35 hK35 => sMi rfl ?_)))))))
      have hR36 := hE6.rx hF20
      have h37 := (hf.frmB hR36 q3)
      obtain ⟨b38, o39, rfl⟩ := h37.base (by omega)
      refine sV (evIx k Tryz.underlying46 sz26 rfl rfl (o39 + k)) ?_
      have hd40 := h37.lt k
      refine sV (evLoad one26 rfl (h37.cell (by omega))) (sAi rfl (sAi rfl (sK hK35 (wp_region_lit (sMs rfl (sMi rfl (sMi rfl (sMi rfl (sMi rfl (sO (oCall rfl call84 (modular_Mul (xa := df.getD k 0) (by omega) (xb := xc) (by omega) (xm := xm) (by omega) (by omega)) rfl ?_)))))))))))
      rintro _ w42 ⟨xr_41, rfl, hE43, br_41, e_41⟩
      have hz44 := hE43.size
      refine sV (evIx k Tryz.underlying46 sz26 rfl rfl k) ?_
      have hB45 := (hB21.ext hE43)
      refine sO (oStore1 rfl rfl rfl sz26 hB45 (by exact lq) (fun w46 hU47 hz48 hB49 => ?_))
      replace hB49 : Blk w46 g3 26 (((L ++ [xr_41]) ++ List.replicate (nf - (k + 1)) 0).map u32) := by rw [← (fill_set2 hLl (by omega) : (L ++ List.replicate (nf - k) 0).set k xr_41 = (L ++ [xr_41]) ++ List.replicate (nf - (k + 1)) 0), List.map_set]; exact hB49
      refine sDone (bN (xN (hK34 _ _ (wp_region_lit (sV (evAdd (((k : Int)) + 1) rfl rfl wI) (sMi rfl (sDone ?_)))))))
      have hR50 := hE43.rx hU47
      refine again (nf - (k + 1)) (by omega) ⟨(k + 1), (L ++ [xr_41]), rfl, rfl, rfl, rfl, rfl, rfl, cI, (hF20.trans hR50), ?_, ?_, ?_, ?_, ?_⟩
      · exact hB49
      · omega
      · simp [hLl]
      · exact map_snocN hL (by omega) (e_41)
      · exact lt_snocP hLt (by rw [e_41]; exact Nat.mod_lt _ (by omega))
    · refine sV (evLss false rfl rfl (dF hc32)) (sK hK31 (wp_seq_k fun K51 hK51 => cF rfl (wp_exit (xE (xE (bE (xN (hK10 _ _ (rS fun K52 hK52 => sMs rfl ?_)))))))))
      have h53 : NatR w13 (fun b => b = g3) (some ⟨g3, 0, none⟩) nf nf (L ++ List.replicate (nf - k) 0) := NatR.of_blk hB21 rfl (lt_fill (lt_BS bm hLt)) (by exact lq) (by omega) (by unfold CapMax; omega)
      refine sO (oCall rfl call53 (modpoly_trim h53) rfl ?_)
      rintro _ w55 ⟨Ar_54, nr_54, cr_54, dr_54, rfl, hE56, hr_54, e_54, le_54⟩
      have hz57 := hE56.size
      have ⟨lr_54, kr_54, mr_54⟩ := hr_54.lkm
      refine sAs rfl (sK hK52 (wp_ret (ret1 (.slice Ar_54 nr_54 cr_54) Tryz.results40 (resT rfl) ?_)))
      have hR59 := (hE6.rx hF20).xr hE56
      exact ⟨Ar_54, nr_54, cr_54, dr_54, rfl, (Frm.mono hR59 q4), (NatR.sub hr_54 q5), (by rw [e_54, show nf - k = 0 by omega, List.replicate_zero, List.append_nil, map_fullN hL (by omega)]; rfl), (by omega), (by rw [e_54]; exact canP_trim (lt_fillP hLt (by omega)))⟩
theorem modpoly_Reduce {w : World} {Sf : Nat → Prop} {Af : Option Addr} {nf cf Mf : Nat} {lf : List RI} {xm : Nat} (hf : PolyR w Sf Af nf cf lf Mf) (bm : xm < 4294967296) (hnf : nf ≤ 1048576) (hm : 0 < xm) (hMf : Mf ≤ 268435456) : Calls Tryz.prog 20 #[(.slice Af nf cf), (.int .u32 ((xm : Int)))] w (Ret fun v w' => ∃ (Ar : Option Addr) (nr : Nat) (cr : Nat) (dr : List Nat), v = (.slice Ar nr cr) ∧ Ext w w' ∧ NatR w' (fun b => w.heap.size ≤ b) Ar nr cr dr ∧ (dr = redP xm (zs lf)) ∧ (nr ≤ nf) ∧ (CanP xm dr)) := by
  have ⟨kf, jf, mf⟩ := hf.lkm
  replace hf := hf.low
  refine enter Tryz.func20 rfl Tryz.ntmps20 rfl (rS fun K1 hK1 => sAs rfl (sK hK1 (rS fun K2 hK2 => sMs rfl (sV (evLen Tryz.underlying39 rfl) (sO (oMake1 nf Tryz.underlying46 inf26 rfl cI cI (by omega) (by omega) (fun g3 w4 hg5 hE6 hz7 hB8 => ?_)))))))
  have hB9 : Blk w4 g3 26 (((List.replicate nf 0)).map u32) := by rw [List.map_replicate]; exact hB8
  refine sAs rfl (sK hK2 (wp_seq_k fun K10 hK10 => rS fun K11 hK11 => sMs rfl (sV (evLen Tryz.underlying39 rfl) (sMi rfl (sK hK11 (wp_block ?_))))))
  refine lLoop (fun m e w_ => ∃ (k : Nat) (L : List Nat), m = nf - k ∧ e 1 = (.int .u32 ((xm : Int))) ∧ e 5 = (.slice (some ⟨g3, 0, none⟩) nf nf) ∧ e 11 = (.slice Af nf cf) ∧ e 12 = (.int .i64 ((nf : Int))) ∧ e 13 = (.int .i64 ((k : Int))) ∧ Frm (fun b => b = g3) w4 w_ ∧ Blk w_ g3 26 ((L ++ List.replicate (nf - k) 0).map u32) ∧ (k ≤ nf) ∧ (L.length = k) ∧ (L = (List.range k).map fun i => md xm (co (zs lf) i)) ∧ (∀ d ∈ L, d < xm)) (nf - (0)) ?_ ?_
  · refine ⟨(0), ([]), rfl, rfl, rfl, rfl, rfl, cI, (Frm.refl _ _), ?_, ?_, ?_, ?_, ?_⟩
    · simpa using hB9
    · omega
    · rfl
    · rfl
    · simp
  · rintro m12 e22 w13 ⟨k, L, hm21, hs14, hs15, hs16, hs17, hs18, hF19, hB20, hk, hLl, hL, hLt⟩
    obtain ⟨r23, rfl⟩ := sq (e := e22) (t := 1) hs14
    obtain ⟨r24, rfl⟩ := sq (e := r23) (t := 5) hs15
    obtain ⟨r25, rfl⟩ := sq (e := r24) (t := 11) hs16
    obtain ⟨r26, rfl⟩ := sq (e := r25) (t := 12) hs17
    obtain ⟨r27, rfl⟩ := sq (e := r26) (t := 13) hs18
    have hz28 := hF19.size
    refine rS fun K29 hK29 => ?_
    by_cases hc30 : ((k : Int)) < ((nf : Int))
    · refine sV (evLss true rfl rfl (dT hc30)) (sK hK29 (wp_seq_k fun K31 hK31 => cT rfl (wp_skip (xN (hK31 _ _ (wp_seq_k fun K32 hK32 => wp_block (rS fun K33 hK33 => sMi rfl ?_)))))))
      have hR34 := hE6.rx hF19
      have h35 := (hf.frmB hR34 q3)
      obtain ⟨b36, o37, rfl⟩ := h35.base (by omega)
      refine sV (evIx k Tryz.underlying39 sz25 rfl rfl (o37 + (k * 2))) ?_
      obtain ⟨g_38, A_38, n_38, c_38, d_38, he_38, hp_38, hq_38, h_38, hM_38, hS_38, hb_38, z_38⟩ := h35.at_ (i := k) (by omega)
      have ⟨l_38, k_38, m_38⟩ := h_38.lkm
      refine sV (evLoadA [(.bool g_38), (.slice A_38 n_38 c_38)] agg25 sz25 rfl (cell2 hp_38 hq_38)) (sO (oAlloc [(.bool false), (.slice none 0 0)] zero25 rfl (fun g40 w41 hg42 hE43 hz44 hB45 => sAi rfl (sO (oStore [(.bool g_38), (.slice A_38 n_38 c_38)] rfl rfl rfl sz25 rfl hB45 (Nat.le_of_ble_eq_true rfl) (fun w46 hU47 hz48 hB49 => ?_))))))
      replace hB49 : Blk w46 g40 25 [(.bool g_38), (.slice A_38 n_38 c_38)] := hB49
      refine sK hK33 (wp_region_lit (sMs rfl (sMi rfl (sV (evLoadAB [(.bool g_38), (.slice A_38 n_38 c_38)] agg25 sz25 rfl hB49 rfl) (sMi rfl ?_)))))
      have hR50 := hE43.rx hU47
      have h51 := (h_38.frmB hR50 q3)
      refine sO (oCall rfl call24 (modular_Reduce h51 (xm := xm) (by omega) (by omega) (by omega)) rfl ?_)
      rintro _ w53 ⟨xr_52, rfl, hE54, br_52, e_52⟩
      have hz55 := hE54.size
      refine sV (evIx k Tryz.underlying46 sz26 rfl rfl k) ?_
      have hR56 := hR50.xr hE54
      have hB57 := (hB20.frm hR56 q1)
      refine sO (oStore1 rfl rfl rfl sz26 hB57 (by exact lq) (fun w58 hU59 hz60 hB61 => ?_))
      replace hB61 : Blk w58 g3 26 (((L ++ [xr_52]) ++ List.replicate (nf - (k + 1)) 0).map u32) := by rw [← (fill_set2 hLl (by omega) : (L ++ List.replicate (nf - k) 0).set k xr_52 = (L ++ [xr_52]) ++ List.replicate (nf - (k + 1)) 0), List.map_set]; exact hB61
      refine sDone (bN (xN (hK32 _ _ (wp_region_lit (sV (evAdd (((k : Int)) + 1) rfl rfl wI) (sMi rfl (sDone ?_)))))))
      have hR62 := hR56.tr hU59
      refine again (nf - (k + 1)) (by omega) ⟨(k + 1), (L ++ [xr_52]), rfl, rfl, rfl, rfl, rfl, cI, (Frm.mono (hF19.tr hR62) q4), ?_, ?_, ?_, ?_, ?_⟩
      · exact hB61
      · omega
      · simp [hLl]
      · exact range_snocN hL (by rw [e_52, z_38])
      · exact lt_snocP hLt (by rw [e_52]; exact md_lt (by omega) _)
    · refine sV (evLss false rfl rfl (dF hc30)) (sK hK29 (wp_seq_k fun K63 hK63 => cF rfl (wp_exit (xE (xE (bE (xN (hK10 _ _ (rS fun K64 hK64 => sMs rfl ?_)))))))))
      have h65 : NatR w13 (fun b => b = g3) (some ⟨g3, 0, none⟩) nf nf (L ++ List.replicate (nf - k) 0) := NatR.of_blk hB20 rfl (lt_fill (lt_BS bm hLt)) (by exact lq) (by omega) (by unfold CapMax; omega)
      refine sO (oCall rfl call53 (modpoly_trim h65) rfl ?_)
      rintro _ w67 ⟨Ar_66, nr_66, cr_66, dr_66, rfl, hE68, hr_66, e_66, le_66⟩
      have hz69 := hE68.size
      have ⟨lr_66, kr_66, mr_66⟩ := hr_66.lkm
      refine sAs rfl (sK hK64 (wp_ret (ret1 (.slice Ar_66 nr_66 cr_66) Tryz.results20 (resT rfl) ?_)))
      have hR71 := (hE6.rx hF19).xr hE68
      exact ⟨Ar_66, nr_66, cr_66, dr_66, rfl, (Frm.mono hR71 q4), (NatR.sub hr_66 q5), (by rw [e_66, show nf - k = 0 by omega, List.replicate_zero, List.append_nil, hL, show k = nf by omega, range_co (zlen _ |>.trans (by omega))]; rfl), (by omega), (by rw [e_66]; exact canP_trim (lt_fillP hLt (by omega)))⟩
theorem modpoly_Degree {w : World} {Sf : Nat → Prop} {Af : Option Addr} {nf cf : Nat} {df : List Nat} {xm : Nat} (hf : NatR w Sf Af nf cf df) (bm : xm < 4294967296) (hm : 0 < xm) : Calls Tryz.prog 63 #[(.slice Af nf cf), (.int .u32 ((xm : Int)))] w (Ret fun v w' => ∃ (xr : Int), v = (.int .i64 (xr)) ∧ Ext w w' ∧ (xr = ((nrmP xm df).length : Int) - 1) ∧ (-1 ≤ xr ∧ xr < nf)) := by
  have ⟨lf, kf, mf⟩ := hf.lkm
  replace hf := hf.low
  refine enter Tryz.func63 rfl Tryz.ntmps63 rfl (rS fun K1 hK1 => sAi rfl (sK hK1 (rS fun K2 hK2 => sMi rfl (sV (evMax ((xm : Int)) rfl rfl (by split <;> omega)) (sAi rfl (sK hK2 (rS fun K3 hK3 => sMs rfl (sV (evLen Tryz.underlying46 rfl) (sAi rfl (sK hK3 (wp_seq_k fun K4 hK4 => wp_block ?_)))))))))))
  refine lLoop (fun m e w_ => ∃ (k : Nat), m = k ∧ e 0 = (.slice Af nf cf) ∧ e 5 = (.int .u32 ((xm : Int))) ∧ e 6 = (.int .i64 ((k : Int))) ∧ Frm (fun b => False) w w_ ∧ (k ≤ nf) ∧ (∀ j, k ≤ j → (df.map (· % xm)).getD j 0 = 0)) ((nf)) ?_ ?_
  · refine ⟨(nf), rfl, rfl, rfl, cI, (Frm.refl _ _), ?_, ?_⟩
    · omega
    · exact getD_ge (by rw [List.length_map]; omega)
  · rintro m5 e12 w6 ⟨k, hm11, hs7, hs8, hs9, hF10, hk, hz⟩
    obtain ⟨r13, rfl⟩ := sq (e := e12) (t := 0) hs7
    obtain ⟨r14, rfl⟩ := sq (e := r13) (t := 5) hs8
    obtain ⟨r15, rfl⟩ := sq (e := r14) (t := 6) hs9
    have hz16 := hF10.size
    refine wp_seq_k fun K17 hK17 => rS fun K18 hK18 => sMi rfl ?_
    by_cases hc19 : ((k : Int)) > 0
    · refine sV (evGtr true rfl rfl (dT hc19)) (sMb rfl (sEv (v := (.slice Af nf cf)) (rfl) rfl rfl (sEv (v := (.int .i64 ((k : Int)))) (rfl) rfl rfl (sEv (v := (.int .i64 (((k : Int)) - 1))) (evSub (((k : Int)) - 1) rfl rfl wI) rfl rfl ?_))))
      have h20 := (hf.ext hF10)
      obtain ⟨b21, o22, rfl⟩ := h20.base (by omega)
      refine sEv (v := (.pointer (some ⟨b21, o22 + (k - 1), none⟩))) (evIx (k - 1) Tryz.underlying46 sz26 rfl rfl (o22 + (k - 1))) rfl rfl ?_
      have hd23 := h20.lt (k - 1)
      refine sEv (v := (.int .u32 (((df.getD (k - 1) 0 : Nat) : Int)))) (evLoad one26 rfl (h20.cell (by omega))) rfl rfl (sEv (v := (.int .u32 ((xm : Int)))) (rfl) rfl rfl (sEv (v := (.int .u32 ((((df.getD (k - 1) 0) % xm : Nat) : Int)))) (evRem ((((df.getD (k - 1) 0) % xm : Nat) : Int)) rfl rfl (by omega) (remE (by omega) (by omega))) rfl rfl ?_))
      by_cases hc24 : ((((df.getD (k - 1) 0) % xm : Nat) : Int)) = 0
      · refine sEv (v := (.bool true)) (evEql true rfl rfl (dT hc24)) rfl rfl (sV (v := (.bool true)) (rfl) (sK hK18 (cT rfl (wp_skip (xN (hK17 _ _ (wp_block (wp_region_lit (sMi rfl (sV (evSub (((k : Int)) - 1) rfl rfl wI) (sAi rfl (sDone (bN (again ((k - 1)) (by omega) ⟨(k - 1), rfl, rfl, rfl, cI, hF10, ?_, ?_⟩))))))))))))))
        · omega
        · exact deg_down hz (by omega)
      · refine sEv (v := (.bool false)) (evEql false rfl rfl (dF hc24)) rfl rfl (sV (v := (.bool false)) (rfl) (sK hK18 (cF rfl (wp_exit (xE (xE (bE (xN (hK4 _ _ (rS fun K25 hK25 => sMi rfl (sV (evSub (((k : Int)) - 1) rfl rfl wI) (sAi rfl (sK hK25 (wp_ret (ret1 (.int .i64 (((k : Int)) - 1)) Tryz.results63 (resT rfl) ?_)))))))))))))))
        exact ⟨(((k : Int)) - 1), rfl, hF10, (by rw [deg_end (by omega) hz (by omega)]), (by omega)⟩
    · refine sV (evGtr false rfl rfl (dF hc19)) (sMb rfl (sSkip rfl rfl (sSkip rfl rfl (sSkip rfl rfl (sSkip rfl rfl (sSkip rfl rfl (sSkip rfl rfl (sSkip rfl rfl (sSkip rfl rfl (sV (v := (.bool false)) (rfl) (sK hK18 (cF rfl (wp_exit (xE (xE (bE (xN (hK4 _ _ (rS fun K26 hK26 => sMi rfl (sV (evSub (((k : Int)) - 1) rfl rfl wI) (sAi rfl (sK hK26 (wp_ret (ret1 (.int .i64 (((k : Int)) - 1)) Tryz.results63 (resT rfl) ?_))))))))))))))))))))))))
      exact ⟨(((k : Int)) - 1), rfl, hF10, (by rw [deg_end (by omega) hz (by omega)]), (by omega)⟩
theorem modpoly_Compare {w : World} {Sf : Nat → Prop} {Af : Option Addr} {nf cf : Nat} {df : List Nat} {Sg : Nat → Prop} {Ag : Option Addr} {ng cg : Nat} {dg : List Nat} {xm : Nat} (hf : NatR w Sf Af nf cf df) (hg : NatR w Sg Ag ng cg dg) (bm : xm < 4294967296) (hnf : nf ≤ 1048576) (hng : ng ≤ 1048576) (hm : 0 < xm) : Calls Tryz.prog 83 #[(.slice Af nf cf), (.slice Ag ng cg), (.int .u32 ((xm : Int)))] w (Ret fun v w' => ∃ (xr : Int), v = (.int .i64 (xr)) ∧ Ext w w' ∧ (xr = cmpP (zl (nrmP xm df)) (zl (nrmP xm dg)))) := by
  have ⟨lf, kf, mf⟩ := hf.lkm
  replace hf := hf.low
  have ⟨lg, kg, mg⟩ := hg.lkm
  replace hg := hg.low
  refine enter Tryz.func83 rfl Tryz.ntmps83 rfl (rS fun K1 hK1 => sAi rfl (sK hK1 (rS fun K2 hK2 => sMs rfl (sMi rfl (sO (oCall rfl call77 (modpoly_Normal hf (xm := xm) (by omega) (by omega) (by omega)) rfl ?_))))))
  rintro _ w4 ⟨Ar_3, nr_3, cr_3, dr_3, rfl, hE5, hr_3, e_3, le_3, zr_3⟩
  have hz6 := hE5.size
  have ⟨lr_3, kr_3, mr_3⟩ := hr_3.lkm
  refine sMs rfl (sMi rfl ?_)
  have h8 := (hg.ext hE5)
  refine sO (oCall rfl call77 (modpoly_Normal h8 (xm := xm) (by omega) (by omega) (by omega)) rfl ?_)
  rintro _ w10 ⟨Ar_9, nr_9, cr_9, dr_9, rfl, hE11, hr_9, e_9, le_9, zr_9⟩
  have hz12 := hE11.size
  have ⟨lr_9, kr_9, mr_9⟩ := hr_9.lkm
  refine sAs rfl (sAs rfl (sK hK2 (wp_seq_k fun K14 hK14 => wp_block (rS fun K15 hK15 => sMs rfl (sV (evLen Tryz.underlying46 rfl) (sMs rfl (sV (evLen Tryz.underlying46 rfl) ?_)))))))
  by_cases hc16 : ((nr_3 : Int)) < ((nr_9 : Int))
  · refine sV (evLss true rfl rfl (dT hc16)) (sAb rfl (sK hK15 (cT rfl (rS fun K17 hK17 => sAi rfl (sK hK17 (wp_ret (bR (xR (ret1 (.int .i64 ((-1))) Tryz.results83 (resT rfl) ?_)))))))))
    have hR18 := hE5.trans hE11
    exact ⟨((-1)), rfl, hR18, (by rw [← e_3, ← e_9]; exact cmpP_lt (by rw [zl_len, zl_len]; omega))⟩
  · refine sV (evLss false rfl rfl (dF hc16)) (sAb rfl (sK hK15 (cF rfl (rS fun K19 hK19 => sMs rfl (sV (evLen Tryz.underlying46 rfl) (sMs rfl (sV (evLen Tryz.underlying46 rfl) ?_)))))))
    by_cases hc20 : ((nr_3 : Int)) > ((nr_9 : Int))
    · refine sV (evGtr true rfl rfl (dT hc20)) (sAb rfl (sK hK19 (cT rfl (rS fun K21 hK21 => sAi rfl (sK hK21 (wp_ret (bR (xR (ret1 (.int .i64 (1)) Tryz.results83 (resT rfl) ?_)))))))))
      have hR22 := hE5.trans hE11
      exact ⟨(1), rfl, hR22, (by rw [← e_3, ← e_9]; exact cmpP_gt (by rw [zl_len, zl_len]; omega))⟩
    · refine sV (evGtr false rfl rfl (dF hc20)) (sAb rfl (sK hK19 (cF rfl (wp_skip (bN (xN (hK14 _ _ (wp_seq_k fun K23 hK23 => rS fun K24 hK24 => sMs rfl (sV (evLen Tryz.underlying46 rfl) (sV (evSub (((nr_3 : Int)) - 1) rfl rfl wI) (sAi rfl (sK hK24 (wp_block ?_)))))))))))))
      refine lLoop (fun m e w_ => ∃ (k : Nat), m = k ∧ e 0 = (.slice Ar_3 nr_3 cr_3) ∧ e 1 = (.slice Ar_9 nr_9 cr_9) ∧ e 7 = (.int .i64 ((k : Int) - 1)) ∧ Frm (fun b => False) w10 w_ ∧ (k ≤ nr_3) ∧ (cmpP (zl dr_3) (zl dr_9) = cmpTop (zl dr_3) (zl dr_9) k)) ((nr_3)) ?_ ?_
      · refine ⟨(nr_3), rfl, rfl, rfl, cI, (Frm.refl _ _), ?_, ?_⟩
        · omega
        · exact cmpP_eq (by rw [zl_len, zl_len]; omega) (by rw [zl_len]; omega)
      · rintro m25 e32 w26 ⟨k, hm31, hs27, hs28, hs29, hF30, hk, hX⟩
        obtain ⟨r33, rfl⟩ := sq (e := e32) (t := 0) hs27
        obtain ⟨r34, rfl⟩ := sq (e := r33) (t := 1) hs28
        obtain ⟨r35, rfl⟩ := sq (e := r34) (t := 7) hs29
        have hz36 := hF30.size
        refine wp_seq_k fun K37 hK37 => rS fun K38 hK38 => sMi rfl ?_
        by_cases hc39 : ((k : Int) - 1) ≥ 0
        · refine sV (evGeq true rfl rfl (dT hc39)) (sK hK38 (cT rfl (wp_skip (xN (hK37 _ _ (wp_seq_k fun K40 hK40 => wp_block (wp_block (wp_seq_k fun K41 hK41 => dBegin (fun _ => False) mixed (fun w42 hE43 hz44 => dMs 0 rfl rfl (dMi 1 rfl rfl ?_))))))))))
          have hR45 := (hE11.trans hF30).trans hE43
          have h46 := (hr_3.ext hR45)
          obtain ⟨b47, o48, rfl⟩ := h46.base (by omega)
          refine dV 2 rfl (fun _ _ => evIx (k - 1) Tryz.underlying46 sz26 rfl rfl (o48 + (k - 1))) ?_
          have hd49 := h46.lt (k - 1)
          refine dV 3 rfl (fun _ hf => evLoad one26 rfl ((h46.ext hf).cell (by omega))) (dMs 4 rfl rfl (dMi 5 rfl rfl ?_))
          have hR50 := hF30.trans hE43
          have h51 := (hr_9.ext hR50)
          obtain ⟨b52, o53, rfl⟩ := h51.base (by omega)
          refine dV 6 rfl (fun _ _ => evIx (k - 1) Tryz.underlying46 sz26 rfl rfl (o53 + (k - 1))) ?_
          have hd54 := h51.lt (k - 1)
          refine dV 7 rfl (fun _ hf => evLoad one26 rfl ((h51.ext hf).cell (by omega))) ?_
          by_cases hc55 : (((dr_3.getD (k - 1) 0 : Nat) : Int)) < (((dr_9.getD (k - 1) 0 : Nat) : Int))
          · refine dV 8 rfl (fun _ _ => evLss true rfl rfl (dT hc55)) (dAb 9 rfl rfl (dDone (by kernel_rfl) (xN (hK41 _ _ (cT rfl (rS fun K56 hK56 => sAi rfl (sK hK56 (wp_ret (bR (bR (xR (xR (bR (xR (ret1 (.int .i64 ((-1))) Tryz.results83 (resT rfl) ?_)))))))))))))))
            have hR57 := ((hE5.trans hE11).trans hF30).trans hE43
            exact ⟨((-1)), rfl, hR57, (by rw [← e_3, ← e_9]; rw [cmpTop_stop hX (by omega) (fun hh => by have h9 := cmp_getD.1 hh; omega), co_zl, co_zl]; have h9 := cmpZ_cases ((dr_3.getD (k - 1) 0 : Nat) : Int) ((dr_9.getD (k - 1) 0 : Nat) : Int); omega)⟩
          · refine dV 8 rfl (fun _ _ => evLss false rfl rfl (dF hc55)) (dAb 9 rfl rfl (dDone (by kernel_rfl) (xN (hK41 _ _ (cF rfl (wp_seq_k fun K58 hK58 => dBegin (fun _ => False) mixed (fun w59 hE60 hz61 => dMs 0 rfl rfl (dMi 1 rfl rfl (dV 2 rfl (fun _ _ => evIx (k - 1) Tryz.underlying46 sz26 rfl rfl (o48 + (k - 1))) ?_)))))))))
            have h62 := (h46.ext hE60)
            have hd63 := h62.lt (k - 1)
            refine dV 3 rfl (fun _ hf => evLoad one26 rfl ((h62.ext hf).cell (by omega))) (dMs 4 rfl rfl (dMi 5 rfl rfl (dV 6 rfl (fun _ _ => evIx (k - 1) Tryz.underlying46 sz26 rfl rfl (o53 + (k - 1))) ?_)))
            have h64 := (h51.ext hE60)
            have hd65 := h64.lt (k - 1)
            refine dV 7 rfl (fun _ hf => evLoad one26 rfl ((h64.ext hf).cell (by omega))) ?_
            by_cases hc66 : (((dr_3.getD (k - 1) 0 : Nat) : Int)) > (((dr_9.getD (k - 1) 0 : Nat) : Int))
            · refine dV 8 rfl (fun _ _ => evGtr true rfl rfl (dT hc66)) (dAb 9 rfl rfl (dDone (by kernel_rfl) (xN (hK58 _ _ (cT rfl (rS fun K67 hK67 => sAi rfl (sK hK67 (wp_ret (bR (bR (xR (xR (bR (xR (ret1 (.int .i64 (1)) Tryz.results83 (resT rfl) ?_)))))))))))))))
              have hR68 := (((hE5.trans hE11).trans hF30).trans hE43).trans hE60
              exact ⟨(1), rfl, hR68, (by rw [← e_3, ← e_9]; rw [cmpTop_stop hX (by omega) (fun hh => by have h9 := cmp_getD.1 hh; omega), co_zl, co_zl]; have h9 := cmpZ_cases ((dr_3.getD (k - 1) 0 : Nat) : Int) ((dr_9.getD (k - 1) 0 : Nat) : Int); omega)⟩
            · refine dV 8 rfl (fun _ _ => evGtr false rfl rfl (dF hc66)) (dAb 9 rfl rfl (dDone (by kernel_rfl) (xN (hK58 _ _ (cF rfl (wp_skip (bN (bN (xN (hK40 _ _ (wp_region_lit (sMi rfl (sV (evSub (((k : Int) - 1) - 1) rfl rfl wI) (sAi rfl (sDone ?_)))))))))))))))
              have hR69 := hE43.trans hE60
              refine again ((k - 1)) (by omega) ⟨(k - 1), rfl, rfl, rfl, cI, (hF30.trans hR69), ?_, ?_⟩
              · omega
              · exact cmpTop_down hX (by omega) (cmp_getD.2 (by omega))
        · refine sV (evGeq false rfl rfl (dF hc39)) (sK hK38 (cF rfl (wp_exit (xE (xE (bE (xN (hK23 _ _ (rS fun K70 hK70 => sAi rfl (sK hK70 (wp_ret (ret1 (.int .i64 (0)) Tryz.results83 (resT rfl) ?_))))))))))))
          have hR71 := (hE5.trans hE11).trans hF30
          exact ⟨(0), rfl, hR71, (by rw [← e_3, ← e_9]; rw [hX, show k = 0 by omega]; rfl)⟩
theorem modpoly_Same {w : World} {Sf : Nat → Prop} {Af : Option Addr} {nf cf : Nat} {df : List Nat} {Sg : Nat → Prop} {Ag : Option Addr} {ng cg : Nat} {dg : List Nat} {xm : Nat} (hf : NatR w Sf Af nf cf df) (hg : NatR w Sg Ag ng cg dg) (bm : xm < 4294967296) (hnf : nf ≤ 1048576) (hng : ng ≤ 1048576) (hm : 0 < xm) : Calls Tryz.prog 43 #[(.slice Af nf cf), (.slice Ag ng cg), (.int .u32 ((xm : Int)))] w (Ret fun v w' => ∃ (gr : Bool), v = (.bool gr) ∧ Ext w w' ∧ (gr = decide (nrmP xm df = nrmP xm dg))) := by
  have ⟨lf, kf, mf⟩ := hf.lkm
  replace hf := hf.low
  have ⟨lg, kg, mg⟩ := hg.lkm
  replace hg := hg.low
  refine enter Tryz.func43 rfl Tryz.ntmps43 rfl (rS fun K1 hK1 => sAb rfl (sK hK1 (rS fun K2 hK2 => sMs rfl (sMs rfl (sMi rfl (sO (oCall rfl call83 (modpoly_Compare hf hg (xm := xm) (by omega) (by omega) (by omega) (by omega)) rfl ?_)))))))
  rintro _ w4 ⟨xr_3, rfl, hE5, e_3⟩
  have hz6 := hE5.size
  refine sV (evEql (decide (nrmP xm df = nrmP xm dg)) rfl rfl (decide_eq_decide.2 (by rw [e_3]; exact same_zl))) (sAb rfl (sK hK2 (wp_ret (ret1 (.bool (decide (nrmP xm df = nrmP xm dg))) Tryz.results43 (resT rfl) ?_))))
  exact ⟨(decide (nrmP xm df = nrmP xm dg)), rfl, hE5, rfl⟩
theorem modpoly_Sub {w : World} {Sf : Nat → Prop} {Af : Option Addr} {nf cf : Nat} {df : List Nat} {Sg : Nat → Prop} {Ag : Option Addr} {ng cg : Nat} {dg : List Nat} {xm : Nat} (hf : NatR w Sf Af nf cf df) (hg : NatR w Sg Ag ng cg dg) (bm : xm < 4294967296) (hnf : nf ≤ 1048576) (hng : ng ≤ 1048576) (hm : 0 < xm) : Calls Tryz.prog 115 #[(.slice Af nf cf), (.slice Ag ng cg), (.int .u32 ((xm : Int)))] w (Ret fun v w' => ∃ (Ar : Option Addr) (nr : Nat) (cr : Nat) (dr : List Nat), v = (.slice Ar nr cr) ∧ Ext w w' ∧ NatR w' (fun b => w.heap.size ≤ b) Ar nr cr dr ∧ (dr = subP xm df dg) ∧ (nr ≤ max nf ng) ∧ (CanP xm dr)) := by
  have ⟨lf, kf, mf⟩ := hf.lkm
  replace hf := hf.low
  have ⟨lg, kg, mg⟩ := hg.lkm
  replace hg := hg.low
  refine enter Tryz.func115 rfl Tryz.ntmps115 rfl (rS fun K1 hK1 => sAs rfl (sK hK1 (rS fun K2 hK2 => sMs rfl (sV (evLen Tryz.underlying46 rfl) (sMs rfl (sV (evLen Tryz.underlying46 rfl) (sV (evMax (((max nf ng : Nat) : Int)) rfl rfl (by split <;> omega)) (sO (oMake1 (max nf ng) Tryz.underlying46 inf26 rfl cI cI (by omega) (by omega) (fun g3 w4 hg5 hE6 hz7 hB8 => ?_))))))))))
  have hB9 : Blk w4 g3 26 (((List.replicate (max nf ng) 0)).map u32) := by rw [List.map_replicate]; exact hB8
  refine sAs rfl (sK hK2 (rS fun K10 hK10 => sMs rfl (sMs rfl ?_)))
  have h11 := (hf.ext hE6)
  obtain ⟨X, hXe⟩ : ∃ X, X = df ++ List.replicate (max nf ng - nf) 0 := ⟨_, rfl⟩
  have hXt : ∀ d ∈ X, d < BS := (by rw [hXe]; exact lt_fill hf.2); have hXg : ∀ i, X.getD i 0 = df.getD i 0 := (by intro i; rw [hXe]; exact pad_get _ _ _); have hXl : X.length = max nf ng := (by rw [hXe]; simp; omega)
  refine sO (oCopy Tryz.underlying46 sz26 rfl rfl h11.1 (u32s_one _) hB9 (by omega) (by exact lq) (fun w12 hU13 hz14 hB15 => ?_))
  replace hB15 : Blk w12 g3 26 ((X).map u32) := by rw [← (by rw [hXe]; simp : (List.replicate (max nf ng) 0).take 0 ++ df ++ (List.replicate (max nf ng) 0).drop (0 + nf) = X), List.map_append, List.map_append, List.map_take, List.map_drop]; exact hB15
  rw [put_mkA]
  refine sK hK10 (wp_seq_k fun K16 hK16 => rS fun K17 hK17 => sMs rfl (sV (evLen Tryz.underlying46 rfl) (sMi rfl (sK hK17 (wp_block ?_)))))
  refine lLoop (fun m e w_ => ∃ (k : Nat) (L : List Nat), m = ng - k ∧ e 1 = (.slice Ag ng cg) ∧ e 2 = (.int .u32 ((xm : Int))) ∧ e 7 = (.slice (some ⟨g3, 0, none⟩) (max nf ng) (max nf ng)) ∧ e 19 = (.int .i64 ((ng : Int))) ∧ e 20 = (.int .i64 ((k : Int))) ∧ Frm (fun b => b = g3) w12 w_ ∧ Blk w_ g3 26 ((L ++ X.drop k).map u32) ∧ (k ≤ ng) ∧ (L.length = k) ∧ (∀ i, i < k → L.getD i 0 = (fun i => md xm (((df.getD i 0 : Nat) : Int) - (dg.getD i 0 : Nat))) i) ∧ (∀ d ∈ L, d < xm)) (ng - (0)) ?_ ?_
  · refine ⟨(0), ([]), rfl, rfl, rfl, rfl, rfl, cI, (Frm.refl _ _), ?_, ?_, ?_, ?_, ?_⟩
    · exact hB15
    · omega
    · rfl
    · intro i hi; omega
    · simp
  · rintro m18 e28 w19 ⟨k, L, hm27, hs20, hs21, hs22, hs23, hs24, hF25, hB26, hk, hLl, hL, hLt⟩
    obtain ⟨r29, rfl⟩ := sq (e := e28) (t := 1) hs20
    obtain ⟨r30, rfl⟩ := sq (e := r29) (t := 2) hs21
    obtain ⟨r31, rfl⟩ := sq (e := r30) (t := 7) hs22
    obtain ⟨r32, rfl⟩ := sq (e := r31) (t := 19) hs23
    obtain ⟨r33, rfl⟩ := sq (e := r32) (t := 20) hs24
    have hz34 := hF25.size
    refine rS fun K35 hK35 => ?_
    by_cases hc36 : ((k : Int)) < ((ng : Int))
    · refine sV (evLss true rfl rfl (dT hc36)) (sK hK35 (wp_seq_k fun K37 hK37 => cT rfl (wp_skip (xN (hK37 _ _ (wp_seq_k fun K38 hK38 => wp_block (rS fun K39 hK39 => sMi rfl (sAi rfl (sK hK39 (dBegin (fun b => b = g3) mixed (fun w40 hE41 hz42 => dMs 0 rfl rfl (dMi 1 rfl rfl (dMs 2 rfl rfl (dMi 3 rfl rfl (dV 4 rfl (fun _ _ => evIx k Tryz.underlying46 sz26 rfl rfl k) (dMs 6 rfl rfl (dMi 7 rfl rfl ?_)))))))))))))))))
      have hR43 := ((hE6.rx hU13).trans hF25).xr hE41
      have h44 := (hg.frmB hR43 q3)
      obtain ⟨b45, o46, rfl⟩ := h44.base (by omega)
      refine dV 8 rfl (fun _ _ => evIx k Tryz.underlying46 sz26 rfl rfl (o46 + k)) ?_
      have hd47 := h44.lt k
      refine dV 9 rfl (fun _ hf => evLoad one26 rfl ((h44.frm hf q2).cell (by omega))) (dMi 10 rfl rfl ?_)
      have hB48 := (hB26.ext hE41)
      have hd49 := getD_lt (ds := L ++ X.drop k) (i := k) (lt_midX (lt_BS bm hLt) hXt)
      refine dOp 5 rfl rfl (by kernel_rfl) (oEv (v := (.int .u32 ((((L ++ X.drop k).getD k 0 : Nat) : Int)))) (evLoad one26 rfl (hB48.dig (by exact lq))) rfl ⟨Frm.refl _ _, dOp 11 rfl rfl (by kernel_rfl) (oCall rfl call129 (modular_Sub (xa := (L ++ X.drop k).getD k 0) (by omega) (xb := dg.getD k 0) (by omega) (xm := xm) (by omega) (by omega)) rfl ?_)⟩)
      rintro _ w51 ⟨xr_50, rfl, hE52, br_50, e_50⟩
      refine ⟨(Frm.of_ext hE52), ?_⟩
      have hz53 := hE52.size
      refine dV 12 rfl (fun _ _ => evIx k Tryz.underlying46 sz26 rfl rfl k) ?_
      have hB54 := (hB48.ext hE52)
      refine dOp 13 rfl rfl (by kernel_rfl) (oStore1 rfl rfl rfl sz26 hB54 (by exact lq) (fun w55 hU56 hz57 hB58 => ?_))
      replace hB58 : Blk w55 g3 26 (((L ++ [xr_50]) ++ X.drop (k + 1)).map u32) := by rw [← (mid_setN hLl (by omega) : (L ++ X.drop k).set k xr_50 = (L ++ [xr_50]) ++ X.drop (k + 1)), List.map_set]; exact hB58
      refine ⟨hU56, dDone (by kernel_rfl) (bN (xN (hK38 _ _ (wp_region_lit (sV (evAdd (((k : Int)) + 1) rfl rfl wI) (sMi rfl (sDone ?_)))))))⟩
      have hR59 := (hE41.trans hE52).rx hU56
      refine again (ng - (k + 1)) (by omega) ⟨(k + 1), (L ++ [xr_50]), rfl, rfl, rfl, rfl, rfl, cI, (hF25.trans hR59), ?_, ?_, ?_, ?_, ?_⟩
      · exact hB58
      · omega
      · simp [hLl]
      · exact fill_snoc hLl hL (by rw [e_50, mid_getN hLl, hXg]; exact md_sub (by omega) _ _)
      · exact lt_snocP hLt (by rw [e_50]; exact Nat.mod_lt _ (by omega))
    · refine sV (evLss false rfl rfl (dF hc36)) (sK hK35 (wp_seq_k fun K60 hK60 => cF rfl (wp_exit (xE (xE (bE (xN (hK16 _ _ (rS fun K61 hK61 => sMs rfl (sMi rfl ?_))))))))))
      have h62 : NatR w19 (fun b => b = g3) (some ⟨g3, 0, none⟩) (max nf ng) (max nf ng) (L ++ X.drop k) := NatR.of_blk hB26 rfl (lt_midX (lt_BS bm hLt) hXt) (by exact lq) (by omega) (by unfold CapMax; omega)
      refine sO (oCall rfl call77 (modpoly_Normal h62 (xm := xm) (by omega) (by omega) (by omega)) rfl ?_)
      rintro _ w64 ⟨Ar_63, nr_63, cr_63, dr_63, rfl, hE65, hr_63, e_63, le_63, zr_63⟩
      have hz66 := hE65.size
      have ⟨lr_63, kr_63, mr_63⟩ := hr_63.lkm
      refine sAs rfl (sK hK61 (wp_ret (ret1 (.slice Ar_63 nr_63 cr_63) Tryz.results115 (resT rfl) ?_)))
      have hR68 := ((hE6.rx hU13).trans hF25).xr hE65
      exact ⟨Ar_63, nr_63, cr_63, dr_63, rfl, (Frm.mono hR68 q4), (NatR.sub hr_63 q5), (by rw [e_63, show k = dg.length by omega]; exact sub_fill (n := 0) (N := max nf ng) (by omega) hXg hXl (by omega) (by omega) (fun i hi => hL i (by omega))), (by omega), zr_63⟩
set_option maxHeartbeats 1000000 in
theorem modpoly_Mul {w : World} {Sf : Nat → Prop} {Af : Option Addr} {nf cf : Nat} {df : List Nat} {Sg : Nat → Prop} {Ag : Option Addr} {ng cg : Nat} {dg : List Nat} {xm : Nat} (hf : NatR w Sf Af nf cf df) (hg : NatR w Sg Ag ng cg dg) (bm : xm < 4294967296) (hnf : nf ≤ 1048576) (hng : ng ≤ 1048576) (hm : 0 < xm) : Calls Tryz.prog 57 #[(.slice Af nf cf), (.slice Ag ng cg), (.int .u32 ((xm : Int)))] w (Ret fun v w' => ∃ (Ar : Option Addr) (nr : Nat) (cr : Nat) (dr : List Nat), v = (.slice Ar nr cr) ∧ Ext w w' ∧ NatR w' (fun b => w.heap.size ≤ b) Ar nr cr dr ∧ (dr = mulP xm df dg) ∧ (nr ≤ nf + ng - 1) ∧ (CanP xm dr)) := by
  have ⟨lf, kf, mf⟩ := hf.lkm
  replace hf := hf.low
  have ⟨lg, kg, mg⟩ := hg.lkm
  replace hg := hg.low
  refine enter Tryz.func57 rfl Tryz.ntmps57 rfl (rS fun K1 hK1 => sAs rfl (sK hK1 (rS fun K2 hK2 => sMs rfl (sMi rfl (sO (oCall rfl call77 (modpoly_Normal hf (xm := xm) (by omega) (by omega) (by omega)) rfl ?_))))))
  rintro _ w4 ⟨Ar_3, nr_3, cr_3, dr_3, rfl, hE5, hr_3, e_3, le_3, zr_3⟩
  have hz6 := hE5.size
  have ⟨lr_3, kr_3, mr_3⟩ := hr_3.lkm
  refine sMs rfl (sMi rfl ?_)
  have h8 := (hg.ext hE5)
  refine sO (oCall rfl call77 (modpoly_Normal h8 (xm := xm) (by omega) (by omega) (by omega)) rfl ?_)
  rintro _ w10 ⟨Ar_9, nr_9, cr_9, dr_9, rfl, hE11, hr_9, e_9, le_9, zr_9⟩
  have hz12 := hE11.size
  have ⟨lr_9, kr_9, mr_9⟩ := hr_9.lkm
  refine sAs rfl (sAs rfl (sK hK2 (wp_seq_k fun K14 hK14 => rS fun K15 hK15 => sMs rfl (sV (evLen Tryz.underlying46 rfl) ?_))))
  by_cases hc16 : ((nr_3 : Int)) = 0
  · refine sV (evEql true rfl rfl (dT hc16)) (sMb rfl (sSkip rfl rfl (sSkip rfl rfl (sSkip rfl rfl (sV (v := (.bool true)) (rfl) (sK hK15 (cT rfl (rS fun K17 hK17 => sAs rfl (sK hK17 (wp_ret (xR (ret1 (.slice none 0 0) Tryz.results57 (resT rfl) ?_))))))))))))
    have hR18 := hE5.trans hE11
    exact ⟨none, 0, 0, ([]), rfl, hR18, NatR.nil, (mulP_nil e_3 e_9 (by omega)), (by omega), CanP.nil⟩
  · refine sV (evEql false rfl rfl (dF hc16)) (sMb rfl (sEv (v := (.slice Ar_9 nr_9 cr_9)) (rfl) rfl rfl (sEv (v := (.int .i64 ((nr_9 : Int)))) (evLen Tryz.underlying46 rfl) rfl rfl ?_)))
    by_cases hc19 : ((nr_9 : Int)) = 0
    · refine sEv (v := (.bool true)) (evEql true rfl rfl (dT hc19)) rfl rfl (sV (v := (.bool true)) (rfl) (sK hK15 (cT rfl (rS fun K20 hK20 => sAs rfl (sK hK20 (wp_ret (xR (ret1 (.slice none 0 0) Tryz.results57 (resT rfl) ?_))))))))
      have hR21 := hE5.trans hE11
      exact ⟨none, 0, 0, ([]), rfl, hR21, NatR.nil, (mulP_nil e_3 e_9 (by omega)), (by omega), CanP.nil⟩
    · refine sEv (v := (.bool false)) (evEql false rfl rfl (dF hc19)) rfl rfl (sV (v := (.bool false)) (rfl) (sK hK15 (cF rfl (wp_skip (xN (hK14 _ _ (rS fun K22 hK22 => sMi rfl (sV (evMax ((xm : Int)) rfl rfl (by split <;> omega)) (sV (evConv ((xm : Int)) Tryz.underlying26 Tryz.underlying100 rfl (wU64 (by omega))) (sAi rfl (sK hK22 (rS fun K23 hK23 => sMs rfl (sV (evLen Tryz.underlying46 rfl) (sMs rfl (sV (evLen Tryz.underlying46 rfl) (sV (evAdd (((nr_3 : Int)) + ((nr_9 : Int))) rfl rfl wI) (sV (evSub ((((nr_3 : Int)) + ((nr_9 : Int))) - 1) rfl rfl wI) (sO (oMake1 ((nr_3 + nr_9) - 1) Tryz.underlying46 inf26 rfl cI cI (by omega) (by omega) (fun g24 w25 hg26 hE27 hz28 hB29 => ?_))))))))))))))))))))
      have hB30 : Blk w25 g24 26 (((List.replicate ((nr_3 + nr_9) - 1) 0)).map u32) := by rw [List.map_replicate]; exact hB29
      refine sAs rfl (sK hK23 (wp_seq_k fun K31 hK31 => rS fun K32 hK32 => sMs rfl (sV (evLen Tryz.underlying46 rfl) (sMi rfl (sK hK32 (wp_block ?_))))))
      refine lLoop (fun m e w_ => ∃ (i : Nat) (o : List Nat), m = nr_3 - i ∧ e 1 = (.slice Ar_9 nr_9 cr_9) ∧ e 7 = (.int .u64 ((xm : Int))) ∧ e 8 = (.slice (some ⟨g24, 0, none⟩) ((nr_3 + nr_9) - 1) ((nr_3 + nr_9) - 1)) ∧ e 37 = (.slice Ar_3 nr_3 cr_3) ∧ e 38 = (.int .i64 ((nr_3 : Int))) ∧ e 39 = (.int .i64 ((i : Int))) ∧ Frm (fun b => b = g24) w25 w_ ∧ Blk w_ g24 26 (o.map u32) ∧ (i ≤ nr_3) ∧ (o.length = nr_3 + nr_9 - 1) ∧ (∀ d ∈ o, d < xm) ∧ (∀ j, o.getD j 0 = md xm (mulI (zl dr_3) (zl dr_9) i 0 j))) (nr_3 - (0)) ?_ ?_
      · refine ⟨(0), (List.replicate (nr_3 + nr_9 - 1) 0), rfl, rfl, rfl, rfl, rfl, rfl, cI, (Frm.refl _ _), ?_, ?_, ?_, ?_, ?_⟩
        · exact hB30
        · omega
        · simp
        · intro d hd; rw [List.eq_of_mem_replicate hd]; omega
        · exact mulP_zero _
      · rintro m33 e44 w34 ⟨i, o, hm43, hs35, hs36, hs37, hs38, hs39, hs40, hF41, hB42, hi, hl, hot, ho⟩
        obtain ⟨r45, rfl⟩ := sq (e := e44) (t := 1) hs35
        obtain ⟨r46, rfl⟩ := sq (e := r45) (t := 7) hs36
        obtain ⟨r47, rfl⟩ := sq (e := r46) (t := 8) hs37
        obtain ⟨r48, rfl⟩ := sq (e := r47) (t := 37) hs38
        obtain ⟨r49, rfl⟩ := sq (e := r48) (t := 38) hs39
        obtain ⟨r50, rfl⟩ := sq (e := r49) (t := 39) hs40
        have hz51 := hF41.size
        refine rS fun K52 hK52 => ?_
        by_cases hc53 : ((i : Int)) < ((nr_3 : Int))
        · refine sV (evLss true rfl rfl (dT hc53)) (sK hK52 (wp_seq_k fun K54 hK54 => cT rfl (wp_skip (xN (hK54 _ _ (wp_seq_k fun K55 hK55 => wp_block (rS fun K56 hK56 => sMi rfl ?_)))))))
          have hR57 := (hE11.trans hE27).rx hF41
          have h58 := (hr_3.frmB hR57 q3)
          obtain ⟨b59, o60, rfl⟩ := h58.base (by omega)
          refine sV (evIx i Tryz.underlying46 sz26 rfl rfl (o60 + i)) ?_
          have hd61 := h58.lt i
          refine sV (evLoad one26 rfl (h58.cell (by omega))) (sAi rfl (sAi rfl (sK hK56 (rS fun K62 hK62 => sMs rfl (sV (evLen Tryz.underlying46 rfl) (sMi rfl (sK hK62 (wp_block ?_))))))))
          refine lLoop (fun m e w_ => ∃ (k : Nat) (q : List Nat), m = nr_9 - k ∧ e 1 = (.slice Ar_9 nr_9 cr_9) ∧ e 7 = (.int .u64 ((xm : Int))) ∧ e 8 = (.slice (some ⟨g24, 0, none⟩) ((nr_3 + nr_9) - 1) ((nr_3 + nr_9) - 1)) ∧ e 9 = (.int .i64 ((i : Int))) ∧ e 10 = (.int .u32 (((dr_3.getD i 0 : Nat) : Int))) ∧ e 37 = (.slice (some ⟨b59, o60, none⟩) nr_3 cr_3) ∧ e 38 = (.int .i64 ((nr_3 : Int))) ∧ e 39 = (.int .i64 ((i : Int))) ∧ e 44 = (.slice Ar_9 nr_9 cr_9) ∧ e 45 = (.int .i64 ((nr_9 : Int))) ∧ e 46 = (.int .i64 ((k : Int))) ∧ Frm (fun b => b = g24) w34 w_ ∧ Blk w_ g24 26 (q.map u32) ∧ (k ≤ nr_9) ∧ (q.length = nr_3 + nr_9 - 1) ∧ (∀ d ∈ q, d < xm) ∧ (∀ j, q.getD j 0 = md xm (mulI (zl dr_3) (zl dr_9) i k j))) (nr_9 - (0)) ?_ ?_
          · refine ⟨(0), (o), rfl, rfl, rfl, rfl, rfl, rfl, rfl, rfl, rfl, rfl, rfl, cI, (Frm.refl _ _), ?_, ?_, ?_, ?_, ?_⟩
            · exact hB42
            · omega
            · omega
            · exact hot
            · exact ho
          · rintro m63 e79 w64 ⟨k, q, hm78, hs65, hs66, hs67, hs68, hs69, hs70, hs71, hs72, hs73, hs74, hs75, hF76, hB77, hk, hlq, hqt, hq⟩
            obtain ⟨r80, rfl⟩ := sq (e := e79) (t := 1) hs65
            obtain ⟨r81, rfl⟩ := sq (e := r80) (t := 7) hs66
            obtain ⟨r82, rfl⟩ := sq (e := r81) (t := 8) hs67
            obtain ⟨r83, rfl⟩ := sq (e := r82) (t := 9) hs68
            obtain ⟨r84, rfl⟩ := sq (e := r83) (t := 10) hs69
            obtain ⟨r85, rfl⟩ := sq (e := r84) (t := 37) hs70
            obtain ⟨r86, rfl⟩ := sq (e := r85) (t := 38) hs71
            obtain ⟨r87, rfl⟩ := sq (e := r86) (t := 39) hs72
            obtain ⟨r88, rfl⟩ := sq (e := r87) (t := 44) hs73
            obtain ⟨r89, rfl⟩ := sq (e := r88) (t := 45) hs74
            obtain ⟨r90, rfl⟩ := sq (e := r89) (t := 46) hs75
            have hz91 := hF76.size
            refine rS fun K92 hK92 => ?_
            by_cases hc93 : ((k : Int)) < ((nr_9 : Int))
            · refine sV (evLss true rfl rfl (dT hc93)) (sK hK92 (wp_seq_k fun K94 hK94 => cT rfl (wp_skip (xN (hK94 _ _ (wp_seq_k fun K95 hK95 => wp_block (rS fun K96 hK96 => sMi rfl ?_)))))))
              have hR97 := (hE27.rx hF41).trans hF76
              have h98 := (hr_9.frmB hR97 q3)
              obtain ⟨b99, o100, rfl⟩ := h98.base (by omega)
              refine sV (evIx k Tryz.underlying46 sz26 rfl rfl (o100 + k)) ?_
              have hd101 := h98.lt k
              refine sV (evLoad one26 rfl (h98.cell (by omega))) (sAi rfl (sAi rfl (sK hK96 (dBegin (fun b => b = g24) mixed (fun w102 hE103 hz104 => dMs 0 rfl rfl (dMi 1 rfl rfl (dMi 2 rfl rfl (dV 3 rfl (fun _ _ => evAdd (((i : Int)) + ((k : Int))) rfl rfl wI) (dMs 4 rfl rfl (dMi 5 rfl rfl (dMi 6 rfl rfl (dV 7 rfl (fun _ _ => evAdd (((i : Int)) + ((k : Int))) rfl rfl wI) (dV 8 rfl (fun _ _ => evIx (i + k) Tryz.underlying46 sz26 rfl rfl (i + k)) (dMi 11 rfl rfl (dV 12 rfl (fun _ _ => evConv (((dr_3.getD i 0 : Nat) : Int)) Tryz.underlying26 Tryz.underlying100 rfl (wU64 (by omega))) (dMi 13 rfl rfl (dV 14 rfl (fun _ _ => evConv (((dr_9.getD k 0 : Nat) : Int)) Tryz.underlying26 Tryz.underlying100 rfl (wU64 (by omega))) (dV 15 rfl (fun _ _ => evMul ((((dr_3.getD i 0) * (dr_9.getD k 0) : Nat) : Int)) rfl rfl (mulU64 (mul32_le (by omega) (by omega)))) ?_))))))))))))))))))
              refine dMi 16 rfl rfl (dV 17 rfl (fun _ _ => evRem (((((dr_3.getD i 0) * (dr_9.getD k 0)) % xm : Nat) : Int)) rfl rfl (by omega) (remE (by omega) (by omega))) ?_)
              have h68 := Nat.mod_lt ((dr_3.getD i 0) * (dr_9.getD k 0)) (show 0 < xm by omega)
              refine dMi 19 rfl rfl ?_
              have hB105 := (hB77.ext hE103)
              have hd106 := getD_lt (ds := q) (i := i + k) (lt_BS bm hqt)
              refine dOp 9 rfl rfl (by kernel_rfl) (oEv (v := (.int .u32 (((q.getD (i + k) 0 : Nat) : Int)))) (evLoad one26 rfl (hB105.dig (by exact lq))) rfl ⟨Frm.refl _ _, dV 10 rfl (fun _ _ => evConv (((q.getD (i + k) 0 : Nat) : Int)) Tryz.underlying26 Tryz.underlying100 rfl (wU64 (by omega))) (dV 18 rfl (fun _ _ => evAdd ((((q.getD (i + k) 0) + (((dr_3.getD i 0) * (dr_9.getD k 0)) % xm) : Nat) : Int)) rfl rfl (wU64 (by omega))) (dV 20 rfl (fun _ _ => evRem (((((q.getD (i + k) 0) + (((dr_3.getD i 0) * (dr_9.getD k 0)) % xm)) % xm : Nat) : Int)) rfl rfl (by omega) (remE (by omega) (by omega))) ?_))⟩)
              have h71 := Nat.mod_lt (((q.getD (i + k) 0) + (((dr_3.getD i 0) * (dr_9.getD k 0)) % xm))) (show 0 < xm by omega)
              refine dV 21 rfl (fun _ _ => evConv (((((q.getD (i + k) 0) + (((dr_3.getD i 0) * (dr_9.getD k 0)) % xm)) % xm : Nat) : Int)) Tryz.underlying100 Tryz.underlying26 rfl (wU32 ⟨rfl, by omega, by omega⟩)) (dV 22 rfl (fun _ _ => evIx (i + k) Tryz.underlying46 sz26 rfl rfl (i + k)) (dOp 23 rfl rfl (by kernel_rfl) (oStore1 rfl rfl rfl sz26 hB105 (by exact lq) (fun w107 hU108 hz109 hB110 => ?_))))
              replace hB110 : Blk w107 g24 26 ((q.set (i + k) (((q.getD (i + k) 0) + (((dr_3.getD i 0) * (dr_9.getD k 0)) % xm)) % xm)).map u32) := by rw [List.map_set]; exact hB110
              refine ⟨hU108, dDone (by kernel_rfl) (bN (xN (hK95 _ _ (wp_region_lit (sV (evAdd (((k : Int)) + 1) rfl rfl wI) (sMi rfl (sDone ?_)))))))⟩
              have hR111 := hE103.rx hU108
              refine again (nr_9 - (k + 1)) (by omega) ⟨(k + 1), (q.set (i + k) (((q.getD (i + k) 0) + (((dr_3.getD i 0) * (dr_9.getD k 0)) % xm)) % xm)), rfl, rfl, rfl, rfl, rfl, rfl, rfl, rfl, rfl, rfl, rfl, cI, (hF76.trans hR111), ?_, ?_, ?_, ?_, ?_⟩
              · exact hB110
              · omega
              · simp; omega
              · exact lt_set hqt (Nat.mod_lt _ (by omega))
              · exact mulP_cell (by omega) hq (by omega) rfl (co_zl _ _) (co_zl _ _)
            · refine sV (evLss false rfl rfl (dF hc93)) (sK hK92 (wp_seq_k fun K112 hK112 => cF rfl (wp_exit (xE (xE (bE (bN (xN (hK55 _ _ (wp_region_lit (sV (evAdd (((i : Int)) + 1) rfl rfl wI) (sMi rfl (sDone (again (nr_3 - (i + 1)) (by omega) ⟨(i + 1), (q), rfl, rfl, rfl, rfl, rfl, rfl, cI, (hF41.trans hF76), ?_, ?_, ?_, ?_, ?_⟩))))))))))))))
              · exact hB77
              · omega
              · omega
              · exact hqt
              · exact mulP_next (by rw [zl_len, show dr_9.length = k by omega]; exact hq)
        · refine sV (evLss false rfl rfl (dF hc53)) (sK hK52 (wp_seq_k fun K113 hK113 => cF rfl (wp_exit (xE (xE (bE (xN (hK31 _ _ (rS fun K114 hK114 => sMs rfl ?_)))))))))
          have h115 : NatR w34 (fun b => b = g24) (some ⟨g24, 0, none⟩) ((nr_3 + nr_9) - 1) ((nr_3 + nr_9) - 1) (o) := NatR.of_blk hB42 rfl (lt_BS bm hot) (by exact lq) (by omega) (by unfold CapMax; omega)
          refine sO (oCall rfl call53 (modpoly_trim h115) rfl ?_)
          rintro _ w117 ⟨Ar_116, nr_116, cr_116, dr_116, rfl, hE118, hr_116, e_116, le_116⟩
          have hz119 := hE118.size
          have ⟨lr_116, kr_116, mr_116⟩ := hr_116.lkm
          refine sAs rfl (sK hK114 (wp_ret (ret1 (.slice Ar_116 nr_116 cr_116) Tryz.results57 (resT rfl) ?_)))
          have hR121 := (((hE5.trans hE11).trans hE27).rx hF41).xr hE118
          exact ⟨Ar_116, nr_116, cr_116, dr_116, rfl, (Frm.mono hR121 q4), (NatR.sub hr_116 q5), (by rw [e_116]; unfold mulP; rw [← e_3, ← e_9]; exact mulP_end ho (by rw [zl_len]; omega) (by rw [zl_len, zl_len]; omega) (by rw [zl_len]; omega) (by rw [zl_len]; omega)), (by omega), (by rw [e_116]; exact canP_trim hot)⟩
end Go.Proofs.YtneolcopompkaaaGreatDoor
