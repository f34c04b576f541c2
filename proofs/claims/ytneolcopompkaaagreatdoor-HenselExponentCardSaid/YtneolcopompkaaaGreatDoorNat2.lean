/-
  Walks of package natural: comparison, sums and differences.
-/
import Derived.Test.YtneolcopompkaaaGreatDoorNat1
import Derived.Test.YtneolcopompkaaaGreatDoorLibA
namespace Go.Proofs.YtneolcopompkaaaGreatDoor
open Go.RowKit Go.Gx
theorem bits_Sub32 {w : World} {x1 : Nat} {x2 : Nat} {x3 : Nat} (b1 : x1 < 4294967296) (b2 : x2 < 4294967296) (b3 : x3 < 4294967296) (hc : x3 ≤ 1) : Calls Tryz.prog 91 #[(.int .u32 ((x1 : Int))), (.int .u32 ((x2 : Int))), (.int .u32 ((x3 : Int)))] w (Ret fun v w' => ∃ (xs : Nat) (xc : Nat), v = (.tuple #[(.int .u32 ((xs : Int))), (.int .u32 ((xc : Int)))]) ∧ Ext w w' ∧ xs < 4294967296 ∧ xc < 4294967296 ∧ (xs + x2 + x3 = x1 + 4294967296 * xc) ∧ (xc ≤ 1)) := by
  refine enter Tryz.func91 rfl Tryz.ntmps91 rfl (rS fun K1 hK1 => sAi rfl (sAi rfl (sK hK1 (rS fun K2 hK2 => sMi rfl (sMi rfl (sV (evSub ((((x1 + 4294967296 - x2) % 4294967296 : Nat) : Int)) rfl rfl (wU32m (by omega))) (sMi rfl (sV (evSub ((((x1 + 8589934592 - x2 - x3) % 4294967296 : Nat) : Int)) rfl rfl (wU32m (by omega))) (sAi rfl (sK hK2 (rS fun K3 hK3 => sMi rfl (sV (v := (.int .u32 ((((~~~ BitVec.ofNat 32 x1).toNat : Nat) : Int)))) (evNot32 rfl) (sMi rfl (sV (v := (.int .u32 ((((BitVec.ofNat 32 ((~~~ BitVec.ofNat 32 x1).toNat) &&& BitVec.ofNat 32 x2).toNat : Nat) : Int)))) (evAnd32 rfl rfl) (sMi rfl (sMi rfl (sV (v := (.int .u32 ((((BitVec.ofNat 32 x1 ^^^ BitVec.ofNat 32 x2).toNat : Nat) : Int)))) (evXor32 rfl rfl) ?_)))))))))))))))))
  refine sV (v := (.int .u32 ((((~~~ BitVec.ofNat 32 ((BitVec.ofNat 32 x1 ^^^ BitVec.ofNat 32 x2).toNat)).toNat : Nat) : Int)))) (evNot32 rfl) (sMi rfl (sV (v := (.int .u32 ((((BitVec.ofNat 32 ((~~~ BitVec.ofNat 32 ((BitVec.ofNat 32 x1 ^^^ BitVec.ofNat 32 x2).toNat)).toNat) &&& BitVec.ofNat 32 ((x1 + 8589934592 - x2 - x3) % 4294967296)).toNat : Nat) : Int)))) (evAnd32 rfl rfl) (sV (v := (.int .u32 ((((BitVec.ofNat 32 ((BitVec.ofNat 32 ((~~~ BitVec.ofNat 32 x1).toNat) &&& BitVec.ofNat 32 x2).toNat) ||| BitVec.ofNat 32 ((BitVec.ofNat 32 ((~~~ BitVec.ofNat 32 ((BitVec.ofNat 32 x1 ^^^ BitVec.ofNat 32 x2).toNat)).toNat) &&& BitVec.ofNat 32 ((x1 + 8589934592 - x2 - x3) % 4294967296)).toNat)).toNat : Nat) : Int)))) (evOr32 rfl rfl) ?_)))
  generalize ht : (BitVec.ofNat 32 ((BitVec.ofNat 32 ((~~~ BitVec.ofNat 32 x1).toNat) &&& BitVec.ofNat 32 x2).toNat) ||| BitVec.ofNat 32 ((BitVec.ofNat 32 ((~~~ BitVec.ofNat 32 ((BitVec.ofNat 32 x1 ^^^ BitVec.ofNat 32 x2).toNat)).toNat) &&& BitVec.ofNat 32 ((x1 + 8589934592 - x2 - x3) % 4294967296)).toNat)).toNat = t
  have hbw := borrow32 b1 b2 hc rfl t ht.symm
  refine sV (evShr (((t / 2147483648 : Nat) : Int)) rfl rfl (by omega) (by rw [shr_div 31 rfl 2147483648 rfl (by omega)]; omega)) (sAi rfl (sK hK3 (wp_ret (ret2 (.int .u32 ((((x1 + 8589934592 - x2 - x3) % 4294967296 : Nat) : Int))) (.int .u32 (((t / 2147483648 : Nat) : Int))) Tryz.results91 (resT rfl) (resT rfl) ?_))))
  exact ⟨((x1 + 8589934592 - x2 - x3) % 4294967296), (t / 2147483648), rfl, (Frm.refl _ _), (by omega), (by omega), (by omega), (by omega)⟩
theorem bits_Mul32 {w : World} {x1 : Nat} {x2 : Nat} (b1 : x1 < 4294967296) (b2 : x2 < 4294967296)  : Calls Tryz.prog 147 #[(.int .u32 ((x1 : Int))), (.int .u32 ((x2 : Int)))] w (Ret fun v w' => ∃ (xh : Nat) (xl : Nat), v = (.tuple #[(.int .u32 ((xh : Int))), (.int .u32 ((xl : Int)))]) ∧ Ext w w' ∧ xh < 4294967296 ∧ xl < 4294967296 ∧ (xl + 4294967296 * xh = x1 * x2)) := by
  refine enter Tryz.func147 rfl Tryz.ntmps147 rfl ?_
  have hq2 : x1 * x2 ≤ 18446744065119617025 := mul32_le b1 b2
  refine rS fun K1 hK1 => sAi rfl (sAi rfl (sK hK1 (rS fun K2 hK2 => sMi rfl (sV (evConv ((x1 : Int)) Tryz.underlying26 Tryz.underlying100 rfl (wU64 (by omega))) (sMi rfl (sV (evConv ((x2 : Int)) Tryz.underlying26 Tryz.underlying100 rfl (wU64 (by omega))) (sV (evMul (((x1 * x2 : Nat) : Int)) rfl rfl (mulU64 hq2)) ?_)))))))
  generalize hq : x1 * x2 = q at *
  refine sAi rfl (sK hK2 (rS fun K3 hK3 => sMi rfl (sV (evShr (((q / 4294967296 : Nat) : Int)) rfl rfl (by omega) (by rw [shr_div 32 rfl 4294967296 rfl (by omega)]; omega)) (sV (evConv ((((q / 4294967296) % 4294967296 : Nat) : Int)) Tryz.underlying100 Tryz.underlying26 rfl (wU32m (by omega))) (sMi rfl (sV (evConv (((q % 4294967296 : Nat) : Int)) Tryz.underlying100 Tryz.underlying26 rfl (wU32m (by omega))) (sAi rfl (sAi rfl (sK hK3 (wp_ret (ret2 (.int .u32 ((((q / 4294967296) % 4294967296 : Nat) : Int))) (.int .u32 (((q % 4294967296 : Nat) : Int))) Tryz.results147 (resT rfl) (resT rfl) ?_)))))))))))
  exact ⟨((q / 4294967296) % 4294967296), (q % 4294967296), rfl, (Frm.refl _ _), (by omega), (by omega), (by omega)⟩
theorem natural_Cmp {w : World} {Sa : Nat → Prop} {Aa : Option Addr} {na ca : Nat} {da : List Nat} {Sb : Nat → Prop} {Ab : Option Addr} {nb cb : Nat} {db : List Nat} (ha : NatR w Sa Aa na ca da) (hb : NatR w Sb Ab nb cb db)  : Calls Tryz.prog 47 #[(.slice Aa na ca), (.slice Ab nb cb)] w (Ret fun v w' => ∃ (xr : Int), v = (.int .i64 (xr)) ∧ Ext w w' ∧ (xr = cmpN (val da) (val db))) := by
  have ⟨la, ka, ma⟩ := ha.lkm
  replace ha := ha.low
  have ⟨lb, kb, mb⟩ := hb.lkm
  replace hb := hb.low
  refine enter Tryz.func47 rfl Tryz.ntmps47 rfl (rS fun K1 hK1 => sAi rfl (sK hK1 (rS fun K2 hK2 => sMs rfl (sO (oCall rfl call87 (natural_trim ha) rfl ?_)))))
  rintro _ w4 ⟨Ar_3, nr_3, cr_3, dr_3, rfl, hE5, hr_3, e_3, le_3⟩
  have hz6 := hE5.size
  have ⟨lr_3, kr_3, mr_3⟩ := hr_3.lkm
  refine sMs rfl ?_
  have h8 := (hb.ext hE5)
  refine sO (oCall rfl call87 (natural_trim h8) rfl ?_)
  rintro _ w10 ⟨Ar_9, nr_9, cr_9, dr_9, rfl, hE11, hr_9, e_9, le_9⟩
  have hz12 := hE11.size
  have ⟨lr_9, kr_9, mr_9⟩ := hr_9.lkm
  refine sAs rfl (sAs rfl (sK hK2 (wp_seq_k fun K14 hK14 => wp_block (rS fun K15 hK15 => sMs rfl (sV (evLen Tryz.underlying23 rfl) (sMs rfl (sV (evLen Tryz.underlying23 rfl) ?_)))))))
  by_cases hc16 : ((nr_3 : Int)) < ((nr_9 : Int))
  · refine sV (evLss true rfl rfl (dT hc16)) (sAb rfl (sK hK15 (cT rfl (rS fun K17 hK17 => sAi rfl (sK hK17 (wp_ret (bR (xR (ret1 (.int .i64 ((-1))) Tryz.results47 (resT rfl) ?_)))))))))
    have hR18 := hE5.trans hE11
    exact ⟨((-1)), rfl, hR18, (cmp_lt e_3 e_9 (canon_len_lt hr_3.2 (by rw [e_9]; exact canon_trim _ _) (by omega)))⟩
  · refine sV (evLss false rfl rfl (dF hc16)) (sAb rfl (sK hK15 (cF rfl (rS fun K19 hK19 => sMs rfl (sV (evLen Tryz.underlying23 rfl) (sMs rfl (sV (evLen Tryz.underlying23 rfl) ?_)))))))
    by_cases hc20 : ((nr_3 : Int)) > ((nr_9 : Int))
    · refine sV (evGtr true rfl rfl (dT hc20)) (sAb rfl (sK hK19 (cT rfl (rS fun K21 hK21 => sAi rfl (sK hK21 (wp_ret (bR (xR (ret1 (.int .i64 (1)) Tryz.results47 (resT rfl) ?_)))))))))
      have hR22 := hE5.trans hE11
      exact ⟨(1), rfl, hR22, (cmp_gt e_3 e_9 (canon_len_lt hr_9.2 (by rw [e_3]; exact canon_trim _ _) (by omega)))⟩
    · refine sV (evGtr false rfl rfl (dF hc20)) (sAb rfl (sK hK19 (cF rfl (wp_skip (bN (xN (hK14 _ _ (wp_seq_k fun K23 hK23 => rS fun K24 hK24 => sMs rfl (sV (evLen Tryz.underlying23 rfl) (sV (evSub (((nr_3 : Int)) - 1) rfl rfl wI) (sAi rfl (sK hK24 (wp_block ?_)))))))))))))
      refine lLoop (fun m e w_ => ∃ (k : Nat), m = k ∧ e 0 = (.slice Ar_3 nr_3 cr_3) ∧ e 1 = (.slice Ar_9 nr_9 cr_9) ∧ e 5 = (.int .i64 ((k : Int) - 1)) ∧ Frm (fun b => False) w10 w_ ∧ (k ≤ nr_3) ∧ (∀ j, k ≤ j → dr_3.getD j 0 = dr_9.getD j 0)) ((nr_3)) ?_ ?_
      · refine ⟨(nr_3), rfl, rfl, rfl, cI, (Frm.refl _ _), ?_, ?_⟩
        · omega
        · exact eq_top (by omega) (by omega)
      · rintro m25 e32 w26 ⟨k, hm31, hs27, hs28, hs29, hF30, hk, heq⟩
        obtain ⟨r33, rfl⟩ := sq (e := e32) (t := 0) hs27
        obtain ⟨r34, rfl⟩ := sq (e := r33) (t := 1) hs28
        obtain ⟨r35, rfl⟩ := sq (e := r34) (t := 5) hs29
        have hz36 := hF30.size
        refine wp_seq_k fun K37 hK37 => rS fun K38 hK38 => sMi rfl ?_
        by_cases hc39 : ((k : Int) - 1) ≥ 0
        · refine sV (evGeq true rfl rfl (dT hc39)) (sK hK38 (cT rfl (wp_skip (xN (hK37 _ _ (wp_seq_k fun K40 hK40 => wp_block (wp_block (wp_seq_k fun K41 hK41 => dBegin (fun _ => False) mixed (fun w42 hE43 hz44 => dMs 0 rfl rfl (dMi 1 rfl rfl ?_))))))))))
          have hR45 := (hE11.trans hF30).trans hE43
          have h46 := (hr_3.ext hR45)
          obtain ⟨b47, o48, rfl⟩ := h46.base (by omega)
          refine dV 2 rfl (fun _ _ => evIx (k - 1) Tryz.underlying23 sz26 rfl rfl (o48 + (k - 1))) ?_
          have hd49 := h46.lt (k - 1)
          refine dV 3 rfl (fun _ hf => evLoad one26 rfl ((h46.ext hf).cell (by omega))) (dMs 4 rfl rfl (dMi 5 rfl rfl ?_))
          have hR50 := hF30.trans hE43
          have h51 := (hr_9.ext hR50)
          obtain ⟨b52, o53, rfl⟩ := h51.base (by omega)
          refine dV 6 rfl (fun _ _ => evIx (k - 1) Tryz.underlying23 sz26 rfl rfl (o53 + (k - 1))) ?_
          have hd54 := h51.lt (k - 1)
          refine dV 7 rfl (fun _ hf => evLoad one26 rfl ((h51.ext hf).cell (by omega))) ?_
          by_cases hc55 : (((dr_3.getD (k - 1) 0 : Nat) : Int)) < (((dr_9.getD (k - 1) 0 : Nat) : Int))
          · refine dV 8 rfl (fun _ _ => evLss true rfl rfl (dT hc55)) (dAb 9 rfl rfl (dDone (by kernel_rfl) (xN (hK41 _ _ (cT rfl (rS fun K56 hK56 => sAi rfl (sK hK56 (wp_ret (bR (bR (xR (xR (bR (xR (ret1 (.int .i64 ((-1))) Tryz.results47 (resT rfl) ?_)))))))))))))))
            have hR57 := ((hE5.trans hE11).trans hF30).trans hE43
            exact ⟨((-1)), rfl, hR57, (cmp_lt e_3 e_9 (val_lt_top (k := k) (by omega) hr_3.2 heq (by omega) (by omega) (by omega)))⟩
          · refine dV 8 rfl (fun _ _ => evLss false rfl rfl (dF hc55)) (dAb 9 rfl rfl (dDone (by kernel_rfl) (xN (hK41 _ _ (cF rfl (wp_seq_k fun K58 hK58 => dBegin (fun _ => False) mixed (fun w59 hE60 hz61 => dMs 0 rfl rfl (dMi 1 rfl rfl (dV 2 rfl (fun _ _ => evIx (k - 1) Tryz.underlying23 sz26 rfl rfl (o48 + (k - 1))) ?_)))))))))
            have h62 := (h46.ext hE60)
            have hd63 := h62.lt (k - 1)
            refine dV 3 rfl (fun _ hf => evLoad one26 rfl ((h62.ext hf).cell (by omega))) (dMs 4 rfl rfl (dMi 5 rfl rfl (dV 6 rfl (fun _ _ => evIx (k - 1) Tryz.underlying23 sz26 rfl rfl (o53 + (k - 1))) ?_)))
            have h64 := (h51.ext hE60)
            have hd65 := h64.lt (k - 1)
            refine dV 7 rfl (fun _ hf => evLoad one26 rfl ((h64.ext hf).cell (by omega))) ?_
            by_cases hc66 : (((dr_3.getD (k - 1) 0 : Nat) : Int)) > (((dr_9.getD (k - 1) 0 : Nat) : Int))
            · refine dV 8 rfl (fun _ _ => evGtr true rfl rfl (dT hc66)) (dAb 9 rfl rfl (dDone (by kernel_rfl) (xN (hK58 _ _ (cT rfl (rS fun K67 hK67 => sAi rfl (sK hK67 (wp_ret (bR (bR (xR (xR (bR (xR (ret1 (.int .i64 (1)) Tryz.results47 (resT rfl) ?_)))))))))))))))
              have hR68 := (((hE5.trans hE11).trans hF30).trans hE43).trans hE60
              exact ⟨(1), rfl, hR68, (cmp_gt e_3 e_9 (val_lt_top (k := k) (by omega) hr_9.2 (fun j hj => (heq j hj).symm) (by omega) (by omega) (by omega)))⟩
            · refine dV 8 rfl (fun _ _ => evGtr false rfl rfl (dF hc66)) (dAb 9 rfl rfl (dDone (by kernel_rfl) (xN (hK58 _ _ (cF rfl (wp_skip (bN (bN (xN (hK40 _ _ (wp_region_lit (sMi rfl (sV (evSub (((k : Int) - 1) - 1) rfl rfl wI) (sAi rfl (sDone ?_)))))))))))))))
              have hR69 := hE43.trans hE60
              refine again ((k - 1)) (by omega) ⟨(k - 1), rfl, rfl, rfl, cI, (hF30.trans hR69), ?_, ?_⟩
              · omega
              · exact eq_down heq (by omega)
        · refine sV (evGeq false rfl rfl (dF hc39)) (sK hK38 (cF rfl (wp_exit (xE (xE (bE (xN (hK23 _ _ (rS fun K70 hK70 => sAi rfl (sK hK70 (wp_ret (ret1 (.int .i64 (0)) Tryz.results47 (resT rfl) ?_))))))))))))
          have hR71 := (hE5.trans hE11).trans hF30
          exact ⟨(0), rfl, hR71, (cmp_eq e_3 e_9 (getD_ext (by omega) (fun j => heq j (by omega))))⟩
theorem natural_Of {w : World} {x1 : Nat} (b1 : x1 < 18446744073709551616)  : Calls Tryz.prog 75 #[(.int .u64 ((x1 : Int)))] w (Ret fun v w' => ∃ (Ar : Option Addr) (nr : Nat) (cr : Nat) (dr : List Nat), v = (.slice Ar nr cr) ∧ Ext w w' ∧ NatR w' (fun b => w.heap.size ≤ b) Ar nr cr dr ∧ (val dr = x1) ∧ (Canon isZ dr) ∧ (nr ≤ 2)) := by
  refine enter Tryz.func75 rfl Tryz.ntmps75 rfl (rS fun K1 hK1 => sAs rfl (sK hK1 (rS fun K2 hK2 => sMi rfl (sV (evConv (((x1 % 4294967296 : Nat) : Int)) Tryz.underlying100 Tryz.underlying26 rfl (wU32m (by omega))) (sMi rfl (sV (evShr (((x1 / 4294967296 : Nat) : Int)) rfl rfl (by omega) (by rw [shr_div 32 rfl 4294967296 rfl (by omega)]; omega)) (sV (evConv ((((x1 / 4294967296) % 4294967296 : Nat) : Int)) Tryz.underlying100 Tryz.underlying26 rfl (wU32m (by omega))) (sO (oBuildSlice [(.int .u32 (((x1 % 4294967296 : Nat) : Int))), (.int .u32 ((((x1 / 4294967296) % 4294967296 : Nat) : Int)))] [[(.int .u32 (((x1 % 4294967296 : Nat) : Int)))], [(.int .u32 ((((x1 / 4294967296) % 4294967296 : Nat) : Int)))]] Tryz.underlying23 inf26 rfl rfl rfl rfl rfl ?_)))))))))
  intro g3 w4 hg5 hE6 hz7 hB8
  replace hB8 : Blk w4 g3 26 [(.int .u32 (((x1 % 4294967296 : Nat) : Int))), (.int .u32 ((((x1 / 4294967296) % 4294967296 : Nat) : Int)))] := hB8
  have h9 : NatR w4 (fun b => b = g3) (some ⟨g3, 0, none⟩) 2 2 ([x1 % 4294967296, (x1 / 4294967296) % 4294967296]) := NatR.of_blk hB8 rfl (by simp [BS]; omega) (by exact lq) (by omega) (by unfold CapMax; omega)
  refine sO (oCall rfl call86 (natural_Normal h9 (by omega)) rfl ?_)
  rintro _ w11 ⟨Ar_10, nr_10, cr_10, dr_10, rfl, hE12, hr_10, e_10, le_10⟩
  have hz13 := hE12.size
  have ⟨lr_10, kr_10, mr_10⟩ := hr_10.lkm
  refine sAs rfl (sK hK2 (wp_ret (ret1 (.slice Ar_10 nr_10 cr_10) Tryz.results75 (resT rfl) ?_)))
  have hR15 := hE6.trans hE12
  exact ⟨Ar_10, nr_10, cr_10, dr_10, rfl, hR15, (NatR.sub hr_10 q5), (of_val e_10 (by omega)), (by rw [e_10]; exact canon_trim _ _), (by omega)⟩
theorem natural_Add {w : World} {Sa : Nat → Prop} {Aa : Option Addr} {na ca : Nat} {da : List Nat} {Sb : Nat → Prop} {Ab : Option Addr} {nb cb : Nat} {db : List Nat} (ha : NatR w Sa Aa na ca da) (hb : NatR w Sb Ab nb cb db) (hna : na ≤ 1099511627776) (hnb : nb ≤ 1099511627776) : Calls Tryz.prog 46 #[(.slice Aa na ca), (.slice Ab nb cb)] w (Ret fun v w' => ∃ (Ar : Option Addr) (nr : Nat) (cr : Nat) (dr : List Nat), v = (.slice Ar nr cr) ∧ Ext w w' ∧ NatR w' (fun b => w.heap.size ≤ b) Ar nr cr dr ∧ (val dr = val da + val db) ∧ (Canon isZ dr) ∧ (nr ≤ na + 1 ∨ nr ≤ nb + 1)) := by
  have ⟨la, ka, ma⟩ := ha.lkm
  replace ha := ha.low
  have ⟨lb, kb, mb⟩ := hb.lkm
  replace hb := hb.low
  refine enter Tryz.func46 rfl Tryz.ntmps46 rfl (rS fun K1 hK1 => sAs rfl (sK hK1 (rS fun K2 hK2 => sMs rfl (sO (oCall rfl call87 (natural_trim ha) rfl ?_)))))
  rintro _ w4 ⟨Ar_3, nr_3, cr_3, dr_3, rfl, hE5, hr_3, e_3, le_3⟩
  have hz6 := hE5.size
  have ⟨lr_3, kr_3, mr_3⟩ := hr_3.lkm
  refine sMs rfl ?_
  have h8 := (hb.ext hE5)
  refine sO (oCall rfl call87 (natural_trim h8) rfl ?_)
  rintro _ w10 ⟨Ar_9, nr_9, cr_9, dr_9, rfl, hE11, hr_9, e_9, le_9⟩
  have hz12 := hE11.size
  have ⟨lr_9, kr_9, mr_9⟩ := hr_9.lkm
  refine sAs rfl (sAs rfl (sK hK2 (wp_seq_k fun K14 hK14 => rS fun K15 hK15 => sMs rfl (sV (evLen Tryz.underlying23 rfl) (sMs rfl (sV (evLen Tryz.underlying23 rfl) ?_))))))
  by_cases hc16 : ((nr_3 : Int)) < ((nr_9 : Int))
  · refine sV (evLss true rfl rfl (dT hc16)) (sK hK15 (cT rfl (wp_region_lit (sMs rfl (sMs rfl (sAs rfl (sAs rfl (sK hK14 (rS fun K17 hK17 => sO (oAlloc [(.int .u32 (0))] zero26 rfl (fun g18 w19 hg20 hE21 hz22 hB23 => sK hK17 (rS fun K24 hK24 => sV (v := (.func (.func 88) #[] #[(.pointer (some ⟨g18, 0, none⟩))])) (evK (by kernel_rfl)) (sV (v := (.func (.func 88) #[] #[(.pointer (some ⟨g18, 0, none⟩))])) (rfl) (sK hK24 (rS fun K25 hK25 => sMs rfl (sV (evLen Tryz.underlying23 rfl) (sV (evAdd (((nr_9 : Int)) + 1) rfl rfl wI) (sO (oMake1 (nr_9 + 1) Tryz.underlying23 inf26 rfl cI cI (by omega) (by omega) (fun g26 w27 hg28 hE29 hz30 hB31 => ?_))))))))))))))))))))
    have hB32 : Blk w27 g26 26 (((List.replicate (nr_9 + 1) 0)).map u32) := by rw [List.map_replicate]; exact hB31
    refine sAs rfl (sK hK25 (wp_seq_k fun K33 hK33 => rS fun K34 hK34 => sMs rfl (sV (evLen Tryz.underlying23 rfl) (sMi rfl (sK hK34 (wp_block ?_))))))
    have hB36 := (hB23.ext hE29)
    refine lLoop (fun m e w_ => ∃ (k : Nat) (P : List Nat) (cy : Nat), m = nr_3 - k ∧ e 0 = (.slice Ar_9 nr_9 cr_9) ∧ e 1 = (.slice Ar_3 nr_3 cr_3) ∧ e 5 = (.pointer (some ⟨g18, 0, none⟩)) ∧ e 6 = (.func (.func 88) #[] #[(.pointer (some ⟨g18, 0, none⟩))]) ∧ e 7 = (.slice (some ⟨g26, 0, none⟩) (nr_9 + 1) (nr_9 + 1)) ∧ e 27 = (.slice Ar_3 nr_3 cr_3) ∧ e 28 = (.int .i64 ((nr_3 : Int))) ∧ e 29 = (.int .i64 ((k : Int))) ∧ Frm (fun b => b = g18 ∨ b = g26) w27 w_ ∧ Blk w_ g18 26 ([.int .u32 (cy : Int)]) ∧ Blk w_ g26 26 ((P ++ List.replicate (nr_9 + 1 - k) 0).map u32) ∧ (k ≤ nr_3) ∧ (0 ≤ k) ∧ (P.length = k) ∧ (∀ d ∈ P, d < BS) ∧ (cy ≤ 1) ∧ (val P + BS ^ k * cy = val (dr_9.take k) + val (dr_3.take k))) (nr_3 - (0)) ?_ ?_
    · refine ⟨(0), ([]), (0), rfl, rfl, rfl, rfl, rfl, rfl, rfl, rfl, cI, (Frm.refl _ _), ?_, ?_, ?_, ?_, ?_, ?_, ?_, ?_⟩
      · exact hB36
      · simpa using hB32
      · omega
      · omega
      · rfl
      · simp
      · omega
      · simp [val]
    · rintro m35 e50 w37 ⟨k, P, cy, hm49, hs38, hs39, hs40, hs41, hs42, hs43, hs44, hs45, hF46, hB47, hB48, hk, hl, hP, hlt, hcy, hv⟩
      obtain ⟨r51, rfl⟩ := sq (e := e50) (t := 0) hs38
      obtain ⟨r52, rfl⟩ := sq (e := r51) (t := 1) hs39
      obtain ⟨r53, rfl⟩ := sq (e := r52) (t := 5) hs40
      obtain ⟨r54, rfl⟩ := sq (e := r53) (t := 6) hs41
      obtain ⟨r55, rfl⟩ := sq (e := r54) (t := 7) hs42
      obtain ⟨r56, rfl⟩ := sq (e := r55) (t := 27) hs43
      obtain ⟨r57, rfl⟩ := sq (e := r56) (t := 28) hs44
      obtain ⟨r58, rfl⟩ := sq (e := r57) (t := 29) hs45
      have hz59 := hF46.size
      refine rS fun K60 hK60 => ?_
      by_cases hc61 : ((k : Int)) < ((nr_3 : Int))
      · refine sV (evLss true rfl rfl (dT hc61)) (sK hK60 (wp_seq_k fun K62 hK62 => cT rfl (wp_skip (xN (hK62 _ _ (wp_seq_k fun K63 hK63 => wp_block (rS fun K64 hK64 => sMi rfl ?_)))))))
        have hR65 := ((hE11.trans hE21).trans hE29).rx hF46
        have h66 := (hr_3.frmB hR65 q3)
        obtain ⟨b67, o68, rfl⟩ := h66.base (by omega)
        refine sV (evIx k Tryz.underlying23 sz26 rfl rfl (o68 + k)) ?_
        have hd69 := h66.lt k
        refine sV (evLoad one26 rfl (h66.cell (by omega))) (sAi rfl (sAi rfl (sK hK64 (wp_region_lit (sMs rfl (sMi rfl (sV (v := (.func (.func 88) #[] #[(.pointer (some ⟨g18, 0, none⟩))])) (rfl) (sMs rfl (sMi rfl ?_)))))))))
        have hR70 := (hE21.trans hE29).rx hF46
        have h71 := (hr_9.frmB hR70 q3)
        obtain ⟨b72, o73, rfl⟩ := h71.base (by omega)
        refine sV (evIx k Tryz.underlying23 sz26 rfl rfl (o73 + k)) ?_
        have hd74 := h71.lt k
        refine sV (evLoad one26 rfl (h71.cell (by omega))) (sMi rfl (sO (oCall rfl call88 (natural_Add_1 (x1 := dr_9.getD k 0) (by omega) (x2 := dr_3.getD k 0) (by omega) (xc := cy) hB47 (by omega) (by omega)) rfl ?_)))
        rintro _ w76 ⟨xs_75, zc_75, rfl, hE77, bs_75, B_75, e_75, z_75⟩
        have hz78 := hE77.size
        refine sV (evIx k Tryz.underlying23 sz26 rfl rfl k) ?_
        have hB79 := (hB48.frm hE77 q1)
        refine sO (oStore1 rfl rfl rfl sz26 hB79 (by exact lq) (fun w80 hU81 hz82 hB83 => ?_))
        replace hB83 : Blk w80 g26 26 (((P ++ [xs_75]) ++ List.replicate (nr_9 + 1 - (k + 1)) 0).map u32) := by rw [← (fill_set2 hP (by omega) : (P ++ List.replicate (nr_9 + 1 - k) 0).set k xs_75 = (P ++ [xs_75]) ++ List.replicate (nr_9 + 1 - (k + 1)) 0), List.map_set]; exact hB83
        refine sDone (bN (xN (hK63 _ _ (wp_region_lit (sV (evAdd (((k : Int)) + 1) rfl rfl wI) (sMi rfl (sDone ?_)))))))
        have hR84 := hE77.tr hU81
        have hB85 := (B_75.frm hU81 q1)
        refine again (nr_3 - (k + 1)) (by omega) ⟨(k + 1), (P ++ [xs_75]), (zc_75), rfl, rfl, rfl, rfl, rfl, rfl, rfl, rfl, cI, (Frm.mono (hF46.tr hR84) q4), ?_, ?_, ?_, ?_, ?_, ?_, ?_, ?_⟩
        · exact hB85
        · exact hB83
        · omega
        · omega
        · simp [hP]
        · exact lt_snoc hlt (by omega)
        · omega
        · exact add_step hv hP (by omega)
      · refine sV (evLss false rfl rfl (dF hc61)) (sK hK60 (wp_seq_k fun K86 hK86 => cF rfl (wp_exit (xE (xE (bE (xN (hK33 _ _ (wp_seq_k fun K87 hK87 => rS fun K88 hK88 => sMs rfl (sV (evLen Tryz.underlying23 rfl) (sAi rfl (sK hK88 (wp_block ?_)))))))))))))
        refine lLoop (fun m e w_ => ∃ (k2 : Nat) (P2 : List Nat) (cy2 : Nat), m = nr_9 - k2 ∧ e 0 = (.slice Ar_9 nr_9 cr_9) ∧ e 5 = (.pointer (some ⟨g18, 0, none⟩)) ∧ e 6 = (.func (.func 88) #[] #[(.pointer (some ⟨g18, 0, none⟩))]) ∧ e 7 = (.slice (some ⟨g26, 0, none⟩) (nr_9 + 1) (nr_9 + 1)) ∧ e 10 = (.int .i64 ((k2 : Int))) ∧ Frm (fun b => b = g18 ∨ b = g26) w37 w_ ∧ Blk w_ g18 26 ([.int .u32 (cy2 : Int)]) ∧ Blk w_ g26 26 ((P2 ++ List.replicate (nr_9 + 1 - k2) 0).map u32) ∧ (k2 ≤ nr_9) ∧ (nr_3 ≤ k2) ∧ (P2.length = k2) ∧ (∀ d ∈ P2, d < BS) ∧ (cy2 ≤ 1) ∧ (val P2 + BS ^ k2 * cy2 = val (dr_9.take k2) + val (dr_3.take k2))) (nr_9 - (k)) ?_ ?_
        · refine ⟨(k), (P), (cy), rfl, rfl, rfl, rfl, rfl, cI, (Frm.refl _ _), ?_, ?_, ?_, ?_, ?_, ?_, ?_, ?_⟩
          · exact hB47
          · exact hB48
          · omega
          · omega
          · exact hP
          · exact hlt
          · omega
          · exact hv
        · rintro m89 e100 w90 ⟨k2, P2, cy2, hm99, hs91, hs92, hs93, hs94, hs95, hF96, hB97, hB98, hk2, hl2, hP2, hlt2, hcy2, hv2⟩
          obtain ⟨r101, rfl⟩ := sq (e := e100) (t := 0) hs91
          obtain ⟨r102, rfl⟩ := sq (e := r101) (t := 5) hs92
          obtain ⟨r103, rfl⟩ := sq (e := r102) (t := 6) hs93
          obtain ⟨r104, rfl⟩ := sq (e := r103) (t := 7) hs94
          obtain ⟨r105, rfl⟩ := sq (e := r104) (t := 10) hs95
          have hz106 := hF96.size
          refine wp_seq_k fun K107 hK107 => rS fun K108 hK108 => sMi rfl (sMs rfl (sV (evLen Tryz.underlying23 rfl) ?_))
          by_cases hc109 : ((k2 : Int)) < ((nr_9 : Int))
          · refine sV (evLss true rfl rfl (dT hc109)) (sK hK108 (cT rfl (wp_skip (xN (hK107 _ _ (wp_seq_k fun K110 hK110 => wp_block (wp_region_lit (sMs rfl (sMi rfl (sV (v := (.func (.func 88) #[] #[(.pointer (some ⟨g18, 0, none⟩))])) (rfl) (sMs rfl (sMi rfl ?_))))))))))))
            have hR111 := ((hE21.trans hE29).rx hF46).trans hF96
            have h112 := (hr_9.frmB hR111 q3)
            obtain ⟨b113, o114, rfl⟩ := h112.base (by omega)
            refine sV (evIx k2 Tryz.underlying23 sz26 rfl rfl (o114 + k2)) ?_
            have hd115 := h112.lt k2
            refine sV (evLoad one26 rfl (h112.cell (by omega))) (sO (oCall rfl call88 (natural_Add_1 (x1 := dr_9.getD k2 0) (by omega) (x2 := 0) (by omega) (xc := cy2) hB97 (by omega) (by omega)) rfl ?_))
            rintro _ w117 ⟨xs_116, zc_116, rfl, hE118, bs_116, B_116, e_116, z_116⟩
            have hz119 := hE118.size
            refine sV (evIx k2 Tryz.underlying23 sz26 rfl rfl k2) ?_
            have hB120 := (hB98.frm hE118 q1)
            refine sO (oStore1 rfl rfl rfl sz26 hB120 (by exact lq) (fun w121 hU122 hz123 hB124 => ?_))
            replace hB124 : Blk w121 g26 26 (((P2 ++ [xs_116]) ++ List.replicate (nr_9 + 1 - (k2 + 1)) 0).map u32) := by rw [← (fill_set2 hP2 (by omega) : (P2 ++ List.replicate (nr_9 + 1 - k2) 0).set k2 xs_116 = (P2 ++ [xs_116]) ++ List.replicate (nr_9 + 1 - (k2 + 1)) 0), List.map_set]; exact hB124
            refine sDone (bN (xN (hK110 _ _ (wp_region_lit (sMi rfl (sV (evAdd (((k2 : Int)) + 1) rfl rfl wI) (sAi rfl (sDone ?_))))))))
            have hR125 := hE118.tr hU122
            have hB126 := (B_116.frm hU122 q1)
            refine again (nr_9 - (k2 + 1)) (by omega) ⟨(k2 + 1), (P2 ++ [xs_116]), (zc_116), rfl, rfl, rfl, rfl, rfl, cI, (Frm.mono (hF96.tr hR125) q4), ?_, ?_, ?_, ?_, ?_, ?_, ?_, ?_⟩
            · exact hB126
            · exact hB124
            · omega
            · omega
            · simp [hP2]
            · exact lt_snoc hlt2 (by omega)
            · omega
            · exact add_step hv2 hP2 (by rw [getD_ge (ds := dr_3) (n := nr_3) (by omega) k2 (by omega)]; omega)
          · refine sV (evLss false rfl rfl (dF hc109)) (sK hK108 (cF rfl (wp_exit (xE (xE (bE (xN (hK87 _ _ (rS fun K127 hK127 => sMs rfl (sMs rfl (sV (evLen Tryz.underlying23 rfl) (sV (evLoadB one26 rfl hB97 rfl) (sV (evIx nr_9 Tryz.underlying23 sz26 rfl rfl nr_9) (sO (oStore1 rfl rfl rfl sz26 hB98 (by exact lq) (fun w128 hU129 hz130 hB131 => ?_))))))))))))))))
            replace hB131 : Blk w128 g26 26 ((P2 ++ [cy2]).map u32) := by rw [← (last_set (hP2.trans (by omega)) (by omega) : (P2 ++ List.replicate (nr_9 + 1 - k2) 0).set nr_9 cy2 = P2 ++ [cy2]), List.map_set]; exact hB131
            refine sK hK127 (rS fun K132 hK132 => sMs rfl ?_)
            have h133 : NatR w128 (fun b => b = g26) (some ⟨g26, 0, none⟩) (nr_9 + 1) (nr_9 + 1) (P2 ++ [cy2]) := NatR.of_blk hB131 rfl (lt_snoc hlt2 (by omega)) (by exact lq) (by omega) (by unfold CapMax; omega)
            refine sO (oCall rfl call87 (natural_trim h133) rfl ?_)
            rintro _ w135 ⟨Ar_134, nr_134, cr_134, dr_134, rfl, hE136, hr_134, e_134, le_134⟩
            have hz137 := hE136.size
            have ⟨lr_134, kr_134, mr_134⟩ := hr_134.lkm
            refine sAs rfl (sK hK132 (wp_ret (ret1 (.slice Ar_134 nr_134 cr_134) Tryz.results46 (resT rfl) ?_)))
            have hR139 := ((((((hE5.trans hE11).trans hE21).trans hE29).rx hF46).trans hF96).tr hU129).xr hE136
            exact ⟨Ar_134, nr_134, cr_134, dr_134, rfl, (Frm.mono hR139 q4), (NatR.sub hr_134 q5), (add_fin e_134 (add_end hv2 hP2 (by omega) (by omega)) e_9 e_3 (Nat.add_comm _ _)), (by rw [e_134]; exact canon_trim _ _), (by omega)⟩
  · refine sV (evLss false rfl rfl (dF hc16)) (sK hK15 (cF rfl (wp_skip (xN (hK14 _ _ (rS fun K140 hK140 => sO (oAlloc [(.int .u32 (0))] zero26 rfl (fun g141 w142 hg143 hE144 hz145 hB146 => sK hK140 (rS fun K147 hK147 => sV (v := (.func (.func 88) #[] #[(.pointer (some ⟨g141, 0, none⟩))])) (evK (by kernel_rfl)) (sV (v := (.func (.func 88) #[] #[(.pointer (some ⟨g141, 0, none⟩))])) (rfl) (sK hK147 (rS fun K148 hK148 => sMs rfl (sV (evLen Tryz.underlying23 rfl) (sV (evAdd (((nr_3 : Int)) + 1) rfl rfl wI) (sO (oMake1 (nr_3 + 1) Tryz.underlying23 inf26 rfl cI cI (by omega) (by omega) (fun g149 w150 hg151 hE152 hz153 hB154 => ?_)))))))))))))))))
    have hB155 : Blk w150 g149 26 (((List.replicate (nr_3 + 1) 0)).map u32) := by rw [List.map_replicate]; exact hB154
    refine sAs rfl (sK hK148 (wp_seq_k fun K156 hK156 => rS fun K157 hK157 => sMs rfl (sV (evLen Tryz.underlying23 rfl) (sMi rfl (sK hK157 (wp_block ?_))))))
    have hB159 := (hB146.ext hE152)
    refine lLoop (fun m e w_ => ∃ (k : Nat) (P : List Nat) (cy : Nat), m = nr_9 - k ∧ e 0 = (.slice Ar_3 nr_3 cr_3) ∧ e 1 = (.slice Ar_9 nr_9 cr_9) ∧ e 5 = (.pointer (some ⟨g141, 0, none⟩)) ∧ e 6 = (.func (.func 88) #[] #[(.pointer (some ⟨g141, 0, none⟩))]) ∧ e 7 = (.slice (some ⟨g149, 0, none⟩) (nr_3 + 1) (nr_3 + 1)) ∧ e 27 = (.slice Ar_9 nr_9 cr_9) ∧ e 28 = (.int .i64 ((nr_9 : Int))) ∧ e 29 = (.int .i64 ((k : Int))) ∧ Frm (fun b => b = g141 ∨ b = g149) w150 w_ ∧ Blk w_ g141 26 ([.int .u32 (cy : Int)]) ∧ Blk w_ g149 26 ((P ++ List.replicate (nr_3 + 1 - k) 0).map u32) ∧ (k ≤ nr_9) ∧ (0 ≤ k) ∧ (P.length = k) ∧ (∀ d ∈ P, d < BS) ∧ (cy ≤ 1) ∧ (val P + BS ^ k * cy = val (dr_3.take k) + val (dr_9.take k))) (nr_9 - (0)) ?_ ?_
    · refine ⟨(0), ([]), (0), rfl, rfl, rfl, rfl, rfl, rfl, rfl, rfl, cI, (Frm.refl _ _), ?_, ?_, ?_, ?_, ?_, ?_, ?_, ?_⟩
      · exact hB159
      · simpa using hB155
      · omega
      · omega
      · rfl
      · simp
      · omega
      · simp [val]
    · rintro m158 e173 w160 ⟨k, P, cy, hm172, hs161, hs162, hs163, hs164, hs165, hs166, hs167, hs168, hF169, hB170, hB171, hk, hl, hP, hlt, hcy, hv⟩
      obtain ⟨r174, rfl⟩ := sq (e := e173) (t := 0) hs161
      obtain ⟨r175, rfl⟩ := sq (e := r174) (t := 1) hs162
      obtain ⟨r176, rfl⟩ := sq (e := r175) (t := 5) hs163
      obtain ⟨r177, rfl⟩ := sq (e := r176) (t := 6) hs164
      obtain ⟨r178, rfl⟩ := sq (e := r177) (t := 7) hs165
      obtain ⟨r179, rfl⟩ := sq (e := r178) (t := 27) hs166
      obtain ⟨r180, rfl⟩ := sq (e := r179) (t := 28) hs167
      obtain ⟨r181, rfl⟩ := sq (e := r180) (t := 29) hs168
      have hz182 := hF169.size
      refine rS fun K183 hK183 => ?_
      by_cases hc184 : ((k : Int)) < ((nr_9 : Int))
      · refine sV (evLss true rfl rfl (dT hc184)) (sK hK183 (wp_seq_k fun K185 hK185 => cT rfl (wp_skip (xN (hK185 _ _ (wp_seq_k fun K186 hK186 => wp_block (rS fun K187 hK187 => sMi rfl ?_)))))))
        have hR188 := (hE144.trans hE152).rx hF169
        have h189 := (hr_9.frmB hR188 q3)
        obtain ⟨b190, o191, rfl⟩ := h189.base (by omega)
        refine sV (evIx k Tryz.underlying23 sz26 rfl rfl (o191 + k)) ?_
        have hd192 := h189.lt k
        refine sV (evLoad one26 rfl (h189.cell (by omega))) (sAi rfl (sAi rfl (sK hK187 (wp_region_lit (sMs rfl (sMi rfl (sV (v := (.func (.func 88) #[] #[(.pointer (some ⟨g141, 0, none⟩))])) (rfl) (sMs rfl (sMi rfl ?_)))))))))
        have hR193 := ((hE11.trans hE144).trans hE152).rx hF169
        have h194 := (hr_3.frmB hR193 q3)
        obtain ⟨b195, o196, rfl⟩ := h194.base (by omega)
        refine sV (evIx k Tryz.underlying23 sz26 rfl rfl (o196 + k)) ?_
        have hd197 := h194.lt k
        refine sV (evLoad one26 rfl (h194.cell (by omega))) (sMi rfl (sO (oCall rfl call88 (natural_Add_1 (x1 := dr_3.getD k 0) (by omega) (x2 := dr_9.getD k 0) (by omega) (xc := cy) hB170 (by omega) (by omega)) rfl ?_)))
        rintro _ w199 ⟨xs_198, zc_198, rfl, hE200, bs_198, B_198, e_198, z_198⟩
        have hz201 := hE200.size
        refine sV (evIx k Tryz.underlying23 sz26 rfl rfl k) ?_
        have hB202 := (hB171.frm hE200 q1)
        refine sO (oStore1 rfl rfl rfl sz26 hB202 (by exact lq) (fun w203 hU204 hz205 hB206 => ?_))
        replace hB206 : Blk w203 g149 26 (((P ++ [xs_198]) ++ List.replicate (nr_3 + 1 - (k + 1)) 0).map u32) := by rw [← (fill_set2 hP (by omega) : (P ++ List.replicate (nr_3 + 1 - k) 0).set k xs_198 = (P ++ [xs_198]) ++ List.replicate (nr_3 + 1 - (k + 1)) 0), List.map_set]; exact hB206
        refine sDone (bN (xN (hK186 _ _ (wp_region_lit (sV (evAdd (((k : Int)) + 1) rfl rfl wI) (sMi rfl (sDone ?_)))))))
        have hR207 := hE200.tr hU204
        have hB208 := (B_198.frm hU204 q1)
        refine again (nr_9 - (k + 1)) (by omega) ⟨(k + 1), (P ++ [xs_198]), (zc_198), rfl, rfl, rfl, rfl, rfl, rfl, rfl, rfl, cI, (Frm.mono (hF169.tr hR207) q4), ?_, ?_, ?_, ?_, ?_, ?_, ?_, ?_⟩
        · exact hB208
        · exact hB206
        · omega
        · omega
        · simp [hP]
        · exact lt_snoc hlt (by omega)
        · omega
        · exact add_step hv hP (by omega)
      · refine sV (evLss false rfl rfl (dF hc184)) (sK hK183 (wp_seq_k fun K209 hK209 => cF rfl (wp_exit (xE (xE (bE (xN (hK156 _ _ (wp_seq_k fun K210 hK210 => rS fun K211 hK211 => sMs rfl (sV (evLen Tryz.underlying23 rfl) (sAi rfl (sK hK211 (wp_block ?_)))))))))))))
        refine lLoop (fun m e w_ => ∃ (k2 : Nat) (P2 : List Nat) (cy2 : Nat), m = nr_3 - k2 ∧ e 0 = (.slice Ar_3 nr_3 cr_3) ∧ e 5 = (.pointer (some ⟨g141, 0, none⟩)) ∧ e 6 = (.func (.func 88) #[] #[(.pointer (some ⟨g141, 0, none⟩))]) ∧ e 7 = (.slice (some ⟨g149, 0, none⟩) (nr_3 + 1) (nr_3 + 1)) ∧ e 10 = (.int .i64 ((k2 : Int))) ∧ Frm (fun b => b = g141 ∨ b = g149) w160 w_ ∧ Blk w_ g141 26 ([.int .u32 (cy2 : Int)]) ∧ Blk w_ g149 26 ((P2 ++ List.replicate (nr_3 + 1 - k2) 0).map u32) ∧ (k2 ≤ nr_3) ∧ (nr_9 ≤ k2) ∧ (P2.length = k2) ∧ (∀ d ∈ P2, d < BS) ∧ (cy2 ≤ 1) ∧ (val P2 + BS ^ k2 * cy2 = val (dr_3.take k2) + val (dr_9.take k2))) (nr_3 - (k)) ?_ ?_
        · refine ⟨(k), (P), (cy), rfl, rfl, rfl, rfl, rfl, cI, (Frm.refl _ _), ?_, ?_, ?_, ?_, ?_, ?_, ?_, ?_⟩
          · exact hB170
          · exact hB171
          · omega
          · omega
          · exact hP
          · exact hlt
          · omega
          · exact hv
        · rintro m212 e223 w213 ⟨k2, P2, cy2, hm222, hs214, hs215, hs216, hs217, hs218, hF219, hB220, hB221, hk2, hl2, hP2, hlt2, hcy2, hv2⟩
          obtain ⟨r224, rfl⟩ := sq (e := e223) (t := 0) hs214
          obtain ⟨r225, rfl⟩ := sq (e := r224) (t := 5) hs215
          obtain ⟨r226, rfl⟩ := sq (e := r225) (t := 6) hs216
          obtain ⟨r227, rfl⟩ := sq (e := r226) (t := 7) hs217
          obtain ⟨r228, rfl⟩ := sq (e := r227) (t := 10) hs218
          have hz229 := hF219.size
          refine wp_seq_k fun K230 hK230 => rS fun K231 hK231 => sMi rfl (sMs rfl (sV (evLen Tryz.underlying23 rfl) ?_))
          by_cases hc232 : ((k2 : Int)) < ((nr_3 : Int))
          · refine sV (evLss true rfl rfl (dT hc232)) (sK hK231 (cT rfl (wp_skip (xN (hK230 _ _ (wp_seq_k fun K233 hK233 => wp_block (wp_region_lit (sMs rfl (sMi rfl (sV (v := (.func (.func 88) #[] #[(.pointer (some ⟨g141, 0, none⟩))])) (rfl) (sMs rfl (sMi rfl ?_))))))))))))
            have hR234 := (((hE11.trans hE144).trans hE152).rx hF169).trans hF219
            have h235 := (hr_3.frmB hR234 q3)
            obtain ⟨b236, o237, rfl⟩ := h235.base (by omega)
            refine sV (evIx k2 Tryz.underlying23 sz26 rfl rfl (o237 + k2)) ?_
            have hd238 := h235.lt k2
            refine sV (evLoad one26 rfl (h235.cell (by omega))) (sO (oCall rfl call88 (natural_Add_1 (x1 := dr_3.getD k2 0) (by omega) (x2 := 0) (by omega) (xc := cy2) hB220 (by omega) (by omega)) rfl ?_))
            rintro _ w240 ⟨xs_239, zc_239, rfl, hE241, bs_239, B_239, e_239, z_239⟩
            have hz242 := hE241.size
            refine sV (evIx k2 Tryz.underlying23 sz26 rfl rfl k2) ?_
            have hB243 := (hB221.frm hE241 q1)
            refine sO (oStore1 rfl rfl rfl sz26 hB243 (by exact lq) (fun w244 hU245 hz246 hB247 => ?_))
            replace hB247 : Blk w244 g149 26 (((P2 ++ [xs_239]) ++ List.replicate (nr_3 + 1 - (k2 + 1)) 0).map u32) := by rw [← (fill_set2 hP2 (by omega) : (P2 ++ List.replicate (nr_3 + 1 - k2) 0).set k2 xs_239 = (P2 ++ [xs_239]) ++ List.replicate (nr_3 + 1 - (k2 + 1)) 0), List.map_set]; exact hB247
            refine sDone (bN (xN (hK233 _ _ (wp_region_lit (sMi rfl (sV (evAdd (((k2 : Int)) + 1) rfl rfl wI) (sAi rfl (sDone ?_))))))))
            have hR248 := hE241.tr hU245
            have hB249 := (B_239.frm hU245 q1)
            refine again (nr_3 - (k2 + 1)) (by omega) ⟨(k2 + 1), (P2 ++ [xs_239]), (zc_239), rfl, rfl, rfl, rfl, rfl, cI, (Frm.mono (hF219.tr hR248) q4), ?_, ?_, ?_, ?_, ?_, ?_, ?_, ?_⟩
            · exact hB249
            · exact hB247
            · omega
            · omega
            · simp [hP2]
            · exact lt_snoc hlt2 (by omega)
            · omega
            · exact add_step hv2 hP2 (by rw [getD_ge (ds := dr_9) (n := nr_9) (by omega) k2 (by omega)]; omega)
          · refine sV (evLss false rfl rfl (dF hc232)) (sK hK231 (cF rfl (wp_exit (xE (xE (bE (xN (hK210 _ _ (rS fun K250 hK250 => sMs rfl (sMs rfl (sV (evLen Tryz.underlying23 rfl) (sV (evLoadB one26 rfl hB220 rfl) (sV (evIx nr_3 Tryz.underlying23 sz26 rfl rfl nr_3) (sO (oStore1 rfl rfl rfl sz26 hB221 (by exact lq) (fun w251 hU252 hz253 hB254 => ?_))))))))))))))))
            replace hB254 : Blk w251 g149 26 ((P2 ++ [cy2]).map u32) := by rw [← (last_set (hP2.trans (by omega)) (by omega) : (P2 ++ List.replicate (nr_3 + 1 - k2) 0).set nr_3 cy2 = P2 ++ [cy2]), List.map_set]; exact hB254
            refine sK hK250 (rS fun K255 hK255 => sMs rfl ?_)
            have h256 : NatR w251 (fun b => b = g149) (some ⟨g149, 0, none⟩) (nr_3 + 1) (nr_3 + 1) (P2 ++ [cy2]) := NatR.of_blk hB254 rfl (lt_snoc hlt2 (by omega)) (by exact lq) (by omega) (by unfold CapMax; omega)
            refine sO (oCall rfl call87 (natural_trim h256) rfl ?_)
            rintro _ w258 ⟨Ar_257, nr_257, cr_257, dr_257, rfl, hE259, hr_257, e_257, le_257⟩
            have hz260 := hE259.size
            have ⟨lr_257, kr_257, mr_257⟩ := hr_257.lkm
            refine sAs rfl (sK hK255 (wp_ret (ret1 (.slice Ar_257 nr_257 cr_257) Tryz.results46 (resT rfl) ?_)))
            have hR262 := ((((((hE5.trans hE11).trans hE144).trans hE152).rx hF169).trans hF219).tr hU252).xr hE259
            exact ⟨Ar_257, nr_257, cr_257, dr_257, rfl, (Frm.mono hR262 q4), (NatR.sub hr_257 q5), (add_fin e_257 (add_end hv2 hP2 (by omega) (by omega)) e_3 e_9 rfl), (by rw [e_257]; exact canon_trim _ _), (by omega)⟩
end Go.Proofs.YtneolcopompkaaaGreatDoor
