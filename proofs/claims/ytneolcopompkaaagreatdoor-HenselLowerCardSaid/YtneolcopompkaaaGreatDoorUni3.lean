/-
  Walks of package unipoly: Of, Compare, Same; of the laws: awake, Few.
-/
import Derived.Test.YtneolcopompkaaaGreatDoorUni2
namespace Go.Proofs.YtneolcopompkaaaGreatDoor
open Go.RowKit Go.Gx Tryz
theorem unipoly_Of {w : World} {Sa : Nat → Prop} {Aa : Option Addr} {na ca : Nat} {xa : List Int} (ha : IntsR w Sa Aa na ca xa) (hna : na ≤ 1048576) : Calls Tryz.prog 17 #[(.slice Aa na ca)] w (Ret fun v w' => ∃ (Ar : Option Addr) (nr : Nat) (cr : Nat) (lr : List RI), v = (.slice Ar nr cr) ∧ Ext w w' ∧ PolyR w' (fun b => w.heap.size ≤ b) Ar nr cr lr (2) ∧ (zs lr = trimZ xa) ∧ (nr ≤ na) ∧ (AllC lr)) := by
 have ⟨la, ka, ma⟩ := ha.lkm;replace ha := ha.low;refine enter func17 rfl ntmps17 rfl (rS fun K1 W => sAs rfl (sK W (rS fun K2 X => sMs rfl (sV (evLen underlying82 rfl) (sO (oMake2 na underlying39 inf25 cI cI Qo Qo (fun n Y c2 G c3 Z => ?_)))))));have a0 : Blk Y n 25 (cellsI (List.replicate na RI.zero)) := Z;refine sAs rfl (sK X (wp_seq_k fun c4 H => rS fun c5 I => sMs rfl (sV (evLen underlying82 rfl) (sMi rfl (sK I (wp_block ?_))))));refine lLoop (fun m e w_ => ∃ (k : Nat) (L : List RI), m = na - k ∧ e 3 = (.slice (some ⟨n, 0, none⟩) na na) ∧ e 9 = (.slice Aa na ca) ∧ e 10 = (.int .i64 na) ∧ e 11 = (.int .i64 k) ∧ Frm (fun b => b = n) Y w_ ∧ Blk w_ n 25 (cellsI (L ++ List.replicate (na - k) RI.zero)) ∧ (k ≤ na) ∧ (L.length = k) ∧ (AllN w_ (fun b => n < b) 2 L) ∧ (zs L = (List.range k).map (fun i => xa.getD i 0)) ∧ (AllC L)) (na - (0)) ?_ ?_
 ·refine ⟨(0), ([]), rfl, rfl, rfl, rfl, cI, (Frm.refl _ _), ?_, ?_, ?_, ?_, ?_, ?_⟩
  ·simpa using a0
  ·omega
  ·rfl
  ·exact AllN.nil
  ·rfl
  ·exact AllC.nil
 ·rintro c6 c7 a1 ⟨k, L, b5, J, K, M, N, j, u, hk, hL, hA, hz, hC⟩
  obtain ⟨c8, rfl⟩ := sq4 J K M N;have b6 := j.size;refine rS fun c9 x => ?_
  by_cases y : ((k : Int)) < ((na : Int))
  ·refine sV (evLss true rfl rfl (dT y)) (sK x (wp_seq_k fun d0 O => cT rfl (wp_skip (xN (O _ _ (wp_seq_k fun d1 P => wp_block (rS fun d2 Q => sMi rfl ?_)))))))
   have R := G.rx j;have z := (ha.frmB R q3);obtain ⟨d3, a2, rfl⟩ := z.base Qo;refine sV (evIx k underlying82 sz2 rfl rfl (a2 + k)) ?_;have b7 := z.rng k;refine sV (evLoad one2 rfl (z.cell Qo)) (sAi rfl (sAi rfl (sK Q (wp_region_lit (sMs rfl (sMi rfl (sMi rfl (sO (oCall rfl call35 (integer_Of Qo) rfl ?_)))))))));rintro _ d4 ⟨a, c, d, f, g, rfl, o, p, S, E, a7⟩;have b8 := o.size;have ⟨a8, a9, b0⟩ := p.lkm;refine sV (evIx k underlying39 sz25 rfl rfl (k * 2)) ?_;have T := (u.ext o);refine sO (oStore [(.bool a), (.slice c d f)] rfl rfl rfl sz25 rfl T (by rw [cellsI_len]; simp only [List.length_cons, List.length_nil]; exact lq) (fun a3 A b9 h => ?_));replace h := (cellsI_set (l := L ++ List.replicate (na - k) RI.zero) (i := k) ⟨a, c, d, f, g⟩ (by exact lq)) ▸ h;replace h : Blk a3 n 25 (cellsI ((L ++ [⟨a, c, d, f, g⟩]) ++ List.replicate (na - (k + 1)) RI.zero)) := (fillI_set hL Qo : (L ++ List.replicate (na - k) RI.zero).set k ⟨a, c, d, f, g⟩ = (L ++ [⟨a, c, d, f, g⟩]) ++ List.replicate (na - (k + 1)) RI.zero) ▸ h;refine sDone (bN (xN (P _ _ (wp_region_lit (sV (evAdd (((k : Int)) + 1) rfl rfl wI) (sMi rfl (sDone ?_)))))));have B := o.rx A;have a4 := (hA.frmB B q3);have a5 := (p.frmB A q3);refine again (na - (k + 1)) Qo ⟨(k + 1), (L ++ [⟨a, c, d, f, g⟩]), rfl, rfl, rfl, rfl, cI, (j.trans B), ?_, ?_, ?_, ?_, ?_, ?_⟩
   ·exact h
   ·omega
   ·simp [hL]
   ·exact AllN.snoc a4 (NatR.sub a5 q5) (by (try dsimp only); omega)
   ·exact zs_snoc hz S
   ·exact AllC.snoc hC E
  ·refine sV (evLss false rfl rfl (dF y)) (sK x (wp_seq_k fun d5 c0 => cF rfl (wp_exit (xE (xE (bE (xN (H _ _ (rS fun d6 U => sMs rfl ?_)))))))))
   have a6 : PolyR a1 (fun b => n ≤ b) (some ⟨n, 0, none⟩) na na (L ++ List.replicate (na - k) RI.zero) (2) := PolyR.of_blk u (AllN.app (AllN.sub hA q5) (AllN.zeros _)) (by (try dsimp only); omega) (by exact lq) (by omega) (by unfold CapMax; omega);refine sO (oCall rfl call49 (unipoly_trim a6) rfl ?_);rintro _ d7 ⟨q, r, s, F, rfl, C, t, D, b1⟩;have c1 := C.size;have ⟨b2, b3, b4⟩ := t.lkm;refine sAs rfl (sK U (wp_ret (ret1 (.slice q r s) results17 (resT rfl) ?_)));have V := (G.rx j).xr C;exact ⟨q, r, s, F, rfl, (Frm.mono V q4), (PolyR.le (PolyR.sub t q5) (by omega)), (by rw [D, zs_trim, show na - k = 0 by omega, List.replicate_zero, List.append_nil, hz, show k = xa.length by omega, map_getD_range]), (by omega), (by rw [D]; exact (AllC.app hC (AllC.zeros _)).trim)⟩
theorem unipoly_Compare {w : World} {Sa : Nat → Prop} {Aa : Option Addr} {na ca Ma : Nat} {la : List RI} {Sb : Nat → Prop} {Ab : Option Addr} {nb cb Mb : Nat} {lb : List RI} (ha : PolyR w Sa Aa na ca la Ma) (hb : PolyR w Sb Ab nb cb lb Mb)  : Calls Tryz.prog 67 #[(.slice Aa na ca), (.slice Ab nb cb)] w (Ret fun v w' => ∃ (xr : Int), v = (.int .i64 (xr)) ∧ Ext w w' ∧ (xr = cmpP (trimZ (zs la)) (trimZ (zs lb)))) := by
 have ⟨ka, ja, ma⟩ := ha.lkm;replace ha := ha.low;have ⟨kb, jb, mb⟩ := hb.lkm;replace hb := hb.low;refine enter func67 rfl ntmps67 rfl (rS fun K1 c3 => sAi rfl (sK c3 (rS fun K2 c4 => sMs rfl (sO (oCall rfl call49 (unipoly_trim ha) rfl ?_)))));rintro _ w4 ⟨R, a, S, t, rfl, f, u, r, d4⟩;have f6 := f.size;have ⟨d5, d6, d7⟩ := u.lkm;refine sMs rfl ?_;have h8 := (hb.ext f);refine sO (oCall rfl call49 (unipoly_trim h8) rfl ?_);rintro _ c5 ⟨T, n, U, x, rfl, c, y, s, d9⟩;have e0 := c.size;have ⟨e1, e2, e3⟩ := y.lkm;refine sAs rfl (sAs rfl (sK c4 (wp_seq_k fun f7 V => wp_block (rS fun f8 z => sMs rfl (sV (evLen underlying39 rfl) (sMs rfl (sV (evLen underlying39 rfl) ?_)))))))
 by_cases A : ((a : Int)) < ((n : Int))
 ·refine sV (evLss true rfl rfl (dT A)) (sAb rfl (sK z (cT rfl (rS fun f9 W => sAi rfl (sK W (wp_ret (bR (xR (ret1 (.int .i64 ((-1))) results67 (resT rfl) ?_)))))))))
  have X := f.trans c;exact ⟨((-1)), rfl, X, (by rw [← zs_trim, ← zs_trim, ← r, ← s]; exact cmpP_lt (by simp only [zlen]; omega))⟩
 ·refine sV (evLss false rfl rfl (dF A)) (sAb rfl (sK z (cF rfl (rS fun g0 B => sMs rfl (sV (evLen underlying39 rfl) (sMs rfl (sV (evLen underlying39 rfl) ?_)))))))
  by_cases C : ((a : Int)) > ((n : Int))
  ·refine sV (evGtr true rfl rfl (dT C)) (sAb rfl (sK B (cT rfl (rS fun g1 Y => sAi rfl (sK Y (wp_ret (bR (xR (ret1 (.int .i64 (1)) results67 (resT rfl) ?_)))))))))
   have Z := f.trans c;exact ⟨(1), rfl, Z, (by rw [← zs_trim, ← zs_trim, ← r, ← s]; exact cmpP_gt (by simp only [zlen]; omega))⟩
  ·refine sV (evGtr false rfl rfl (dF C)) (sAb rfl (sK B (cF rfl (wp_skip (bN (xN (V _ _ (wp_seq_k fun g2 a0 => rS fun g3 a1 => sMs rfl (sV (evLen underlying39 rfl) (sV (evSub (((a : Int)) - 1) rfl rfl wI) (sAi rfl (sK a1 (wp_block ?_)))))))))))))
   refine lLoop (fun m e w_ => ∃ (k : Nat), m = k ∧ e 0 = (.slice R a S) ∧ e 1 = (.slice T n U) ∧ e 5 = (.int .i64 ((k : Int) - 1)) ∧ Frm (fun b => False) c5 w_ ∧ (k ≤ a) ∧ (cmpP (zs t) (zs x) = cmpTop (zs t) (zs x) k)) ((a)) ?_ ?_
   ·refine ⟨(a), rfl, rfl, rfl, cI, (Frm.refl _ _), ?_, ?_⟩
    ·omega
    ·exact cmpP_eq (by simp only [zlen]; omega) (by simp only [zlen]; omega)
   ·rintro g4 g5 g6 ⟨k, e4, a2, a3, a4, d, hk, hX⟩
    obtain ⟨g7, rfl⟩ := sq3 a2 a3 a4;have e5 := d.size;refine wp_seq_k fun g8 a5 => rS fun g9 D => sMi rfl ?_
    by_cases E : ((k : Int) - 1) ≥ 0
    ·refine sV (evGeq true rfl rfl (dT E)) (sK D (cT rfl (wp_skip (xN (a5 _ _ (wp_seq_k fun h0 a6 => wp_block (wp_seq_k fun h1 a7 => dBegin (fun _ => False) mixed (fun h2 g e6 => dMs 0 rfl rfl (dMi 1 rfl rfl ?_)))))))))
     have a8 := (c.trans d).trans g;have P := (u.ext a8);obtain ⟨h3, c6, rfl⟩ := P.base Qo;refine dV 2 rfl (fun _ _ => evIx (k - 1) underlying39 sz25 rfl rfl (c6 + ((k - 1) * 2))) ?_;obtain ⟨a9, b0, b1, b2, e7, c8, J, K, F, c9, d0, L, o⟩ := P.at_ (i := k - 1) Qo;have ⟨e8, e9, f0⟩ := F.lkm;refine dV 3 rfl (fun _ hf => evLoadA [(.bool a9), (.slice b0 b1 b2)] agg25 sz25 rfl (cell2F J K hf L (fun h => h))) (dMs 4 rfl rfl (dMi 5 rfl rfl ?_));have b3 := d.trans g;have Q := (y.ext b3);obtain ⟨h4, c7, rfl⟩ := Q.base Qo;refine dV 6 rfl (fun _ _ => evIx (k - 1) underlying39 sz25 rfl rfl (c7 + ((k - 1) * 2))) ?_;obtain ⟨b4, b5, b6, b7, f1, d1, M, N, G, d2, d3, O, p⟩ := Q.at_ (i := k - 1) Qo;have ⟨f2, f3, f4⟩ := G.lkm;refine dV 7 rfl (fun _ hf => evLoadA [(.bool b4), (.slice b5 b6 b7)] agg25 sz25 rfl (cell2F M N hf O (fun h => h))) (dOp 8 rfl rfl (by kernel_rfl) (oCall rfl call13 (integer_Cmp F G) rfl ?_));rintro _ h5 ⟨j, rfl, l, q⟩;refine ⟨(Frm.of_ext l), ?_⟩;have f5 := l.size;refine dAi 9 rfl rfl (dDone (by kernel_rfl) (xN (a7 _ _ (rS fun h6 H => sMi rfl ?_))))
     by_cases I : j ≠ 0
     ·refine sV (evNeq true rfl rfl (dT I)) (sK H (cT rfl (rS fun h7 b8 => sMi rfl (sAi rfl (sK b8 (wp_ret (bR (xR (xR (bR (xR (ret1 (.int .i64 (j)) results67 (resT rfl) ?_))))))))))))
      have b9 := (((f.trans c).trans d).trans g).trans l;exact ⟨(j), rfl, b9, (by rw [← zs_trim, ← zs_trim, ← r, ← s]; rw [cmpTop_stop hX (by omega) (by rw [← o, ← p]; intro hh; exact absurd (q.trans (cmpZ_eq_zero.2 hh)) (by omega)), ← o, ← p]; exact q)⟩
     ·refine sV (evNeq false rfl rfl (dF I)) (sK H (cF rfl (wp_skip (bN (xN (a6 _ _ (wp_region_lit (sMi rfl (sV (evSub (((k : Int) - 1) - 1) rfl rfl wI) (sAi rfl (sDone ?_)))))))))))
      have c0 := g.trans l;refine again ((k - 1)) Qo ⟨(k - 1), rfl, rfl, rfl, cI, (d.trans c0), ?_, ?_⟩
      ·omega
      ·exact cmpTop_down hX (by omega) (by rw [← o, ← p]; exact cmpZ_eq_zero.1 (q ▸ (by omega)))
    ·refine sV (evGeq false rfl rfl (dF E)) (sK D (cF rfl (wp_exit (xE (xE (bE (xN (a0 _ _ (rS fun h9 c1 => sAi rfl (sK c1 (wp_ret (ret1 (.int .i64 (0)) results67 (resT rfl) ?_))))))))))))
     have c2 := (f.trans c).trans d;exact ⟨(0), rfl, c2, (by rw [← zs_trim, ← zs_trim, ← r, ← s]; rw [hX, show k = 0 by omega]; rfl)⟩
theorem unipoly_Same {w : World} {Sa : Nat → Prop} {Aa : Option Addr} {na ca Ma : Nat} {la : List RI} {Sb : Nat → Prop} {Ab : Option Addr} {nb cb Mb : Nat} {lb : List RI} (ha : PolyR w Sa Aa na ca la Ma) (hb : PolyR w Sb Ab nb cb lb Mb)  : Calls Tryz.prog 25 #[(.slice Aa na ca), (.slice Ab nb cb)] w (Ret fun v w' => ∃ (gr : Bool), v = (.bool gr) ∧ Ext w w' ∧ (gr = decide (trimZ (zs la) = trimZ (zs lb)))) := by
 have ⟨ka, ja, ma⟩ := ha.lkm;replace ha := ha.low;have ⟨kb, jb, mb⟩ := hb.lkm;replace hb := hb.low;refine enter func25 rfl ntmps25 rfl (rS fun g b => sAb rfl (sK b (rS fun h c => sMs rfl (sMs rfl (sO (oCall rfl call67 (unipoly_Compare ha hb) rfl ?_))))));rintro _ i ⟨e, rfl, a, d⟩;have f := a.size;refine sV (evEql (decide (trimZ (zs la) = trimZ (zs lb))) rfl rfl (same_dec d)) (sAb rfl (sK c (wp_ret (ret1 (.bool (decide (trimZ (zs la) = trimZ (zs lb)))) results25 (resT rfl) ?_))));exact ⟨(decide (trimZ (zs la) = trimZ (zs lb))), rfl, a, rfl⟩
end Go.Proofs.YtneolcopompkaaaGreatDoor
