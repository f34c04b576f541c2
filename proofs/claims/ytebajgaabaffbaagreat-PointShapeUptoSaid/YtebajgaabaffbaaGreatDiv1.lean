/-
  Walks of package division: the digit of a quotient, its multiple taken off, added back.
-/
import Derived.Test.YtebajgaabaffbaaGreatNat5
namespace Go.Proofs.YtebajgaabaffbaaGreat
open Go.RowKit Go.Gx Tryz
set_option maxHeartbeats 1000000 in
theorem division_estimate {w : World} {xa : Nat} {xb : Nat} {xc : Nat} {xd : Nat} {xe : Nat} (ba : xa < 4294967296) (bb : xb < 4294967296) (bc : xc < 4294967296) (bd : xd < 4294967296) (be : xe < 4294967296) (hle : xa ≤ xd) (hd : 0 < xd) : Calls Tryz.prog 123 #[(.int .u32 xa), (.int .u32 xb), (.int .u32 xc), (.int .u32 xd), (.int .u32 xe)] w (Ret fun v w' => ∃ (xr : Nat), v = (.int .u32 xr) ∧ Ext w w' ∧ xr < 4294967296 ∧ (xr * estV xd xe ≤ estU xa xb xc) ∧ (EstM xa xb xc xd xe xr)) := by
 refine enter func123 rfl ntmps123 rfl (rS fun K1 e0 => sAi rfl (sK e0 (rS fun K2 e1 => sAi rfl (sAi rfl (sAi rfl (sK e1 (wp_seq_k fun K3 a8 => rS fun K4 a9 => sMi rfl (sMi rfl ?_))))))))
 by_cases b0 : ((xa : Int)) ≥ ((xd : Int))
 ·refine sV (evGeq true rfl rfl (dT b0)) (sK a9 (cT rfl (rS fun K6 e2 => sAi rfl (sK e2 (wp_region_lit (sMi rfl (sMi rfl (sO (oCall rfl call112 (bits_Add32 (x1 := xb) Qo (x2 := xd) Qo (x3 := 0) Qo Qo) rfl ?_)))))))))
  rintro _ w8 ⟨E, F, rfl, I, g4, g5, e3, i5⟩;have g6 := I.size;refine sV (v := (.tuple #[(.int .u32 E), (.int .u32 F)])) (rfl) (sV (v := (.int .u32 E)) (rfl) (sV (v := (.int .u32 F)) (rfl) (sAi rfl (sAi rfl (sK a8 (wp_seq_k fun i6 G => wp_block ?_))))));refine lLoop (fun m e w_ => ∃ (dg : Nat) (rs : Nat) (ov : Nat), m = dg ∧ e 2 = (.int .u32 xc) ∧ e 3 = (.int .u32 xd) ∧ e 4 = (.int .u32 xe) ∧ e 11 = (.int .u32 dg) ∧ e 12 = (.int .u32 rs) ∧ e 13 = (.int .u32 ov) ∧ Frm (fun b => False) w8 w_ ∧ (dg < 4294967296) ∧ (rs < 4294967296) ∧ (ov ≤ 1) ∧ (EstI xa xb xd dg (rs + 4294967296 * ov)) ∧ (EstM xa xb xc xd xe dg)) ((4294967295)) ?_ ?_
  ·refine ⟨(4294967295), (E), (F), rfl, rfl, rfl, rfl, cI, cI, cI, (Frm.refl _ _), ?_, ?_, ?_, ?_, ?_⟩
   ·omega
   ·omega
   ·omega
   ·exact EstI.start1 Qo e3
   ·exact EstM.start1 _ _ _ _ _
  ·rintro i7 i8 i9 ⟨dg, rs, ov, g7, b1, b2, b3, b4, b5, b6, d, hdg, hrs, hov, hI, hM⟩
   obtain ⟨j0, rfl⟩ := sq6 b1 b2 b3 b4 b5 b6;have g8 := d.size;refine wp_seq_k fun j1 b7 => rS fun j2 L => sMi rfl ?_
   by_cases M : ((ov : Int)) = 0
   ·refine sV (evEql true rfl rfl (dT M)) (sK L (cT rfl (wp_skip (xN (b7 _ _ (wp_block (rS fun j3 b8 => sMi rfl (sMi rfl (sO (oCall rfl call127 (bits_Mul32 (x1 := dg) Qo (x2 := xe) Qo) rfl ?_))))))))))
    rintro _ j4 ⟨a, g, rfl, l, e9, h, s⟩;have g9 := l.size;refine sV (v := (.tuple #[(.int .u32 a), (.int .u32 g)])) (rfl) (sV (v := (.int .u32 a)) (rfl) (sV (v := (.int .u32 g)) (rfl) (sAi rfl (sAi rfl (sK b8 (wp_seq_k fun j5 N => rS fun j6 t => sMi rfl (sMi rfl ?_)))))))
    by_cases O : ((a : Int)) < ((rs : Int))
    ·refine sV (evLss true rfl rfl (dT O)) (sMb rfl (sSkip rfl rfl (sSkip rfl rfl (sSkip rfl rfl (sSkip rfl rfl (sSkip rfl rfl (sSkip rfl rfl (sSkip rfl rfl (sSkip rfl rfl (sV (v := (.bool true)) (rfl) (sK t (cT rfl (wp_exit (xE (bO rfl (xE (bE (xN (G _ _ (rS fun j7 b9 => sMi rfl (sAi rfl (sK b9 (wp_ret (ret1 (.int .u32 dg) results123 (resT rfl) ?_))))))))))))))))))))))))
     have c0 := (I.trans d).trans l;exact ⟨(dg), rfl, c0, Qo, (est_ok0 hI Qo s h bc Qo), hM⟩
    ·refine sV (evLss false rfl rfl (dF O)) (sMb rfl (sEv (v := (.int .u32 a)) (rfl) rfl rfl (sEv (v := (.int .u32 rs)) (rfl) rfl rfl ?_)))
     by_cases P : ((a : Int)) = ((rs : Int))
     ·refine sEv (v := (.bool true)) (evEql true rfl rfl (dT P)) rfl rfl (sEv (v := (.bool true)) (rfl) rfl rfl (sEv (v := (.int .u32 g)) (rfl) rfl rfl (sEv (v := (.int .u32 xc)) (rfl) rfl rfl ?_)))
      by_cases Q : ((g : Int)) ≤ ((xc : Int))
      ·refine sEv (v := (.bool true)) (evLeq true rfl rfl (dT Q)) rfl rfl (sEv (v := (.bool true)) (rfl) rfl rfl (sV (v := (.bool true)) (rfl) (sK t (cT rfl (wp_exit (xE (bO rfl (xE (bE (xN (G _ _ (rS fun j8 c1 => sMi rfl (sAi rfl (sK c1 (wp_ret (ret1 (.int .u32 dg) results123 (resT rfl) ?_))))))))))))))))
       have c2 := (I.trans d).trans l;exact ⟨(dg), rfl, c2, Qo, (est_ok0 hI Qo s h bc Qo), hM⟩
      ·refine sEv (v := (.bool false)) (evLeq false rfl rfl (dF Q)) rfl rfl (sEv (v := (.bool false)) (rfl) rfl rfl (sV (v := (.bool false)) (rfl) (sK t (cF rfl (wp_skip (xN (N _ _ (wp_seq_k fun j9 c3 => ?_))))))))
       have hno := est_no0 hI Qo s h bc Qo;have hpos := est_pos hno;refine wp_region_lit (sMi rfl (sV (evSub (((dg - 1 : Nat) : Int)) rfl rfl (wU32 Qo)) (sAi rfl (sK c3 (wp_region_lit (sMi rfl (sMi rfl (sO (oCall rfl call112 (bits_Add32 (x1 := rs) Qo (x2 := xd) Qo (x3 := 0) Qo Qo) rfl ?_)))))))));rintro _ k0 ⟨u, x, rfl, R, f0, f1, h0, h1⟩;have h2 := R.size;refine sV (v := (.tuple #[(.int .u32 u), (.int .u32 x)])) (rfl) (sV (v := (.int .u32 u)) (rfl) (sV (v := (.int .u32 x)) (rfl) (sAi rfl (sAi rfl (sDone (bN ?_))))));have c4 := l.trans R;refine again ((dg - 1)) Qo ⟨(dg - 1), (u), (x), rfl, rfl, rfl, rfl, cI, cI, cI, (d.trans c4), ?_, ?_, ?_, ?_, ?_⟩
       ·omega
       ·omega
       ·omega
       ·exact hI.next0 Qo hpos Qo
       ·exact hM.next hno
     ·refine sEv (v := (.bool false)) (evEql false rfl rfl (dF P)) rfl rfl (sEv (v := (.bool false)) (rfl) rfl rfl (sSkip rfl rfl (sSkip rfl rfl (sSkip rfl rfl (sEv (v := (.bool false)) (rfl) rfl rfl (sV (v := (.bool false)) (rfl) (sK t (cF rfl (wp_skip (xN (N _ _ (wp_seq_k fun k1 c5 => ?_))))))))))))
      have hno := est_no0 hI Qo s h bc Qo;have hpos := est_pos hno;refine wp_region_lit (sMi rfl (sV (evSub (((dg - 1 : Nat) : Int)) rfl rfl (wU32 Qo)) (sAi rfl (sK c5 (wp_region_lit (sMi rfl (sMi rfl (sO (oCall rfl call112 (bits_Add32 (x1 := rs) Qo (x2 := xd) Qo (x3 := 0) Qo Qo) rfl ?_)))))))));rintro _ k2 ⟨y, z, rfl, S, f2, f3, h3, h4⟩;have h5 := S.size;refine sV (v := (.tuple #[(.int .u32 y), (.int .u32 z)])) (rfl) (sV (v := (.int .u32 y)) (rfl) (sV (v := (.int .u32 z)) (rfl) (sAi rfl (sAi rfl (sDone (bN ?_))))));have c6 := l.trans S;refine again ((dg - 1)) Qo ⟨(dg - 1), (y), (z), rfl, rfl, rfl, rfl, cI, cI, cI, (d.trans c6), ?_, ?_, ?_, ?_, ?_⟩
      ·omega
      ·omega
      ·omega
      ·exact hI.next0 Qo hpos Qo
      ·exact hM.next hno
   ·refine sV (evEql false rfl rfl (dF M)) (sK L (cF rfl (wp_exit (xE (xE (bE (xN (G _ _ (rS fun k3 c7 => sMi rfl (sAi rfl (sK c7 (wp_ret (ret1 (.int .u32 dg) results123 (resT rfl) ?_)))))))))))))
    have c8 := I.trans d;exact ⟨(dg), rfl, c8, Qo, (est_over1 hI Qo hdg be), hM⟩
 ·refine sV (evGeq false rfl rfl (dF b0)) (sK a9 (cF rfl (wp_region_lit (sMi rfl (sMi rfl (sMi rfl (sO (oCall rfl call131 (bits_Div32 (x1 := xa) Qo (x2 := xb) Qo (x3 := xd) Qo Qo) rfl ?_))))))))
  rintro _ e4 ⟨i, A, rfl, B, f4, f5, T, a0⟩;have h6 := B.size;refine sV (v := (.tuple #[(.int .u32 i), (.int .u32 A)])) (rfl) (sV (v := (.int .u32 i)) (rfl) (sV (v := (.int .u32 A)) (rfl) (sAi rfl (sAi rfl (sK a8 (wp_seq_k fun k4 H => wp_block ?_))))));refine lLoop (fun m e w_ => ∃ (dg : Nat) (rs : Nat) (ov : Nat), m = dg ∧ e 2 = (.int .u32 xc) ∧ e 3 = (.int .u32 xd) ∧ e 4 = (.int .u32 xe) ∧ e 11 = (.int .u32 dg) ∧ e 12 = (.int .u32 rs) ∧ e 13 = (.int .u32 ov) ∧ Frm (fun b => False) e4 w_ ∧ (dg < 4294967296) ∧ (rs < 4294967296) ∧ (ov ≤ 1) ∧ (EstI xa xb xd dg (rs + 4294967296 * ov)) ∧ (EstM xa xb xc xd xe dg)) ((i)) ?_ ?_
  ·refine ⟨(i), (A), (0), rfl, rfl, rfl, rfl, cI, cI, cI, (Frm.refl _ _), ?_, ?_, ?_, ?_, ?_⟩
   ·omega
   ·omega
   ·omega
   ·exact EstI.start2 T
   ·exact EstM.start2 T a0 bc
  ·rintro k5 k6 k7 ⟨dg, rs, ov, h7, c9, d0, d1, d2, d3, d4, f, hdg, hrs, hov, hI, hM⟩
   obtain ⟨k8, rfl⟩ := sq6 c9 d0 d1 d2 d3 d4;have h8 := f.size;refine wp_seq_k fun k9 d5 => rS fun l0 U => sMi rfl ?_
   by_cases V : ((ov : Int)) = 0
   ·refine sV (evEql true rfl rfl (dT V)) (sK U (cT rfl (wp_skip (xN (d5 _ _ (wp_block (rS fun l1 d6 => sMi rfl (sMi rfl (sO (oCall rfl call127 (bits_Mul32 (x1 := dg) Qo (x2 := xe) Qo) rfl ?_))))))))))
    rintro _ l2 ⟨c, j, rfl, n, f6, k, C⟩;have h9 := n.size;refine sV (v := (.tuple #[(.int .u32 c), (.int .u32 j)])) (rfl) (sV (v := (.int .u32 c)) (rfl) (sV (v := (.int .u32 j)) (rfl) (sAi rfl (sAi rfl (sK d6 (wp_seq_k fun l3 W => rS fun l4 D => sMi rfl (sMi rfl ?_)))))))
    by_cases X : ((c : Int)) < ((rs : Int))
    ·refine sV (evLss true rfl rfl (dT X)) (sMb rfl (sSkip rfl rfl (sSkip rfl rfl (sSkip rfl rfl (sSkip rfl rfl (sSkip rfl rfl (sSkip rfl rfl (sSkip rfl rfl (sSkip rfl rfl (sV (v := (.bool true)) (rfl) (sK D (cT rfl (wp_exit (xE (bO rfl (xE (bE (xN (H _ _ (rS fun l5 d7 => sMi rfl (sAi rfl (sK d7 (wp_ret (ret1 (.int .u32 dg) results123 (resT rfl) ?_))))))))))))))))))))))))
     have d8 := (B.trans f).trans n;exact ⟨(dg), rfl, d8, Qo, (est_ok0 hI Qo C k bc Qo), hM⟩
    ·refine sV (evLss false rfl rfl (dF X)) (sMb rfl (sEv (v := (.int .u32 c)) (rfl) rfl rfl (sEv (v := (.int .u32 rs)) (rfl) rfl rfl ?_)))
     by_cases Y : ((c : Int)) = ((rs : Int))
     ·refine sEv (v := (.bool true)) (evEql true rfl rfl (dT Y)) rfl rfl (sEv (v := (.bool true)) (rfl) rfl rfl (sEv (v := (.int .u32 j)) (rfl) rfl rfl (sEv (v := (.int .u32 xc)) (rfl) rfl rfl ?_)))
      by_cases Z : ((j : Int)) ≤ ((xc : Int))
      ·refine sEv (v := (.bool true)) (evLeq true rfl rfl (dT Z)) rfl rfl (sEv (v := (.bool true)) (rfl) rfl rfl (sV (v := (.bool true)) (rfl) (sK D (cT rfl (wp_exit (xE (bO rfl (xE (bE (xN (H _ _ (rS fun l6 d9 => sMi rfl (sAi rfl (sK d9 (wp_ret (ret1 (.int .u32 dg) results123 (resT rfl) ?_))))))))))))))))
       have a1 := (B.trans f).trans n;exact ⟨(dg), rfl, a1, Qo, (est_ok0 hI Qo C k bc Qo), hM⟩
      ·refine sEv (v := (.bool false)) (evLeq false rfl rfl (dF Z)) rfl rfl (sEv (v := (.bool false)) (rfl) rfl rfl (sV (v := (.bool false)) (rfl) (sK D (cF rfl (wp_skip (xN (W _ _ (wp_seq_k fun i0 a2 => ?_))))))))
       have hno := est_no0 hI Qo C k bc Qo;have hpos := est_pos hno;refine wp_region_lit (sMi rfl (sV (evSub (((dg - 1 : Nat) : Int)) rfl rfl (wU32 Qo)) (sAi rfl (sK a2 (wp_region_lit (sMi rfl (sMi rfl (sO (oCall rfl call112 (bits_Add32 (x1 := rs) Qo (x2 := xd) Qo (x3 := 0) Qo Qo) rfl ?_)))))))));rintro _ i1 ⟨o, p, rfl, J, e5, e6, f7, f8⟩;have f9 := J.size;refine sV (v := (.tuple #[(.int .u32 o), (.int .u32 p)])) (rfl) (sV (v := (.int .u32 o)) (rfl) (sV (v := (.int .u32 p)) (rfl) (sAi rfl (sAi rfl (sDone (bN ?_))))));have a3 := n.trans J;refine again ((dg - 1)) Qo ⟨(dg - 1), (o), (p), rfl, rfl, rfl, rfl, cI, cI, cI, (f.trans a3), ?_, ?_, ?_, ?_, ?_⟩
       ·omega
       ·omega
       ·omega
       ·exact hI.next0 Qo hpos Qo
       ·exact hM.next hno
     ·refine sEv (v := (.bool false)) (evEql false rfl rfl (dF Y)) rfl rfl (sEv (v := (.bool false)) (rfl) rfl rfl (sSkip rfl rfl (sSkip rfl rfl (sSkip rfl rfl (sEv (v := (.bool false)) (rfl) rfl rfl (sV (v := (.bool false)) (rfl) (sK D (cF rfl (wp_skip (xN (W _ _ (wp_seq_k fun i2 a4 => ?_))))))))))))
      have hno := est_no0 hI Qo C k bc Qo;have hpos := est_pos hno;refine wp_region_lit (sMi rfl (sV (evSub (((dg - 1 : Nat) : Int)) rfl rfl (wU32 Qo)) (sAi rfl (sK a4 (wp_region_lit (sMi rfl (sMi rfl (sO (oCall rfl call112 (bits_Add32 (x1 := rs) Qo (x2 := xd) Qo (x3 := 0) Qo Qo) rfl ?_)))))))));rintro _ i3 ⟨q, r, rfl, K, e7, e8, g0, g1⟩;have g2 := K.size;refine sV (v := (.tuple #[(.int .u32 q), (.int .u32 r)])) (rfl) (sV (v := (.int .u32 q)) (rfl) (sV (v := (.int .u32 r)) (rfl) (sAi rfl (sAi rfl (sDone (bN ?_))))));have a5 := n.trans K;refine again ((dg - 1)) Qo ⟨(dg - 1), (q), (r), rfl, rfl, rfl, rfl, cI, cI, cI, (f.trans a5), ?_, ?_, ?_, ?_, ?_⟩
      ·omega
      ·omega
      ·omega
      ·exact hI.next0 Qo hpos Qo
      ·exact hM.next hno
   ·refine sV (evEql false rfl rfl (dF V)) (sK U (cF rfl (wp_exit (xE (xE (bE (xN (H _ _ (rS fun i4 a6 => sMi rfl (sAi rfl (sK a6 (wp_ret (ret1 (.int .u32 dg) results123 (resT rfl) ?_)))))))))))))
    have a7 := B.trans f;exact ⟨(dg), rfl, a7, Qo, (est_over1 hI Qo hdg be), hM⟩
set_option maxHeartbeats 1000000 in
theorem division_subtractMultiple {w : World} {pz oz nz cz : Nat} {Uz Zz : List Nat} {Av : Option Addr} {nv cv : Nat} {dv : List Nat} {xd : Nat} (Bz : Blk w pz 138 ((Uz ++ Zz).map u32)) (luz : Uz.length = oz) (lzz : nz ≤ Zz.length) (ltz : ∀ d ∈ Uz ++ Zz, d < BS) (lcz : cz ≤ 9223372036854775807) (lkz : nz ≤ cz) (hv : NatR w (fun b => b ≠ pz) Av nv cv dv) (bd : xd < 4294967296) (hnz : nz = nv + 1) : Calls Tryz.prog 124 #[(.slice (some ⟨pz, oz, none⟩) nz cz), (.slice Av nv cv), (.int .u32 xd)] w (Ret fun v w' => ∃ (gr : Bool) (Zr : List Nat) (bo : Nat), v = (.bool gr) ∧ Frm (fun b => b = pz) w w' ∧ (Blk w' pz 138 ((Uz ++ Zr).map u32)) ∧ (Zr.length = Zz.length) ∧ (∀ d ∈ Uz ++ Zr, d < BS) ∧ (Zr.drop nz = Zz.drop nz) ∧ (val (Zr.take nz) + xd * val dv = val (Zz.take nz) + BS ^ nz * bo) ∧ (bo ≤ 1) ∧ (gr = decide (bo ≠ 0))) := by
 have ⟨lv, kv, mv⟩ := hv.lkm;refine enter func124 rfl ntmps124 rfl (rS fun K1 a2 => sAb rfl (sK a2 (rS fun K2 a3 => sAi rfl (sAi rfl (sK a3 (wp_seq_k fun K3 a4 => rS fun K4 a5 => sMs rfl (sV (evLen underlying32 rfl) (sMi rfl (sK a5 (wp_block ?_))))))))));refine lLoop (fun m e w_ => ∃ (k : Nat) (P : List Nat) (cy : Nat) (bw : Nat), m = nv - k ∧ e 0 = (.slice (some ⟨pz, oz, none⟩) nz cz) ∧ e 1 = (.slice Av nv cv) ∧ e 2 = (.int .u32 xd) ∧ e 7 = (.int .u32 cy) ∧ e 8 = (.int .u32 bw) ∧ e 15 = (.slice Av nv cv) ∧ e 16 = (.int .i64 nv) ∧ e 17 = (.int .i64 k) ∧ Frm (fun b => b = pz) w w_ ∧ Blk w_ pz 138 ((Uz ++ (P ++ Zz.drop k)).map u32) ∧ (k ≤ nv) ∧ (P.length = k) ∧ (∀ d ∈ P, d < BS) ∧ (cy < 4294967296) ∧ (bw ≤ 1) ∧ (val P + xd * val (dv.take k) = val (Zz.take k) + BS ^ k * (bw + cy))) (nv - (0)) ?_ ?_
 ·refine ⟨(0), ([]), (0), (0), rfl, rfl, rfl, rfl, cI, cI, rfl, rfl, cI, (Frm.refl _ _), ?_, ?_, ?_, ?_, ?_, ?_, ?_⟩
  ·simpa using Bz
  ·omega
  ·rfl
  ·simp
  ·omega
  ·omega
  ·simp [val]
 ·rintro m5 e0 w6 ⟨k, P, cy, bw, c1, a6, a7, a8, H, I, J, K, L, n, r, hk, hP, hlt, hcy, hbw, hw⟩
  obtain ⟨e1, rfl⟩ := sq8 a6 a7 a8 H I J K L;have c2 := n.size;refine rS fun e2 C => ?_
  by_cases D : ((k : Int)) < ((nv : Int))
  ·refine sV (evLss true rfl rfl (dT D)) (sK C (wp_seq_k fun e3 M => cT rfl (wp_skip (xN (M _ _ (wp_seq_k fun e4 N => wp_block (rS fun e5 O => sMi rfl ?_)))))))
   have B := (hv.frmB n q3);obtain ⟨e6, a9, rfl⟩ := B.base Qo;refine sV (evIx k underlying32 sz138 rfl rfl (a9 + k)) ?_;have c3 := B.lt k;refine sV (evLoad one138 rfl (B.cell Qo)) (sAi rfl (sAi rfl (sK O (rS fun e7 Q => sMi rfl (sMi rfl (sO (oCall rfl call127 (bits_Mul32 (x1 := dv.getD k 0) Qo (x2 := xd) Qo) rfl ?_)))))));rintro _ e8 ⟨h, o, rfl, E, b3, b4, c4⟩;have c5 := E.size;refine sV (v := (.tuple #[(.int .u32 h), (.int .u32 o)])) (rfl) (sV (v := (.int .u32 h)) (rfl) (sV (v := (.int .u32 o)) (rfl) (sAi rfl (sAi rfl (sK Q (rS fun e9 R => sMi rfl (sMi rfl (sO (oCall rfl call112 (bits_Add32 (x1 := o) Qo (x2 := cy) Qo (x3 := 0) Qo Qo) rfl ?_)))))))));rintro _ f0 ⟨l, j, rfl, F, b5, b6, c6, c7⟩;have c8 := F.size;refine sV (v := (.tuple #[(.int .u32 l), (.int .u32 j)])) (rfl) (sV (v := (.int .u32 l)) (rfl) (sV (v := (.int .u32 j)) (rfl) (sAi rfl (sAi rfl (sK R (wp_seq_k fun f1 S => ?_))))));have hmm : xd * dv.getD k 0 = dv.getD k 0 * xd := Nat.mul_comm _ _;have u := E.trans F;have b0 := (B.ext u);have hcc := mul_carry (q := 0) (c := cy) (s := l) (c' := h + j) Qo (b0.lt k) bd hcy Qo;refine wp_region_lit (sMi rfl (sMi rfl (sV (evAdd (((h + j : Nat) : Int)) rfl rfl (wU32 Qo)) (sAi rfl (sK S ?_)))));have hq := seg_get luz hP (show k < Zz.length by omega) (t := oz + k) rfl;refine wp_region_lit (sMs rfl (sMi rfl (sMs rfl (sMi rfl (sV (evIx k underlying32 sz138 rfl rfl (oz + k)) ?_)))));have G := (r.ext u);have c9 := getD_lt (ds := Uz ++ (P ++ Zz.drop k)) (i := oz + k) (lt_seg ltz hlt);refine sV (evLoad one138 rfl (G.dig (by exact lq))) (sMi rfl (sMi rfl (sO (oCall rfl call114 (bits_Sub32 (x1 := (Uz ++ (P ++ Zz.drop k)).getD (oz + k) 0) Qo (x2 := l) Qo (x3 := bw) Qo Qo) rfl ?_))));rintro _ f2 ⟨g, p, rfl, x, b7, b8, d0, d1⟩;have d2 := x.size;refine sV (v := (.tuple #[(.int .u32 g), (.int .u32 p)])) (rfl) (sV (v := (.int .u32 g)) (rfl) (sV (v := (.int .u32 p)) (rfl) (sV (evIx k underlying32 sz138 rfl rfl (oz + k)) ?_)));have T := (G.ext x);refine sO (oStore1 rfl rfl rfl sz138 T (by exact lq) (fun b1 U d3 y => ?_));replace y : Blk b1 pz 138 ((Uz ++ ((P ++ [g]) ++ Zz.drop (k + 1))).map u32) := by rw [← (seg_set luz hP (by omega) (by omega) : (Uz ++ (P ++ Zz.drop k)).set (oz + k) g = Uz ++ ((P ++ [g]) ++ Zz.drop (k + 1))), List.map_set]; exact y
   refine sAi rfl (sDone (bN (xN (N _ _ (wp_region_lit (sV (evAdd (((k : Int)) + 1) rfl rfl wI) (sMi rfl (sDone ?_))))))));have V := (u.trans x).rx U;refine again (nv - (k + 1)) Qo ⟨(k + 1), (P ++ [g]), (h + j), (p), rfl, rfl, rfl, rfl, cI, cI, rfl, rfl, cI, (n.trans V), ?_, ?_, ?_, ?_, ?_, ?_, ?_⟩
   ·exact y
   ·omega
   ·simp [hP]
   ·exact lt_snoc hlt Qo
   ·exact hcc
   ·omega
   ·exact sm_step hw hP Qo
  ·refine sV (evLss false rfl rfl (dF D)) (sK C (wp_seq_k fun f3 d4 => cF rfl (wp_exit (xE (xE (bE (xN (a4 _ _ (rS fun f4 W => sMs rfl (sV (evLen underlying32 rfl) (sAi rfl (sK W (wp_seq_k fun f5 X => ?_)))))))))))))
   have f6 := seg_get luz hP (show k < Zz.length by omega) (t := oz + nv) Qo;refine wp_region_lit (sMs rfl (sMi rfl (sMs rfl (sMi rfl (sV (evIx nv underlying32 sz138 rfl rfl (oz + nv)) ?_)))));have d5 := getD_lt (ds := Uz ++ (P ++ Zz.drop k)) (i := oz + nv) (lt_seg ltz hlt);refine sV (evLoad one138 rfl (r.dig (by exact lq))) (sMi rfl (sMi rfl (sO (oCall rfl call114 (bits_Sub32 (x1 := (Uz ++ (P ++ Zz.drop k)).getD (oz + nv) 0) Qo (x2 := cy) Qo (x3 := bw) Qo Qo) rfl ?_))));rintro _ f7 ⟨a, f, rfl, z, b9, c0, d6, d7⟩;have d8 := z.size;refine sV (v := (.tuple #[(.int .u32 a), (.int .u32 f)])) (rfl) (sV (v := (.int .u32 a)) (rfl) (sV (v := (.int .u32 f)) (rfl) (sV (evIx nv underlying32 sz138 rfl rfl (oz + nv)) ?_)));have Y := (r.ext z);refine sO (oStore1 rfl rfl rfl sz138 Y (by exact lq) (fun b2 Z d9 A => ?_));replace A : Blk b2 pz 138 ((Uz ++ ((P ++ [a]) ++ Zz.drop (k + 1))).map u32) := by rw [← (seg_set luz hP (by omega) (by omega) : (Uz ++ (P ++ Zz.drop k)).set (oz + nv) a = Uz ++ ((P ++ [a]) ++ Zz.drop (k + 1))), List.map_set]; exact A
   refine sAi rfl (sK X (rS fun f8 a0 => sMi rfl (sV (evNeq (decide (f ≠ 0)) rfl rfl (natne _)) (sAb rfl (sK a0 (wp_ret (ret1 (.bool (decide (f ≠ 0))) results124 (resT rfl) ?_)))))));have hlast := sm_last hw hP Qo (show bw + cy + a = Zz.getD k 0 + 4294967296 * f by omega);have a1 := (n.xr z).trans Z;exact ⟨(decide (f ≠ 0)), ((P ++ [a]) ++ Zz.drop (k + 1)), f, rfl, a1, A, (by exact lq), (lt_seg ltz (lt_snoc hlt (by omega))), (by rw [show nz = k + 1 by omega, part_drop (P := P) hP]), (by rw [show nz = k + 1 by omega, part_take (P := P) hP]; exact hlast), (by omega), rfl⟩
theorem division_addBack {w : World} {pz oz nz cz : Nat} {Uz Zz : List Nat} {Av : Option Addr} {nv cv : Nat} {dv : List Nat} (Bz : Blk w pz 138 ((Uz ++ Zz).map u32)) (luz : Uz.length = oz) (lzz : nz ≤ Zz.length) (ltz : ∀ d ∈ Uz ++ Zz, d < BS) (lcz : cz ≤ 9223372036854775807) (lkz : nz ≤ cz) (hv : NatR w (fun b => b ≠ pz) Av nv cv dv) (hnz : nz = nv + 1) : Calls Tryz.prog 125 #[(.slice (some ⟨pz, oz, none⟩) nz cz), (.slice Av nv cv)] w (Ret fun v w' => ∃ (Zr : List Nat) (cr : Nat), v = (.tuple #[]) ∧ Frm (fun b => b = pz) w w' ∧ (Blk w' pz 138 ((Uz ++ Zr).map u32)) ∧ (Zr.length = Zz.length) ∧ (∀ d ∈ Uz ++ Zr, d < BS) ∧ (Zr.drop nz = Zz.drop nz) ∧ (val (Zr.take nz) + BS ^ nz * cr = val (Zz.take nz) + val dv)) := by
 have ⟨lv, kv, mv⟩ := hv.lkm;refine enter func125 rfl ntmps125 rfl (rS fun K1 F => sAi rfl (sK F (wp_seq_k fun K2 G => rS fun K3 H => sMs rfl (sV (evLen underlying32 rfl) (sMi rfl (sK H (wp_block ?_)))))));refine lLoop (fun m e w_ => ∃ (k : Nat) (P : List Nat) (cy : Nat), m = nv - k ∧ e 0 = (.slice (some ⟨pz, oz, none⟩) nz cz) ∧ e 1 = (.slice Av nv cv) ∧ e 4 = (.int .u32 cy) ∧ e 7 = (.slice Av nv cv) ∧ e 8 = (.int .i64 nv) ∧ e 9 = (.int .i64 k) ∧ Frm (fun b => b = pz) w w_ ∧ Blk w_ pz 138 ((Uz ++ (P ++ Zz.drop k)).map u32) ∧ (k ≤ nv) ∧ (P.length = k) ∧ (∀ d ∈ P, d < BS) ∧ (cy ≤ 1) ∧ (val P + BS ^ k * cy = val (Zz.take k) + val (dv.take k))) (nv - (0)) ?_ ?_
 ·refine ⟨(0), ([]), (0), rfl, rfl, rfl, cI, rfl, rfl, cI, (Frm.refl _ _), ?_, ?_, ?_, ?_, ?_, ?_⟩
  ·simpa using Bz
  ·omega
  ·rfl
  ·simp
  ·omega
  ·simp [val]
 ·rintro m4 a3 w5 ⟨k, P, cy, S, I, J, K, L, r, u, c, f, hk, hP, hlt, hcy, hw⟩
  obtain ⟨a4, rfl⟩ := sq6 I J K L r u;have T := c.size;refine rS fun a5 o => ?_
  by_cases p : ((k : Int)) < ((nv : Int))
  ·refine sV (evLss true rfl rfl (dT p)) (sK o (wp_seq_k fun a6 x => cT rfl (wp_skip (xN (x _ _ (wp_seq_k fun a7 y => wp_block (rS fun a8 z => sMi rfl ?_)))))))
   have q := (hv.frmB c q3);obtain ⟨a9, M, rfl⟩ := q.base Qo;refine sV (evIx k underlying32 sz138 rfl rfl (M + k)) ?_;have U := q.lt k;refine sV (evLoad one138 rfl (q.cell Qo)) (sAi rfl (sAi rfl (sK z ?_)));have hq := seg_get luz hP (show k < Zz.length by omega) (t := oz + k) rfl;refine wp_region_lit (sMs rfl (sMi rfl (sMs rfl (sMi rfl (sV (evIx k underlying32 sz138 rfl rfl (oz + k)) ?_)))));have V := getD_lt (ds := Uz ++ (P ++ Zz.drop k)) (i := oz + k) (lt_seg ltz hlt);refine sV (evLoad one138 rfl (f.dig (by exact lq))) (sMi rfl (sMi rfl (sO (oCall rfl call112 (bits_Add32 (x1 := (Uz ++ (P ++ Zz.drop k)).getD (oz + k) 0) Qo (x2 := dv.getD k 0) Qo (x3 := cy) Qo Qo) rfl ?_))));rintro _ b0 ⟨a, g, rfl, h, Q, R, W, X⟩;have Y := h.size;refine sV (v := (.tuple #[(.int .u32 a), (.int .u32 g)])) (rfl) (sV (v := (.int .u32 a)) (rfl) (sV (v := (.int .u32 g)) (rfl) (sV (evIx k underlying32 sz138 rfl rfl (oz + k)) ?_)));have A := (f.ext h);refine sO (oStore1 rfl rfl rfl sz138 A (by exact lq) (fun N B Z j => ?_));replace j : Blk N pz 138 ((Uz ++ ((P ++ [a]) ++ Zz.drop (k + 1))).map u32) := by rw [← (seg_set luz hP (by omega) (by omega) : (Uz ++ (P ++ Zz.drop k)).set (oz + k) a = Uz ++ ((P ++ [a]) ++ Zz.drop (k + 1))), List.map_set]; exact j
   refine sAi rfl (sDone (bN (xN (y _ _ (wp_region_lit (sV (evAdd (((k : Int)) + 1) rfl rfl wI) (sMi rfl (sDone ?_))))))));have C := h.rx B;refine again (nv - (k + 1)) Qo ⟨(k + 1), (P ++ [a]), (g), rfl, rfl, rfl, cI, rfl, rfl, cI, (c.trans C), ?_, ?_, ?_, ?_, ?_, ?_⟩
   ·exact j
   ·omega
   ·simp [hP]
   ·exact lt_snoc hlt Qo
   ·omega
   ·exact add_step hw hP Qo
  ·refine sV (evLss false rfl rfl (dF p)) (sK o (wp_seq_k fun b1 a0 => cF rfl (wp_exit (xE (xE (bE (xN (G _ _ ?_))))))))
   have b2 := seg_get luz hP (show k < Zz.length by omega) (t := oz + nv) Qo;refine wp_region_lit (sMs rfl (sMs rfl (sV (evLen underlying32 rfl) (sV (evIx nv underlying32 sz138 rfl rfl (oz + nv)) ?_))));have a1 := getD_lt (ds := Uz ++ (P ++ Zz.drop k)) (i := oz + nv) (lt_seg ltz hlt);refine sV (evLoad one138 rfl (f.dig (by exact lq))) (sMi rfl (sV (evAdd (((((Uz ++ (P ++ Zz.drop k)).getD (oz + nv) 0 + cy) % 4294967296 : Nat) : Int)) rfl rfl (wU32m Qo)) (sV (evIx nv underlying32 sz138 rfl rfl (oz + nv)) (sO (oStore1 rfl rfl rfl sz138 f (by exact lq) (fun O D a2 l => ?_))))));replace l : Blk O pz 138 ((Uz ++ ((P ++ [((Uz ++ (P ++ Zz.drop k)).getD (oz + nv) 0 + cy) % 4294967296]) ++ Zz.drop (k + 1))).map u32) := by rw [← (seg_set luz hP (by omega) (by omega) : (Uz ++ (P ++ Zz.drop k)).set (oz + nv) (((Uz ++ (P ++ Zz.drop k)).getD (oz + nv) 0 + cy) % 4294967296) = Uz ++ ((P ++ [((Uz ++ (P ++ Zz.drop k)).getD (oz + nv) 0 + cy) % 4294967296]) ++ Zz.drop (k + 1))), List.map_set]; exact l
   refine sDone (end0 results125 ?_);have hlast := add_step (s := ((Uz ++ (P ++ Zz.drop k)).getD (oz + nv) 0 + cy) % 4294967296) (c' := ((Uz ++ (P ++ Zz.drop k)).getD (oz + nv) 0 + cy) / 4294967296) hw hP (by rw [getD_ge (ds := dv) (n := nv) (by omega) k (by omega)]; omega);have E := c.trans D;exact ⟨((P ++ [((Uz ++ (P ++ Zz.drop k)).getD (oz + nv) 0 + cy) % 4294967296]) ++ Zz.drop (k + 1)), (((Uz ++ (P ++ Zz.drop k)).getD (oz + nv) 0 + cy) / 4294967296), rfl, E, l, (by exact lq), (lt_seg ltz (lt_snoc hlt (by omega))), (by rw [show nz = k + 1 by omega, part_drop (P := P) hP]), (by rw [show nz = k + 1 by omega, part_take (P := P) hP]; rw [val_take_all dv (show dv.length ≤ k + 1 by omega)] at hlast; exact hlast)⟩
end Go.Proofs.YtebajgaabaffbaaGreat
