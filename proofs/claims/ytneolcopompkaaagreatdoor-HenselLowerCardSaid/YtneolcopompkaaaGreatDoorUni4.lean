/-
  Walks of package unipoly: multiples, derivatives, powers.
-/
import Derived.Test.YtneolcopompkaaaGreatDoorUni3
import Derived.Test.YtneolcopompkaaaGreatDoorLibA
import Derived.Test.YtneolcopompkaaaGreatDoorLibB
namespace Go.Proofs.YtneolcopompkaaaGreatDoor
open Go.RowKit Go.Gx Tryz
theorem unipoly_Scale1 {w : World} {ga : Bool} {Sa : Nat → Prop} {Aa : Option Addr} {na ca : Nat} {da : List Nat} {pc : Nat} {gc : Bool} {Sc : Nat → Prop} {Ac : Option Addr} {nc cc : Nat} {dc : List Nat} (ha : NatR w Sa Aa na ca da) (Bc : Blk w pc 25 [.bool gc, .slice Ac nc cc]) (hc : NatR w Sc Ac nc cc dc) (hna : na + nc ≤ 1099511627776) : Calls Tryz.prog 51 #[(.agg #[(.bool ga), (.slice Aa na ca)]), (.pointer (some ⟨pc, 0, none⟩))] w (Ret fun v w' => ∃ (gr : Bool) (Ar : Option Addr) (nr : Nat) (cr : Nat) (dr : List Nat), v = (.agg #[(.bool gr), (.slice Ar nr cr)]) ∧ Ext w w' ∧ NatR w' (fun b => w.heap.size ≤ b) Ar nr cr dr ∧ (zval gr dr = zval gc dc * zval ga da) ∧ (ICan gr dr) ∧ (nr ≤ na + nc)) := by
 have ⟨la, ka, ma⟩ := ha.lkm;replace ha := ha.low;have ⟨lc, kc, mc⟩ := hc.lkm;replace hc := hc.low;have ltc := Bc.lt;refine enter func51 rfl ntmps51 rfl (rS fun Q u => sO (oBox [(.bool ga), (.slice Aa na ca)] rfl rfl (fun R S M x N y => sO (oAlloc [(.bool false), (.slice none 0 0)] zero25 rfl (fun H T I j J n => sK u (rS fun O o => ?_))))));have f := x.trans j;have p := (Bc.ext f);refine sV (evLoadAB [(.bool gc), (.slice Ac nc cc)] agg25 sz25 rfl p rfl) ?_;have q := (y.ext j);refine sV (evLoadAB [(.bool ga), (.slice Aa na ca)] agg25 sz25 rfl q rfl) ?_;have z := (hc.ext f);have A := (ha.ext f);refine sO (oCall rfl call33 (integer_Mul z A Qo) rfl ?_);rintro _ P ⟨a, c, d, e, l, rfl, g, i, r, m, D⟩;have K := g.size;have ⟨E, F, G⟩ := i.lkm;have s := (n.ext g);refine sO (oStore [(.bool a), (.slice c d e)] rfl rfl rfl sz25 rfl s Qn (fun B k L h => ?_));replace h : Blk B H 25 [(.bool a), (.slice c d e)] := h;refine sK o (wp_ret (ret1 (.agg #[(.bool a), (.slice c d e)]) results51 (resB [(.bool a), (.slice c d e)] agg25 sz25 rfl h) ?_));have C := (i.frmB k q3);have t := (f.trans g).rx k;exact ⟨a, c, d, e, l, rfl, (Frm.mono t q4), (NatR.sub C q5), r, m, Qo⟩
theorem unipoly_transform_Normal {w : World} {Sf : Nat → Prop} {Af : Option Addr} {nf cf Mf : Nat} {lf : List RI}  (hf : PolyR w Sf Af nf cf lf Mf) (hnf : nf ≤ 1048576) (hMf : Mf ≤ 1073741824) : Calls Tryz.prog 50 #[(.slice Af nf cf), (.func (.func 85) #[] #[])] w (Ret fun v w' => ∃ (qr : Nat) (nr : Nat) (lr : List RI), v = (.slice (some ⟨qr, 0, none⟩) nr nr) ∧ Ext w w' ∧ (fun b => w.heap.size ≤ b) qr ∧ Blk w' qr 25 (cellsI lr) ∧ AllN w' (fun b => qr < b) (Mf) lr ∧ lr.length = nr ∧ nr ≤ 9223372036854775807 ∧ (zs lr = (zs lf).map (fun x => x)) ∧ (nr = nf) ∧ (AllC lr)) := by
 have ⟨kf, jf, mf⟩ := hf.lkm;replace hf := hf.low;refine enter func50 rfl ntmps50 rfl (rS fun K1 a5 => sAs rfl (sK a5 (rS fun K2 a6 => sMs rfl (sV (evLen underlying39 rfl) (sO (oMake2 nf underlying39 inf25 cI cI Qo Qo (fun r w4 d7 J d8 a8 => ?_)))))));have a9 : Blk w4 r 25 (cellsI (List.replicate nf RI.zero)) := a8;refine sAs rfl (sK a6 (wp_seq_k fun d9 M => rS fun e0 N => sMs rfl (sV (evLen underlying39 rfl) (sMi rfl (sK N (wp_block ?_))))));refine lLoop (fun m e w_ => ∃ (k : Nat) (L : List RI), m = nf - k ∧ e 1 = (.func (.func 85) #[] #[]) ∧ e 5 = (.slice (some ⟨r, 0, none⟩) nf nf) ∧ e 11 = (.slice Af nf cf) ∧ e 12 = (.int .i64 nf) ∧ e 13 = (.int .i64 k) ∧ Frm (fun b => b = r) w4 w_ ∧ Blk w_ r 25 (cellsI (L ++ List.replicate (nf - k) RI.zero)) ∧ (k ≤ nf) ∧ (L.length = k) ∧ (AllN w_ (fun b => r < b) (Mf) L) ∧ (zs L = ((zs lf).take k).map (fun x => x)) ∧ (AllC L)) (nf - (0)) ?_ ?_
 ·refine ⟨(0), ([]), rfl, rfl, rfl, rfl, rfl, cI, (Frm.refl _ _), ?_, ?_, ?_, ?_, ?_, ?_⟩
  ·simpa using a9
  ·omega
  ·rfl
  ·exact AllN.nil
  ·simp
  ·exact AllC.nil
 ·rintro e1 e2 e3 ⟨k, L, c5, O, P, Q, R, S, j, u, hk, hL, hA, hz, hC⟩
  obtain ⟨e4, rfl⟩ := sq5 O P Q R S;have c6 := j.size;refine rS fun e5 y => ?_
  by_cases z : ((k : Int)) < ((nf : Int))
  ·refine sV (evLss true rfl rfl (dT z)) (sK y (wp_seq_k fun e6 T => cT rfl (wp_skip (xN (T _ _ (wp_seq_k fun e7 U => wp_block (rS fun e8 V => sMi rfl ?_)))))))
   have W := J.rx j;have K := (hf.frmB W q3);obtain ⟨e9, b0, rfl⟩ := K.base Qo;refine sV (evIx k underlying39 sz25 rfl rfl (b0 + (k * 2))) ?_;obtain ⟨n, o, p, q, c7, b7, G, H, A, b8, b9, c0, X⟩ := K.at_ (i := k) Qo;have ⟨c8, c9, d0⟩ := A.lkm;refine sV (evLoadA [(.bool n), (.slice o p q)] agg25 sz25 rfl (cell2 G H)) (sO (oAlloc [(.bool false), (.slice none 0 0)] zero25 rfl (fun b1 f0 d1 Y d2 Z => sAi rfl (sO (oStore [(.bool n), (.slice o p q)] rfl rfl rfl sz25 rfl Z Qn (fun b2 a0 d3 s => ?_))))));replace s : Blk b2 b1 25 [(.bool n), (.slice o p q)] := s;refine sK V (wp_region_lit (sMs rfl (sMi rfl (sV (v := (.func (.func 85) #[] #[])) (rfl) (sV (evLoadAB [(.bool n), (.slice o p q)] agg25 sz25 rfl s rfl) ?_)))));have B := Y.rx a0;have b3 := (A.frmB B q3);refine sO (oCall rfl call85 (integer_Normal b3 Qo) rfl ?_);rintro _ f1 ⟨a, c, d, f, g, rfl, C, t, a1, I, c1⟩;have d4 := C.size;have ⟨c2, c3, c4⟩ := t.lkm;refine sV (evIx k underlying39 sz25 rfl rfl (k * 2)) ?_;have D := B.xr C;have a2 := (u.frm D q1);refine sO (oStore [(.bool a), (.slice c d f)] rfl rfl rfl sz25 rfl a2 (by rw [cellsI_len]; simp only [List.length_cons, List.length_nil]; exact lq) (fun b4 E d5 h => ?_));replace h := (cellsI_set (l := L ++ List.replicate (nf - k) RI.zero) (i := k) ⟨a, c, d, f, g⟩ (by exact lq)) ▸ h;replace h : Blk b4 r 25 (cellsI ((L ++ [⟨a, c, d, f, g⟩]) ++ List.replicate (nf - (k + 1)) RI.zero)) := (fillI_set hL Qo : (L ++ List.replicate (nf - k) RI.zero).set k ⟨a, c, d, f, g⟩ = (L ++ [⟨a, c, d, f, g⟩]) ++ List.replicate (nf - (k + 1)) RI.zero) ▸ h;refine sDone (bN (xN (U _ _ (wp_region_lit (sV (evAdd (((k : Int)) + 1) rfl rfl wI) (sMi rfl (sDone ?_)))))));have F := D.tr E;have b5 := (hA.frmB F q3);have b6 := (t.frmB E q3);refine again (nf - (k + 1)) Qo ⟨(k + 1), (L ++ [⟨a, c, d, f, g⟩]), rfl, rfl, rfl, rfl, rfl, cI, (Frm.mono (j.tr F) q4), ?_, ?_, ?_, ?_, ?_, ?_⟩
   ·exact h
   ·omega
   ·simp [hL]
   ·exact AllN.snoc b5 (NatR.sub b6 q5) (by (try dsimp only); omega)
   ·exact map_snoc hz (by omega) (by show zval _ _ = _; rw [a1, X])
   ·exact AllC.snoc hC I
  ·refine sV (evLss false rfl rfl (dF z)) (sK y (wp_seq_k fun f2 d6 => cF rfl (wp_exit (xE (xE (bE (xN (M _ _ (rS fun f3 a3 => sMs rfl (sAs rfl (sK a3 (wp_ret (ret1 (.slice (some ⟨r, 0, none⟩) nf nf) results50 (resT rfl) ?_)))))))))))))
   have a4 := J.rx j;exact ⟨r, nf, (L ++ List.replicate (nf - k) RI.zero), rfl, (Frm.mono a4 q4), (by show _ ≤ _; omega), u, (AllN.le (AllN.app (AllN.sub hA q5) (AllN.zeros _)) Qo), (by exact lq), Qo, (map_all hz Qo Qo), Qo, (AllC.app hC (AllC.zeros _))⟩
theorem unipoly_transform_Scale {w : World} {Sf : Nat → Prop} {Af : Option Addr} {nf cf Mf : Nat} {lf : List RI} {pc : Nat} {gc : Bool} {Sc : Nat → Prop} {Ac : Option Addr} {nc cc : Nat} {dc : List Nat} (hf : PolyR w Sf Af nf cf lf Mf) (Bc : Blk w pc 25 [.bool gc, .slice Ac nc cc]) (hc : NatR w Sc Ac nc cc dc) (hnf : nf ≤ 1048576) (hMf : Mf ≤ 1073741824) (hnc : nc ≤ 1073741824) : Calls Tryz.prog 50 #[(.slice Af nf cf), (.func (.func 51) #[] #[(.pointer (some ⟨pc, 0, none⟩))])] w (Ret fun v w' => ∃ (Ar : Option Addr) (nr : Nat) (cr : Nat) (lr : List RI), v = (.slice Ar nr cr) ∧ Ext w w' ∧ PolyR w' (fun b => w.heap.size ≤ b) Ar nr cr lr (Mf + nc) ∧ (zs lr = (zs lf).map (fun x => zval gc dc * x)) ∧ (nr = nf) ∧ (AllC lr)) := by
 have ⟨kf, jf, mf⟩ := hf.lkm;replace hf := hf.low;have ⟨lc, kc, mc⟩ := hc.lkm;replace hc := hc.low;have ltc := Bc.lt;refine enter func50 rfl ntmps50 rfl (rS fun K1 a7 => sAs rfl (sK a7 (rS fun K2 a8 => sMs rfl (sV (evLen underlying39 rfl) (sO (oMake2 nf underlying39 inf25 cI cI Qo Qo (fun j w4 e2 O e3 b0 => ?_)))))));have b1 : Blk w4 j 25 (cellsI (List.replicate nf RI.zero)) := b0;refine sAs rfl (sK a8 (wp_seq_k fun e4 Q => rS fun e5 R => sMs rfl (sV (evLen underlying39 rfl) (sMi rfl (sK R (wp_block ?_))))));refine lLoop (fun m e w_ => ∃ (k : Nat) (L : List RI), m = nf - k ∧ e 1 = (.func (.func 51) #[] #[(.pointer (some ⟨pc, 0, none⟩))]) ∧ e 5 = (.slice (some ⟨j, 0, none⟩) nf nf) ∧ e 11 = (.slice Af nf cf) ∧ e 12 = (.int .i64 nf) ∧ e 13 = (.int .i64 k) ∧ Frm (fun b => b = j) w4 w_ ∧ Blk w_ j 25 (cellsI (L ++ List.replicate (nf - k) RI.zero)) ∧ (k ≤ nf) ∧ (L.length = k) ∧ (AllN w_ (fun b => j < b) (Mf + nc) L) ∧ (zs L = ((zs lf).take k).map (fun x => zval gc dc * x)) ∧ (AllC L)) (nf - (0)) ?_ ?_
 ·refine ⟨(0), ([]), rfl, rfl, rfl, rfl, rfl, cI, (Frm.refl _ _), ?_, ?_, ?_, ?_, ?_, ?_⟩
  ·simpa using b1
  ·omega
  ·rfl
  ·exact AllN.nil
  ·simp
  ·exact AllC.nil
 ·rintro e6 e7 b2 ⟨k, L, d0, S, T, U, V, W, n, u, hk, hL, hA, hz, hC⟩
  obtain ⟨e8, rfl⟩ := sq5 S T U V W;have d1 := n.size;refine rS fun e9 y => ?_
  by_cases z : ((k : Int)) < ((nf : Int))
  ·refine sV (evLss true rfl rfl (dT z)) (sK y (wp_seq_k fun f0 X => cT rfl (wp_skip (xN (X _ _ (wp_seq_k fun f1 Y => wp_block (rS fun f2 Z => sMi rfl ?_)))))))
   have A := O.rx n;have P := (hf.frmB A q3);obtain ⟨f3, b3, rfl⟩ := P.base Qo;refine sV (evIx k underlying39 sz25 rfl rfl (b3 + (k * 2))) ?_;obtain ⟨o, p, q, r, d2, c2, K, M, B, c3, c4, c5, a0⟩ := P.at_ (i := k) Qo;have ⟨d3, d4, d5⟩ := B.lkm;refine sV (evLoadA [(.bool o), (.slice p q r)] agg25 sz25 rfl (cell2 K M)) (sO (oAlloc [(.bool false), (.slice none 0 0)] zero25 rfl (fun b4 f4 d6 C d7 a1 => sAi rfl (sO (oStore [(.bool o), (.slice p q r)] rfl rfl rfl sz25 rfl a1 Qn (fun b5 D d8 s => ?_))))));replace s : Blk b5 b4 25 [(.bool o), (.slice p q r)] := s;refine sK Z (wp_region_lit (sMs rfl (sMi rfl (sV (v := (.func (.func 51) #[] #[(.pointer (some ⟨pc, 0, none⟩))])) (rfl) (sV (evLoadAB [(.bool o), (.slice p q r)] agg25 sz25 rfl s rfl) ?_)))));have E := C.rx D;have b6 := (B.frmB E q3);have F := (A.xr C).tr D;have a2 := (Bc.frm F q1);have b7 := (hc.frmB F q3);refine sO (oCall rfl call51 (unipoly_Scale1 b6 a2 b7 Qo) rfl ?_);rintro _ f5 ⟨a, c, d, f, g, rfl, G, t, a3, N, c6⟩;have d9 := G.size;have ⟨c7, c8, c9⟩ := t.lkm;refine sV (evIx k underlying39 sz25 rfl rfl (k * 2)) ?_;have H := E.xr G;have a4 := (u.frm H q1);refine sO (oStore [(.bool a), (.slice c d f)] rfl rfl rfl sz25 rfl a4 (by rw [cellsI_len]; simp only [List.length_cons, List.length_nil]; exact lq) (fun b8 I e0 h => ?_));replace h := (cellsI_set (l := L ++ List.replicate (nf - k) RI.zero) (i := k) ⟨a, c, d, f, g⟩ (by exact lq)) ▸ h;replace h : Blk b8 j 25 (cellsI ((L ++ [⟨a, c, d, f, g⟩]) ++ List.replicate (nf - (k + 1)) RI.zero)) := (fillI_set hL Qo : (L ++ List.replicate (nf - k) RI.zero).set k ⟨a, c, d, f, g⟩ = (L ++ [⟨a, c, d, f, g⟩]) ++ List.replicate (nf - (k + 1)) RI.zero) ▸ h;refine sDone (bN (xN (Y _ _ (wp_region_lit (sV (evAdd (((k : Int)) + 1) rfl rfl wI) (sMi rfl (sDone ?_)))))));have J := H.tr I;have b9 := (hA.frmB J q3);have c0 := (t.frmB I q3);refine again (nf - (k + 1)) Qo ⟨(k + 1), (L ++ [⟨a, c, d, f, g⟩]), rfl, rfl, rfl, rfl, rfl, cI, (Frm.mono (n.tr J) q4), ?_, ?_, ?_, ?_, ?_, ?_⟩
   ·exact h
   ·omega
   ·simp [hL]
   ·exact AllN.snoc b9 (NatR.sub c0 q5) (by (try dsimp only); omega)
   ·exact map_snoc hz (by omega) (by show zval _ _ = _; rw [a3, a0])
   ·exact AllC.snoc hC N
  ·refine sV (evLss false rfl rfl (dF z)) (sK y (wp_seq_k fun f6 e1 => cF rfl (wp_exit (xE (xE (bE (xN (Q _ _ (rS fun f7 a5 => sMs rfl (sAs rfl (sK a5 (wp_ret (ret1 (.slice (some ⟨j, 0, none⟩) nf nf) results50 (resT rfl) ?_)))))))))))))
   have c1 : PolyR b2 (fun b => j ≤ b) (some ⟨j, 0, none⟩) nf nf (L ++ List.replicate (nf - k) RI.zero) (Mf + nc) := PolyR.of_blk u (AllN.app (AllN.sub hA q5) (AllN.zeros _)) (by (try dsimp only); omega) (by exact lq) (by omega) (by unfold CapMax; omega);have a6 := O.rx n;exact ⟨(some ⟨j, 0, none⟩), nf, nf, (L ++ List.replicate (nf - k) RI.zero), rfl, (Frm.mono a6 q4), (PolyR.le (PolyR.sub c1 q5) Qo), (map_all hz Qo Qo), Qo, (AllC.app hC (AllC.zeros _))⟩
theorem unipoly_Normal {w : World} {Sf : Nat → Prop} {Af : Option Addr} {nf cf Mf : Nat} {lf : List RI} (hf : PolyR w Sf Af nf cf lf Mf) (hnf : nf ≤ 1048576) (hMf : Mf ≤ 1073741824) : Calls Tryz.prog 97 #[(.slice Af nf cf)] w (Ret fun v w' => ∃ (qr : Nat) (nr : Nat) (lr : List RI), v = (.slice (some ⟨qr, 0, none⟩) nr nr) ∧ Ext w w' ∧ (fun b => w.heap.size ≤ b) qr ∧ Blk w' qr 25 (cellsI lr) ∧ AllN w' (fun b => qr < b) (Mf) lr ∧ lr.length = nr ∧ nr ≤ 9223372036854775807 ∧ (zs lr = trimZ (zs lf)) ∧ (nr ≤ nf) ∧ (AllC lr)) := by
 have ⟨kf, jf, mf⟩ := hf.lkm;replace hf := hf.low;refine enter func97 rfl ntmps97 rfl (rS fun I m => sAs rfl (sK m (rS fun J n => sMs rfl (sO (oCall rfl call49 (unipoly_trim hf) rfl ?_)))));rintro _ s ⟨t, u, x, y, rfl, i, d, o, z⟩;have H := i.size;have ⟨A, B, C⟩ := d.lkm;refine sO (oCall rfl call50 (unipoly_transform_Normal d Qo Qo) rfl ?_);rintro _ K ⟨a, c, j, rfl, e, g, f, h, D, E, p, F, k⟩;have G := e.size;have q : s.heap.size ≤ a := g; have r := f.lt;refine sAs rfl (sK n (wp_ret (ret1 (.slice (some ⟨a, 0, none⟩) c c) results97 (resT rfl) ?_)));have l := i.trans e;exact ⟨a, c, j, rfl, l, (by show _ ≤ _; omega), f, (AllN.le (AllN.sub h q5) (by omega)), (by exact lq), (by omega), (by rw [p, o, zs_trim, map_id2]), (by omega), k⟩
theorem unipoly_Scale {w : World} {Sf : Nat → Prop} {Af : Option Addr} {nf cf Mf : Nat} {lf : List RI} {gc : Bool} {Sc : Nat → Prop} {Ac : Option Addr} {nc cc : Nat} {dc : List Nat} (hf : PolyR w Sf Af nf cf lf Mf) (hc : NatR w Sc Ac nc cc dc) (hnf : nf ≤ 1048576) (hMf : Mf ≤ 1073741824) (hnc : nc ≤ 1073741824) : Calls Tryz.prog 16 #[(.slice Af nf cf), (.agg #[(.bool gc), (.slice Ac nc cc)])] w (Ret fun v w' => ∃ (Ar : Option Addr) (nr : Nat) (cr : Nat) (lr : List RI), v = (.slice Ar nr cr) ∧ Ext w w' ∧ PolyR w' (fun b => w.heap.size ≤ b) Ar nr cr lr (Mf + nc) ∧ (zs lr = trimZ (scaleP (zs lf) (zval gc dc))) ∧ (nr ≤ nf) ∧ (AllC lr)) := by
 have ⟨kf, jf, mf⟩ := hf.lkm;replace hf := hf.low;have ⟨lc, kc, mc⟩ := hc.lkm;replace hc := hc.low;refine enter func16 rfl ntmps16 rfl (rS fun O o => sO (oBox [(.bool gc), (.slice Ac nc cc)] rfl rfl (fun G P K g L p => sAs rfl (sK o (rS fun Q q => sMs rfl (sV (v := (.func (.func 51) #[] #[(.pointer (some ⟨G, 0, none⟩))])) (evK (by kernel_rfl)) ?_))))));have H := (hf.ext g);have r := (hc.ext g);refine sO (oCall rfl call50 (unipoly_transform_Scale H p r Qo Qo Qo) rfl ?_);rintro _ M ⟨s, t, u, x, rfl, h, a, m, y, k⟩;have I := h.size;have ⟨z, A, B⟩ := a.lkm;refine sO (oCall rfl call49 (unipoly_trim a) rfl ?_);rintro _ N ⟨c, d, e, l, rfl, i, f, j, C⟩;have J := i.size;have ⟨D, E, F⟩ := f.lkm;refine sAs rfl (sK q (wp_ret (ret1 (.slice c d e) results16 (resT rfl) ?_)));have n := (g.trans h).trans i;exact ⟨c, d, e, l, rfl, n, (PolyR.le (PolyR.sub f q5) (by omega)), (by rw [j, zs_trim, m, scale_comm]), (by omega), (by rw [j]; exact k.trim)⟩
theorem unipoly_Degree {w : World} {Sf : Nat → Prop} {Af : Option Addr} {nf cf Mf : Nat} {lf : List RI} (hf : PolyR w Sf Af nf cf lf Mf) (hnf : nf ≤ 1048576) (hMf : Mf ≤ 1073741824) : Calls Tryz.prog 32 #[(.slice Af nf cf)] w (Ret fun v w' => ∃ (xr : Int), v = (.int .i64 (xr)) ∧ Ext w w' ∧ (xr = ((trimZ (zs lf)).length : Int) - 1)) := by
 have ⟨kf, jf, mf⟩ := hf.lkm;replace hf := hf.low;refine enter func32 rfl ntmps32 rfl (rS fun o d => sAi rfl (sK d (rS fun p e => sMs rfl (sO (oCall rfl call49 (unipoly_trim hf) rfl ?_)))));rintro _ q ⟨g, a, h, i, rfl, b, c, f, j⟩;have n := b.size;have ⟨k, l, m⟩ := c.lkm;refine sV (evLen underlying39 rfl) (sV (evSub (((a : Int)) - 1) rfl rfl wI) (sAi rfl (sK e (wp_ret (ret1 (.int .i64 (((a : Int)) - 1)) results32 (resT rfl) ?_)))));exact ⟨(((a : Int)) - 1), rfl, b, (by rw [← zs_trim, ← f, zlen]; omega)⟩
theorem unipoly_Lead {w : World} {Sf : Nat → Prop} {Af : Option Addr} {nf cf Mf : Nat} {lf : List RI} (hf : PolyR w Sf Af nf cf lf Mf) (hnf : nf ≤ 1048576) (hMf : Mf ≤ 1073741824) : Calls Tryz.prog 41 #[(.slice Af nf cf)] w (Ret fun v w' => ∃ (gr : Bool) (Ar : Option Addr) (nr : Nat) (cr : Nat) (dr : List Nat), v = (.agg #[(.bool gr), (.slice Ar nr cr)]) ∧ Ext w w' ∧ NatR w' (fun b => w.heap.size ≤ b) Ar nr cr dr ∧ (zval gr dr = coI (trimZ (zs lf)) (((trimZ (zs lf)).length : Int) - 1)) ∧ (ICan gr dr) ∧ (nr ≤ Mf)) := by
 have ⟨kf, jf, mf⟩ := hf.lkm;replace hf := hf.low;refine enter func41 rfl ntmps41 rfl (rS fun K1 Q => sO (oAlloc [(.bool false), (.slice none 0 0)] zero25 rfl (fun R w3 c0 n c1 A => sK Q (rS fun K8 S => sMs rfl ?_))));have h9 := (hf.ext n);refine sO (oCall rfl call49 (unipoly_trim h9) rfl ?_);rintro _ c2 ⟨X, a, Y, Z, rfl, g, h, o, a0⟩;have b2 := g.size;have ⟨t, a1, a2⟩ := h.lkm;refine sAs rfl (sK S (wp_seq_k fun c3 B => rS fun c4 p => sMs rfl (sV (evLen underlying39 rfl) ?_)))
 by_cases q : ((a : Int)) = 0
 ·refine sV (evEql true rfl rfl (dT q)) (sK p (cT rfl (rS fun c5 C => sV (v := (.agg #[(.bool false), (.slice none 0 0)])) (evK (by kernel_rfl)) ?_)))
  have D := (A.ext g);refine sO (oStore [(.bool false), (.slice none 0 0)] rfl rfl rfl sz25 rfl D Qn (fun T E b3 j => ?_));replace j : Blk T R 25 [(.bool false), (.slice none 0 0)] := j;refine sK C (wp_ret (xR (ret1 (.agg #[(.bool false), (.slice none 0 0)]) results41 (resB [(.bool false), (.slice none 0 0)] agg25 sz25 rfl j) ?_)));have F := (n.trans g).rx E;exact ⟨false, none, 0, 0, ([]), rfl, (Frm.mono F q4), NatR.nil, (by rw [zval_nil]; exact coI_out (.inl (by rw [← zs_trim, ← o, zlen]; omega))), ICan.zero, (by omega)⟩
 ·refine sV (evEql false rfl rfl (dF q)) (sK p (cF rfl (wp_skip (xN (B _ _ (rS fun c6 G => sMs rfl (sMs rfl (sV (evLen underlying39 rfl) (sV (evSub (((a : Int)) - 1) rfl rfl wI) ?_)))))))))
  obtain ⟨c7, U, rfl⟩ := h.base Qo;refine sV (evIx (a - 1) underlying39 sz25 rfl rfl (U + ((a - 1) * 2))) ?_;obtain ⟨H, I, J, K, b4, a3, u, x, r, a4, a5, a6, L⟩ := h.at_ (i := a - 1) Qo;have ⟨b5, b6, b7⟩ := r.lkm;refine sV (evLoadA [(.bool H), (.slice I J K)] agg25 sz25 rfl (cell2 u x)) (sO (oCall rfl call85 (integer_Normal r Qo) rfl ?_));rintro _ c8 ⟨c, d, e, f, y, rfl, k, m, M, z, a7⟩;have b8 := k.size;have ⟨a8, a9, b0⟩ := m.lkm;have N := g.trans k;have O := (A.ext N);refine sO (oStore [(.bool c), (.slice d e f)] rfl rfl rfl sz25 rfl O Qn (fun V s b9 l => ?_));replace l : Blk V R 25 [(.bool c), (.slice d e f)] := l;refine sK G (wp_ret (ret1 (.agg #[(.bool c), (.slice d e f)]) results41 (resB [(.bool c), (.slice d e f)] agg25 sz25 rfl l) ?_));have W := (m.frmB s q3);have P := ((n.trans g).trans k).rx s;exact ⟨c, d, e, f, y, rfl, (Frm.mono P q4), (NatR.sub W q5), (by rw [M, L, ← zs_trim, ← o, zlen, t, show ((a : Int) - 1) = ((a - 1 : Nat) : Int) by omega, coI_nat]), z, (by omega)⟩
set_option maxHeartbeats 2000000 in
theorem unipoly_Pow {w : World} {Sf : Nat → Prop} {Af : Option Addr} {nf cf Mf : Nat} {lf : List RI} {xn : Int} (hf : PolyR w Sf Af nf cf lf Mf) (hnf : nf ≤ 64) (hMf : Mf ≤ 65536) (hxn : xn ≤ 127) : Calls Tryz.prog 98 #[(.slice Af nf cf), (.int .i64 (xn))] w (Ret fun v w' => ∃ (Ar : Option Addr) (nr : Nat) (cr : Nat) (lr : List RI), v = (.slice Ar nr cr) ∧ Ext w w' ∧ PolyR w' (fun b => w.heap.size ≤ b) Ar nr cr lr (33554432) ∧ (zs lr = trimZ (ppow (zs lf) xn.toNat)) ∧ (nr ≤ 16384) ∧ (AllC lr)) := by
 have ⟨kf, jf, mf⟩ := hf.lkm;replace hf := hf.low;refine enter func98 rfl ntmps98 rfl (rS fun K1 c3 => sAs rfl (sK c3 (rS fun K2 c4 => sO (oBuildSlice [(.int .i64 (1))] [[(.int .i64 (1))]] underlying82 inf2 rfl rfl rfl rfl rfl (fun g3 w4 g7 c6 g8 E => ?_)))));replace E : Blk w4 g3 2 [(.int .i64 (1))] := E;refine sO (oCall rfl call17 (unipoly_Of (IntsR.of_blk (S := fun b => b = g3) (n := 1) (c := 1) (xs := [1]) E rfl (by decide) rfl (Nat.le_refl _) (by decide)) Qo) rfl ?_);rintro _ c7 ⟨a5, a6, a7, a8, rfl, F, G, a2, f5, a9⟩;have f6 := F.size;have ⟨f7, f8, f9⟩ := G.lkm;refine sMs rfl ?_;have H := c6.trans F;have c8 := (hf.ext H);refine sO (oCall rfl call97 (unipoly_Normal c8 Qo Qo) rfl ?_);rintro _ a3 ⟨f, g, p, rfl, k, I, q, J, d6, d7, b0, d8, d9⟩;have g0 := k.size;have c9 : c7.heap.size ≤ f := I; have d0 := q.lt;refine sAs rfl (sAs rfl (sK c4 (wp_seq_k fun g9 b1 => wp_block ?_)));have d1 := (G.ext k);have d2 : PolyR a3 (fun b => f ≤ b) (some ⟨f, 0, none⟩) g g (p) ((Mf)) := PolyR.of_blk q (AllN.sub J q5) (by (try dsimp only); omega) (by exact lq) (by omega) (by unfold CapMax; omega);refine lLoop (fun m e w_ => ∃ (y : Int) (u : Nat) (a : Nat) (b : Nat) (Ar : Option Addr) (nR : Nat) (cr : Nat) (lR : List RI) (As : Option Addr) (nS : Nat) (cs : Nat) (lS : List RI), m = u ∧ e 1 = (.int .i64 (y)) ∧ e 5 = (.slice Ar nR cr) ∧ e 6 = (.slice As nS cs) ∧ Frm (fun b => False) a3 w_ ∧ (u = y.toNat) ∧ (PowI u a b) ∧ (nR ≤ 64 * a + 1) ∧ (nS ≤ 64 * b) ∧ (PolyR w_ (fun b => w.heap.size ≤ b) Ar nR cr lR (2 + 131072 * a)) ∧ (PolyR w_ (fun b => w.heap.size ≤ b) As nS cs lS (131072 * b - 65536)) ∧ (AllC lR) ∧ (Canon isZI (zs lR)) ∧ (trimZ (pmul (zs lR) (ppow (zs lS) u)) = trimZ (ppow (zs lf) xn.toNat))) ((xn.toNat)) ?_ ?_
 ·refine ⟨(xn), (xn.toNat), (0), (1), (a5), (a6), (a7), (a8), ((some ⟨f, 0, none⟩)), (g), (g), (p), rfl, cI, rfl, rfl, (Frm.refl _ _), ?_, ?_, ?_, ?_, ?_, ?_, ?_, ?_, ?_⟩
  ·omega
  ·exact PowI.start Qo
  ·omega
  ·omega
  ·exact PolyR.le (PolyR.sub d1 q5) Qo
  ·exact PolyR.le (PolyR.sub d2 q5) Qo
  ·exact a9
  ·rw [a2]; exact canon_trim _ _
  ·rw [a2, b0]; exact pow_init _ _
 ·rintro h0 h1 h2 ⟨y, u, a, b, Ar, nR, cr, lR, As, nS, cs, lS, g1, b2, b3, b4, d, hu, hI, hnR, hnS, hR, hS, hC, hcR, hv⟩
  obtain ⟨h3, rfl⟩ := sq3 b2 b3 b4;have g2 := d.size;have hIb := hI.bnd; have ⟨qR, jR, mR⟩ := hR.lkm; have ⟨qS, jS, mS⟩ := hS.lkm;refine wp_seq_k fun h4 b5 => rS fun h5 K => sMi rfl ?_
  by_cases L : y > 0
  ·refine sV (evGtr true rfl rfl (dT L)) (sK K (cT rfl (wp_skip (xN (b5 _ _ (wp_block (wp_seq_k fun h6 M => rS fun h7 N => sV (v := (.int .i64 u)) (by rw [show (u : Int) = y by omega]; rfl) (sV (v := (.int .i64 (((u % 2 : Nat) : Int)))) (evAndOne rfl rfl (by omega)) ?_))))))))
   by_cases O : (((u % 2 : Nat) : Int)) ≠ 0
   ·refine sV (evNeq true rfl rfl (dT O)) (sK N (cT rfl (wp_region_lit (sMs rfl (sMs rfl (sO (oCall rfl call19 (unipoly_Mul hR hS Qo Qo Qo Qo) rfl ?_)))))))
    rintro _ h8 ⟨r, t, z, A, rfl, h, i, j, e0, B⟩;have g4 := h.size;have ⟨e1, e2, e3⟩ := i.lkm;refine sAs rfl (sK M (rS fun h9 b6 => sV (v := (.int .i64 u)) (by rw [show (u : Int) = y by omega]; rfl) (sV (evShr (((u / 2 ^ 1 : Nat) : Int)) rfl rfl (by omega) (shrE (x := u) (s := 1) (by omega) (by omega) (by show _ ≤ 64; omega))) (sAi rfl (sK b6 (rS fun i0 P => sMi rfl ?_))))))
    by_cases Q : (((u / 2 ^ 1 : Nat) : Int)) > 0
    ·refine sV (evGtr true rfl rfl (dT Q)) (sK P (cT rfl (wp_region_lit (sMs rfl (sMs rfl ?_)))))
     have a4 := (hS.ext h);refine sO (oCall rfl call19 (unipoly_Mul a4 a4 Qo Qo Qo Qo) rfl ?_);rintro _ i1 ⟨U, V, W, X, rfl, l, C, b7, e4, e5⟩;have g5 := l.size;have ⟨e6, e7, e8⟩ := C.lkm;refine sAs rfl (sDone (bN ?_));have b8 := h.trans l;have d3 := (i.ext l);refine again ((u / 2 ^ 1)) Qo ⟨(((u / 2 ^ 1 : Nat) : Int)), (u / 2 ^ 1), (a + b), (2 * b), (r), (t), (z), (A), (U), (V), (W), (X), rfl, cI, rfl, rfl, (d.trans b8), ?_, ?_, ?_, ?_, ?_, ?_, ?_, ?_, ?_⟩
     ·omega
     ·exact hI.odd Qo
     ·omega
     ·omega
     ·exact PolyR.le (PolyR.sub d3 q5) Qo
     ·exact PolyR.le (PolyR.sub C q5) Qo
     ·exact B
     ·rw [j]; exact canon_trim _ _
     ·exact pow_odd1 hv Qo j b7
    ·refine sV (evGtr false rfl rfl (dF Q)) (sK P (cF rfl (wp_skip (bN ?_))))
     have d4 := (hS.ext h);refine again ((u / 2 ^ 1)) Qo ⟨(((u / 2 ^ 1 : Nat) : Int)), (u / 2 ^ 1), (a + b), (2 * b), (r), (t), (z), (A), (As), (nS), (cs), (lS), rfl, cI, rfl, rfl, (d.trans h), ?_, ?_, ?_, ?_, ?_, ?_, ?_, ?_, ?_⟩
     ·omega
     ·exact hI.odd Qo
     ·omega
     ·omega
     ·exact PolyR.le (PolyR.sub i q5) Qo
     ·exact PolyR.le (PolyR.sub d4 q5) Qo
     ·exact B
     ·rw [j]; exact canon_trim _ _
     ·exact pow_last hv Qo Qo j
   ·refine sV (evNeq false rfl rfl (dF O)) (sK N (cF rfl (wp_skip (xN (M _ _ (rS fun i2 b9 => sV (v := (.int .i64 u)) (by rw [show (u : Int) = y by omega]; rfl) (sV (evShr (((u / 2 ^ 1 : Nat) : Int)) rfl rfl (by omega) (shrE (x := u) (s := 1) (by omega) (by omega) (by show _ ≤ 64; omega))) (sAi rfl (sK b9 (rS fun i3 R => sMi rfl ?_))))))))))
    by_cases T : (((u / 2 ^ 1 : Nat) : Int)) > 0
    ·refine sV (evGtr true rfl rfl (dT T)) (sK R (cT rfl (wp_region_lit (sMs rfl (sMs rfl (sO (oCall rfl call19 (unipoly_Mul hS hS Qo Qo Qo Qo) rfl ?_)))))))
     rintro _ i4 ⟨Y, Z, a0, a1, rfl, o, D, c0, e9, f0⟩;have g6 := o.size;have ⟨f1, f2, f3⟩ := D.lkm;refine sAs rfl (sDone (bN ?_));have d5 := (hR.ext o);refine again ((u / 2 ^ 1)) Qo ⟨(((u / 2 ^ 1 : Nat) : Int)), (u / 2 ^ 1), (a + 0), (2 * b), (Ar), (nR), (cr), (lR), (Y), (Z), (a0), (a1), rfl, cI, rfl, rfl, (d.trans o), ?_, ?_, ?_, ?_, ?_, ?_, ?_, ?_, ?_⟩
     ·omega
     ·exact hI.even Qo Qo
     ·omega
     ·omega
     ·exact PolyR.le (PolyR.sub d5 q5) Qo
     ·exact PolyR.le (PolyR.sub D q5) Qo
     ·exact hC
     ·exact hcR
     ·exact pow_even1 hv Qo c0
    ·refine sV (evGtr false rfl rfl (dF T)) (sK R (cF rfl (wp_skip (bN (again ((u / 2 ^ 1)) Qo ⟨(((u / 2 ^ 1 : Nat) : Int)), (u / 2 ^ 1), (a + 0), (2 * b), (Ar), (nR), (cr), (lR), (As), (nS), (cs), (lS), rfl, cI, rfl, rfl, d, ?_, ?_, ?_, ?_, ?_, ?_, ?_, ?_, ?_⟩)))))
     ·omega
     ·exact hI.even Qo Qo
     ·omega
     ·omega
     ·exact PolyR.le (PolyR.sub hR q5) Qo
     ·exact PolyR.le (PolyR.sub hS q5) Qo
     ·exact hC
     ·exact hcR
     ·exfalso; omega
  ·refine sV (evGtr false rfl rfl (dF L)) (sK K (cF rfl (wp_exit (xE (xE (bE (xN (b1 _ _ (rS fun i5 c1 => sMs rfl (sAs rfl (sK c1 (wp_ret (ret1 (.slice Ar nR cr) results98 (resT rfl) ?_)))))))))))))
   have c2 := (H.trans k).trans d;exact ⟨Ar, nR, cr, lR, rfl, c2, (PolyR.le (PolyR.sub hR q5) Qo), (pow_end hv Qo hcR), Qo, hC⟩
end Go.Proofs.YtneolcopompkaaaGreatDoor
