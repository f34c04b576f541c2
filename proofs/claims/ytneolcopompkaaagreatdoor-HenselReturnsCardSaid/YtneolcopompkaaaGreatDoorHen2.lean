/-
  Walks of package hensel: exponents, coefficients around 0.
-/
import Derived.Test.YtneolcopompkaaaGreatDoorHen1
import Derived.Test.YtneolcopompkaaaGreatDoorUni4
namespace Go.Proofs.YtneolcopompkaaaGreatDoor
open Go.RowKit Go.Gx Tryz
set_option maxHeartbeats 1000000 in
theorem hensel_Exponent {w : World} {gb : Bool} {Sb : Nat → Prop} {Ab : Option Addr} {nb cb : Nat} {db : List Nat} {xp : Nat} (hb : NatR w Sb Ab nb cb db) (bp : xp < 4294967296) (hnb : nb ≤ 1024) : Calls Tryz.prog 10 #[(.agg #[(.bool gb), (.slice Ab nb cb)]), (.int .u32 xp)] w (Ret fun v w' => ∃ (xr : Nat) (xo : Int), v = (.tuple #[(.int .i64 xr), (.int .i64 (xo))]) ∧ Ext w w' ∧ xr ≤ 9223372036854775807 ∧ (xp < 2 → xr = 0 ∧ xo = 1) ∧ (2 ≤ xp → xo = 0 ∧ ExpoR xp (zval gb db).natAbs xr) ∧ (xr ≤ 32 * nb + 2)) := by
 have ⟨lb, kb, mb⟩ := hb.lkm
 replace hb := hb.low
 refine enter func10 rfl ntmps10 rfl (rS fun K1 d9 => sO (oBox [(.bool gb), (.slice Ab nb cb)] rfl rfl (fun g2 w3 j7 P j8 e0 => sAi rfl (sAi rfl (sK d9 (wp_seq_k fun K8 e1 => rS fun K9 a5 => sMi rfl ?_))))))
 by_cases Q : ((xp : Int)) < 2
 ·refine sV (evLss true rfl rfl (dT Q)) (sK a5 (cT rfl (rS fun j9 b1 => sAi rfl (sAi rfl (sK b1 (wp_ret (xR (ret2 (.int .i64 (0)) (.int .i64 (1)) results10 (resT rfl) (resT rfl) ?_))))))))
  exact ⟨(0), (1), rfl, P, Qo, (fun _ => ⟨rfl, rfl⟩), (fun h => by omega), Qo⟩
 ·refine sV (evLss false rfl rfl (dF Q)) (sK a5 (cF rfl (wp_skip (xN (e1 _ _ (rS fun k0 b2 => sV (evLoadAB [(.bool gb), (.slice Ab nb cb)] agg25 sz25 rfl e0 rfl) ?_))))))
  have e2 := (hb.ext P)
  refine sO (oCall rfl call11 (integer_Abs e2 Qo) rfl ?_)
  rintro _ k1 ⟨f5, f6, f7, f8, f9, rfl, R, L, b3, g0, g1⟩
  have i1 := R.size
  have ⟨g3, g4, g5⟩ := L.lkm
  refine sO (oCall rfl call34 (integer_Shl L (xn := 1) Qo Qo Qo) rfl ?_)
  rintro _ k2 ⟨x, y, z, A, g6, rfl, S, M, b4, g7, g8⟩
  have i2 := S.size
  have ⟨g9, h0, h3⟩ := M.lkm
  refine sO (oAlloc [(.bool false), (.slice none 0 0)] zero25 rfl (fun a6 k3 i3 T i4 b5 => sO (oStore [(.bool x), (.slice y z A)] rfl rfl rfl sz25 rfl b5 Qn (fun a7 U i5 J => ?_))))
  replace J : Blk a7 a6 25 [(.bool x), (.slice y z A)] := J
  refine sK b2 (rS fun k4 b6 => sMi rfl (sV (evConv ((xp : Int)) underlying26 underlying2 rfl (wI64 Qo)) (sO (oCall rfl call35 (integer_Of Qo) rfl ?_))))
  rintro _ e3 ⟨a, c, d, f, a0, rfl, B, N, V, h4, h5⟩
  have i6 := B.size
  have ⟨h6, h7, h8⟩ := N.lkm
  have e4 := N.sub (S' := fun b => (a7.heap.size ≤ b) ∧ b < e3.heap.size) fun _ hb hs => ⟨hs, hb⟩
  refine sO (oAlloc [(.bool false), (.slice none 0 0)] zero25 rfl (fun a8 k5 i7 C i8 b7 => sO (oStore [(.bool a), (.slice c d f)] rfl rfl rfl sz25 rfl b7 Qn (fun e5 D i9 E => ?_))))
  replace E : Blk e5 a8 25 [(.bool a), (.slice c d f)] := E
  refine sK b6 (rS fun k6 b8 => sV (evLoadAB [(.bool a), (.slice c d f)] agg25 sz25 rfl E rfl) (sO (oAlloc [(.bool false), (.slice none 0 0)] zero25 rfl (fun u k7 j0 n j1 b9 => sO (oStore [(.bool a), (.slice c d f)] rfl rfl rfl sz25 rfl b9 Qn (fun a9 o j2 K => ?_))))))
  replace K : Blk a9 u 25 [(.bool a), (.slice c d f)] := K
  refine sK b8 (rS fun k8 c0 => sAi rfl (sK c0 (wp_block ?_)))
  have c1 := ((C.rx D).xr n).tr o
  have b0 := (e4.frmB c1 q3)
  refine lLoop (fun m e w_ => ∃ (k : Nat) (gP : Bool) (AP : Option Addr) (nP : Nat) (cP : Nat) (dP : List Nat), m = 2 * (zval gb db).natAbs + 1 - k ∧ e 6 = (.pointer (some ⟨a6, 0, none⟩)) ∧ e 7 = (.pointer (some ⟨a8, 0, none⟩)) ∧ e 8 = (.pointer (some ⟨u, 0, none⟩)) ∧ e 9 = (.int .i64 k) ∧ Frm (fun b => b = u) a9 w_ ∧ Blk w_ u 25 ([.bool gP, .slice AP nP cP]) ∧ (1 ≤ k) ∧ (NatR w_ (fun b => b ≠ u) AP nP cP dP) ∧ (k ≤ 32 * nb + 2) ∧ (zval gP dP = ((xp ^ k : Nat) : Int)) ∧ (nP ≤ 2 * k) ∧ (∀ j, 1 ≤ j → j < k → xp ^ j ≤ 2 * (zval gb db).natAbs)) (2 * (zval gb db).natAbs + 1 - (1)) ?_ ?_
  ·refine ⟨(1), (a), (c), (d), (f), (a0), rfl, rfl, rfl, rfl, cI, (Frm.refl _ _), ?_, ?_, ?_, ?_, ?_, ?_, ?_⟩
   ·exact K
   ·omega
   ·exact NatR.sub b0 q5
   ·omega
   ·rw [V, Nat.pow_one]
   ·omega
   ·intro j h1 h2; omega
  ·rintro k9 l0 l1 ⟨k, gP, AP, nP, cP, dP, j3, c2, c3, c4, c5, i, W, e6, hP, hkk, hv, hnP, hl⟩
   obtain ⟨l2, rfl⟩ := sq4 c2 c3 c4 c5
   have j4 := i.size
   have ⟨lP, kP, mP⟩ := hP.lkm
   refine wp_seq_k fun l3 c6 => wp_block (wp_seq_k fun l4 c7 => rS fun l5 X => sV (evLoadAB [(.bool gP), (.slice AP nP cP)] agg25 sz25 rfl W rfl) ?_)
   have c8 := ((((B.trans C).rx D).xr n).tr o).tr i
   have c9 := (J.frm c8 q1)
   refine sV (evLoadAB [(.bool x), (.slice y z A)] agg25 sz25 rfl c9 rfl) ?_
   have d0 := ((((((T.rx U).xr B).xr C).tr D).xr n).tr o).tr i
   have e7 := (M.frmB d0 q3)
   refine sO (oCall rfl call13 (integer_Cmp hP e7) rfl ?_)
   rintro _ l6 ⟨a1, rfl, l, d1⟩
   have j5 := l.size
   have ⟨hgt, hng⟩ := expo_cmp (g := true) hv b3 b4 (natAbs_val gb db) d1
   by_cases F : a1 > 0
   ·refine sV (evGtr true rfl rfl (dT F)) (sK X (cT rfl (rS fun l7 d2 => sMi rfl (sAi rfl (sAi rfl (sK d2 (wp_ret (xR (bR (xR (xR (bR (ret2 (.int .i64 k) (.int .i64 (0)) results10 (resT rfl) (resT rfl) ?_)))))))))))))
    have d3 := ((((((((((P.trans R).trans S).trans T).rx U).xr B).xr C).tr D).xr n).tr o).tr i).xr l
    exact ⟨(k), (0), rfl, (Frm.mono d3 q4), Qo, (fun h => by omega), (fun _ => ⟨rfl, e6, hgt F, hl⟩), Qo⟩
   ·refine sV (evGtr false rfl rfl (dF F)) ?_
    have hle := hng F; have hlk := lt_powN (p := xp) (k := k) (by omega); have hel := expo_len (p := xp) (k := k) (by omega) hb.2 lb (by rw [natAbs_val gb db]; exact hle)
    refine sK X (cF rfl (wp_skip (xN (c7 _ _ (wp_region_lit ?_)))))
    have Y := (W.ext l)
    refine sV (evLoadAB [(.bool gP), (.slice AP nP cP)] agg25 sz25 rfl Y rfl) ?_
    have d4 := ((n.rx o).trans i).xr l
    have d5 := (E.frm d4 q1)
    refine sV (evLoadAB [(.bool a), (.slice c d f)] agg25 sz25 rfl d5 rfl) ?_
    have e8 := (hP.ext l)
    have d6 := i.xr l
    have e9 := (b0.frmB d6 q3)
    refine sO (oCall rfl call33 (integer_Mul e8 e9 Qo) rfl ?_)
    rintro _ j6 ⟨q, r, s, t, Z, rfl, G, I, a2, f0, f1⟩
    have h9 := G.size
    have ⟨f2, f3, f4⟩ := I.lkm
    have a3 := (Y.ext G)
    refine sO (oStore [(.bool q), (.slice r s t)] rfl rfl rfl sz25 rfl a3 Qn (fun d7 O i0 H => ?_))
    replace H : Blk d7 u 25 [(.bool q), (.slice r s t)] := H
    refine sDone (bN (xN (c6 _ _ (wp_region_lit (sMi rfl (sV (evAdd (((k : Int)) + 1) rfl rfl wI) (sAi rfl (sDone ?_))))))))
    have a4 := (l.trans G).rx O
    have d8 := (I.frmB O q3)
    refine again (2 * (zval gb db).natAbs + 1 - (k + 1)) Qo ⟨(k + 1), (q), (r), (s), (t), (Z), rfl, rfl, rfl, rfl, cI, (i.trans a4), ?_, ?_, ?_, ?_, ?_, ?_, ?_⟩
    ·exact H
    ·omega
    ·exact NatR.sub d8 q5
    ·omega
    ·rw [a2]; exact pow_nextI hv V
    ·omega
    ·exact expo_next hl hle
theorem hensel_reduce_own {w : World} {Sf : Nat → Prop} {Af : Option Addr} {nf cf Mf : Nat} {lf : List RI} {gm : Bool} {Sm : Nat → Prop} {Am : Option Addr} {nm cm : Nat} {dm : List Nat} (hf : PolyR w Sf Af nf cf lf Mf) (hm : NatR w Sm Am nm cm dm) (hnf : nf ≤ 65536) (hMf : Mf ≤ 268435456) (hnm : nm ≤ 16777216) (hm0 : zval gm dm ≠ 0) : Calls Tryz.prog 68 #[(.slice Af nf cf), (.agg #[(.bool gm), (.slice Am nm cm)])] w (Ret fun v w' => ∃ (qr : Nat) (nr : Nat) (lr : List RI), v = (.slice (some ⟨qr, 0, none⟩) nr nr) ∧ Ext w w' ∧ (fun b => w.heap.size ≤ b) qr ∧ Blk w' qr 25 (cellsI lr) ∧ AllN w' (fun b => qr < b) (nm + 2) lr ∧ lr.length = nr ∧ nr ≤ 9223372036854775807 ∧ (zs lr = redZ (zval gm dm).natAbs (zs lf)) ∧ (nr ≤ nf) ∧ (AllC lr)) := by
 have ⟨kf, jf, mf⟩ := hf.lkm
 replace hf := hf.low
 have ⟨lm, km, mm⟩ := hm.lkm
 replace hm := hm.low
 refine enter func68 rfl ntmps68 rfl (rS fun K1 c2 => sO (oBox [(.bool gm), (.slice Am nm cm)] rfl rfl (fun g2 w3 g5 W g6 c3 => sAs rfl (sK c2 (rS fun K8 c4 => sMs rfl (sV (evLen underlying39 rfl) (sO (oMake2 nf underlying39 inf25 cI cI Qo Qo (fun t X e9 u f0 a0 => ?_)))))))))
 have a1 : Blk X t 25 (cellsI (List.replicate nf RI.zero)) := a0
 refine sAs rfl (sK c4 (wp_seq_k fun g7 a2 => rS fun g8 a3 => sMs rfl (sV (evLen underlying39 rfl) (sMi rfl (sK a3 (wp_block ?_))))))
 refine lLoop (fun m e w_ => ∃ (k : Nat) (L : List RI), m = nf - k ∧ e 3 = (.pointer (some ⟨g2, 0, none⟩)) ∧ e 5 = (.slice (some ⟨t, 0, none⟩) nf nf) ∧ e 11 = (.slice Af nf cf) ∧ e 12 = (.int .i64 nf) ∧ e 13 = (.int .i64 k) ∧ Frm (fun b => b = t) X w_ ∧ Blk w_ t 25 (cellsI (L ++ List.replicate (nf - k) RI.zero)) ∧ (k ≤ nf) ∧ (L.length = k) ∧ (AllN w_ (fun b => t < b) (nm + 2) L) ∧ (zs L = (List.range k).map (fun i => symZ (zval gm dm).natAbs (co (zs lf) i))) ∧ (AllC L)) (nf - (0)) ?_ ?_
 ·refine ⟨(0), ([]), rfl, rfl, rfl, rfl, rfl, cI, (Frm.refl _ _), ?_, ?_, ?_, ?_, ?_, ?_⟩
  ·simpa using a1
  ·omega
  ·rfl
  ·exact AllN.nil
  ·rfl
  ·exact AllC.nil
 ·rintro h0 h1 Y ⟨k, L, f1, a4, a5, a6, a7, a8, h, D, hk, hL, hA, hz, hC⟩
  obtain ⟨h2, rfl⟩ := sq5 a4 a5 a6 a7 a8
  have f2 := h.size
  refine rS fun h3 E => ?_
  by_cases F : ((k : Int)) < ((nf : Int))
  ·refine sV (evLss true rfl rfl (dT F)) (sK E (wp_seq_k fun h4 a9 => cT rfl (wp_skip (xN (a9 _ _ (wp_seq_k fun h5 b0 => wp_block (rS fun h6 b1 => sMi rfl ?_)))))))
   have G := (W.trans u).rx h
   have Z := (hf.frmB G q3)
   obtain ⟨h7, c5, rfl⟩ := Z.base Qo
   refine sV (evIx k underlying39 sz25 rfl rfl (c5 + (k * 2))) ?_
   obtain ⟨n, o, p, q, f3, d6, R, S, H, d7, d8, d9, b2⟩ := Z.at_ (i := k) Qo
   have ⟨f4, f5, f6⟩ := H.lkm
   refine sV (evLoadA [(.bool n), (.slice o p q)] agg25 sz25 rfl (cell2 R S)) (sO (oAlloc [(.bool false), (.slice none 0 0)] zero25 rfl (fun c6 h8 f7 x f8 b3 => sAi rfl (sO (oStore [(.bool n), (.slice o p q)] rfl rfl rfl sz25 rfl b3 Qn (fun c7 y f9 z => ?_))))))
   replace z : Blk c7 c6 25 [(.bool n), (.slice o p q)] := z
   refine sK b1 (wp_region_lit (sMs rfl (sMi rfl (sV (evLoadAB [(.bool n), (.slice o p q)] agg25 sz25 rfl z rfl) ?_))))
   have b4 := ((u.rx h).xr x).tr y
   have b5 := (c3.frm b4 q1)
   refine sV (evLoadAB [(.bool gm), (.slice Am nm cm)] agg25 sz25 rfl b5 rfl) ?_
   have I := x.rx y
   have c8 := (H.frmB I q3)
   have b6 := (G.xr x).tr y
   have c9 := (hm.frmB b6 q3)
   refine sO (oCall rfl call70 (division_Symmetric c8 c9 Qo Qo Qo) rfl ?_)
   rintro _ h9 ⟨a, c, d, f, g, A, rfl, J, B, b7, T, e0, e1⟩
   have g0 := J.size
   have ⟨e2, e3, e4⟩ := B.lkm
   refine sV (v := (.tuple #[(.agg #[(.bool a), (.slice c d f)]), (.int .i64 (A))])) (rfl) (sV (v := (.agg #[(.bool a), (.slice c d f)])) (rfl) (sV (v := (.int .i64 (A))) (rfl) (sV (evIx k underlying39 sz25 rfl rfl (k * 2)) ?_)))
   have K := I.xr J
   have b8 := (D.frm K q1)
   refine sO (oStore [(.bool a), (.slice c d f)] rfl rfl rfl sz25 rfl b8 (by rw [cellsI_len]; simp only [List.length_cons, List.length_nil]; exact lq) (fun d0 M g1 j => ?_))
   replace j := (cellsI_set (l := L ++ List.replicate (nf - k) RI.zero) (i := k) ⟨a, c, d, f, g⟩ (by exact lq)) ▸ j
   replace j : Blk d0 t 25 (cellsI ((L ++ [⟨a, c, d, f, g⟩]) ++ List.replicate (nf - (k + 1)) RI.zero)) := (fillI_set hL Qo : (L ++ List.replicate (nf - k) RI.zero).set k ⟨a, c, d, f, g⟩ = (L ++ [⟨a, c, d, f, g⟩]) ++ List.replicate (nf - (k + 1)) RI.zero) ▸ j
   refine sDone (bN (xN (b0 _ _ (wp_region_lit (sV (evAdd (((k : Int)) + 1) rfl rfl wI) (sMi rfl (sDone ?_)))))))
   have N := K.tr M
   have d1 := (hA.frmB N q3)
   have d2 := (B.frmB M q3)
   refine again (nf - (k + 1)) Qo ⟨(k + 1), (L ++ [⟨a, c, d, f, g⟩]), rfl, rfl, rfl, rfl, rfl, cI, (Frm.mono (h.tr N) q4), ?_, ?_, ?_, ?_, ?_, ?_⟩
   ·exact j
   ·omega
   ·simp [hL]
   ·exact AllN.snoc d1 (NatR.sub d2 q5) (by (try dsimp only); omega)
   ·exact zs_snoc hz (by show zval _ _ = _; rw [b7, b2])
   ·exact AllC.snoc hC T
  ·refine sV (evLss false rfl rfl (dF F)) (sK E (wp_seq_k fun i0 g3 => cF rfl (wp_exit (xE (xE (bE (xN (a2 _ _ (rS fun i1 b9 => sMs rfl ?_)))))))))
   have d3 : PolyR Y (fun b => t ≤ b) (some ⟨t, 0, none⟩) nf nf (L ++ List.replicate (nf - k) RI.zero) (nm + 2) := PolyR.of_blk D (AllN.app (AllN.sub hA q5) (AllN.zeros _)) (by (try dsimp only); omega) (by exact lq) (by omega) (by unfold CapMax; omega)
   refine sO (oCall rfl call97 (unipoly_Normal d3 Qo Qo) rfl ?_)
   rintro _ i2 ⟨r, s, U, rfl, O, P, C, Q, e5, e6, c0, e7, V⟩
   have g4 := O.size
   have d4 : Y.heap.size ≤ r := P; have d5 := C.lt
   refine sAs rfl (sK b9 (wp_ret (ret1 (.slice (some ⟨r, 0, none⟩) s s) results68 (resT rfl) ?_)))
   have c1 := ((W.trans u).rx h).xr O
   exact ⟨r, s, U, rfl, (Frm.mono c1 q4), (by show _ ≤ _; omega), C, (AllN.le (AllN.sub Q q5) (by omega)), (by exact lq), (by omega), (by rw [c0, show nf - k = 0 by omega, List.replicate_zero, List.append_nil, symz_range hz (by rw [zlen]; omega)]; rfl), (by omega), V⟩
theorem hensel_reduce {w : World} {Sf : Nat → Prop} {Af : Option Addr} {nf cf Mf : Nat} {lf : List RI} {gm : Bool} {Sm : Nat → Prop} {Am : Option Addr} {nm cm : Nat} {dm : List Nat} (hf : PolyR w Sf Af nf cf lf Mf) (hm : NatR w Sm Am nm cm dm) (hnf : nf ≤ 65536) (hMf : Mf ≤ 268435456) (hnm : nm ≤ 16777216) (hm0 : zval gm dm ≠ 0) : Calls Tryz.prog 68 #[(.slice Af nf cf), (.agg #[(.bool gm), (.slice Am nm cm)])] w (Ret fun v w' => ∃ (Ar : Option Addr) (nr : Nat) (cr : Nat) (lr : List RI), v = (.slice Ar nr cr) ∧ Ext w w' ∧ PolyR w' (fun b => w.heap.size ≤ b) Ar nr cr lr (nm + 2) ∧ (zs lr = redZ (zval gm dm).natAbs (zs lf)) ∧ (nr ≤ nf) ∧ (AllC lr)) := by
 exact Ret.mono (hensel_reduce_own hf hm hnf hMf hnm hm0) fun v w' ⟨q, n, l, e0, hE, hg, hB, hA, hk, hm9, e1, le, cn⟩ => ⟨_, _, _, l, e0, hE, PolyR.of_blk hB (AllN.sub hA fun b _ hb => Nat.le_of_lt (Nat.lt_of_le_of_lt hg hb)) hg hk (Nat.le_refl _) (by unfold CapMax; omega), e1, le, cn⟩
theorem hensel_Reduce {w : World} {Sf : Nat → Prop} {Af : Option Addr} {nf cf Mf : Nat} {lf : List RI} {gm : Bool} {Sm : Nat → Prop} {Am : Option Addr} {nm cm : Nat} {dm : List Nat} (hf : PolyR w Sf Af nf cf lf Mf) (hm : NatR w Sm Am nm cm dm) (hnf : nf ≤ 65536) (hMf : Mf ≤ 268435456) (hnm : nm ≤ 16777216) : Calls Tryz.prog 27 #[(.slice Af nf cf), (.agg #[(.bool gm), (.slice Am nm cm)])] w (Ret fun v w' => ∃ (Ar : Option Addr) (nr : Nat) (cr : Nat) (lr : List RI) (xo : Int), v = (.tuple #[(.slice Ar nr cr), (.int .i64 (xo))]) ∧ Ext w w' ∧ PolyR w' (fun b => w.heap.size ≤ b) Ar nr cr lr (nm + 2) ∧ (zval gm dm = 0 → xo = 2 ∧ nr = 0) ∧ (zval gm dm ≠ 0 → xo = 0 ∧ zs lr = redZ (zval gm dm).natAbs (zs lf)) ∧ (nr ≤ nf) ∧ (AllC lr)) := by
 have ⟨kf, jf, mf⟩ := hf.lkm
 replace hf := hf.low
 have ⟨lm, km, mm⟩ := hm.lkm
 replace hm := hm.low
 refine enter func27 rfl ntmps27 rfl (rS fun R A => sO (oBox [(.bool gm), (.slice Am nm cm)] rfl rfl (fun S T K g L o => sAs rfl (sAi rfl (sK A (wp_seq_k fun U B => rS fun V p => sV (evLoadAB [(.bool gm), (.slice Am nm cm)] agg25 sz25 rfl o rfl) ?_))))))
 have q := (hm.ext g)
 refine sO (oCall rfl call29 (integer_Sign q) rfl ?_)
 rintro _ M ⟨l, rfl, a, r⟩
 have I := a.size
 have N := sgn_rng r
 by_cases i : l = 0
 ·refine sV (evEql true rfl rfl (dT i)) (sK p (cT rfl (rS fun O s => sAs rfl (sAi rfl (sK s (wp_ret (xR (ret2 (.slice none 0 0) (.int .i64 (2)) results27 (resT rfl) (resT rfl) ?_))))))))
  have t := g.trans a
  exact ⟨none, 0, 0, [], (2), rfl, t, PolyR.nil, (fun _ => ⟨rfl, rfl⟩), (fun h => by omega), Qo, AllC.nil⟩
 ·refine sV (evEql false rfl rfl (dF i)) (sK p (cF rfl (wp_skip (xN (B _ _ (rS fun P u => sMs rfl ?_))))))
  have x := (o.ext a)
  refine sV (evLoadAB [(.bool gm), (.slice Am nm cm)] agg25 sz25 rfl x rfl) ?_
  have j := g.trans a
  have C := (hf.ext j)
  have D := (q.ext a)
  refine sO (oCall rfl call68 (hensel_reduce C D Qo Qo Qo Qo) rfl ?_)
  rintro _ Q ⟨c, d, e, m, rfl, k, f, y, E, n⟩
  have J := k.size
  have ⟨F, G, H⟩ := f.lkm
  refine sAs rfl (sAi rfl (sK u (wp_ret (ret2 (.slice c d e) (.int .i64 (0)) results27 (resT rfl) (resT rfl) ?_))))
  have z := j.trans k
  exact ⟨c, d, e, m, (0), rfl, z, (PolyR.le (PolyR.sub f q5) Qo), (fun h => by omega), (fun _ => ⟨rfl, y⟩), Qo, n⟩
end Go.Proofs.YtneolcopompkaaaGreatDoor
