/-
  Walks of package hensel: powers, products of lists.
-/
import Derived.Test.YtneolcopompkaaaGreatDoorHen2
import Derived.Test.YtneolcopompkaaaGreatDoorLibB
namespace Go.Proofs.YtneolcopompkaaaGreatDoor
open Go.RowKit Go.Gx Tryz
theorem hensel_power {w : World} {xp : Nat} {xn : Int} (bp : xp < 4294967296) (hxn : 0 ≤ xn ∧ xn ≤ 64) : Calls Tryz.prog 60 #[(.int .u32 xp), (.int .i64 (xn))] w (Ret fun v w' => ∃ (gr : Bool) (Ar : Option Addr) (nr : Nat) (cr : Nat) (dr : List Nat), v = (.agg #[(.bool gr), (.slice Ar nr cr)]) ∧ Ext w w' ∧ NatR w' (fun b => w.heap.size ≤ b) Ar nr cr dr ∧ (zval gr dr = (xp : Int) ^ xn.toNat) ∧ (ICan gr dr) ∧ (nr ≤ 33554432)) := by
 refine enter func60 rfl ntmps60 rfl (rS fun K1 E => sO (oAlloc [(.bool false), (.slice none 0 0)] zero25 rfl (fun g2 w3 b5 F b6 G => sK E (rS fun K8 H => sMi rfl (sV (evConv ((xp : Int)) underlying26 underlying2 rfl (wI64 Qo)) (sO (oBuildSlice [(.int .i64 xp)] [[(.int .i64 xp)]] underlying82 inf2 rfl rfl rfl rfl rfl (fun I J a9 q b0 h => ?_))))))))
 replace h : Blk J I 2 [(.int .i64 xp)] := h
 refine sO (oCall rfl call17 (unipoly_Of (IntsR.of_blk (S := fun b => b = I) (n := 1) (c := 1) (xs := [(xp : Int)]) h rfl (by intro x hx; simp only [List.mem_cons, List.not_mem_nil, or_false] at hx; omega) rfl (Nat.le_refl _) (by decide)) (by omega)) rfl ?_)
 rintro _ b7 ⟨M, N, O, P, rfl, i, m, y, Q, R⟩
 have b1 := i.size
 have ⟨T, U, V⟩ := m.lkm
 refine sMi rfl (sO (oCall rfl call98 (unipoly_Pow m Qo Qo Qo) rfl ?_))
 rintro _ b8 ⟨W, X, Y, s, rfl, j, o, z, Z, a0⟩
 have b2 := j.size
 have ⟨a1, a2, a3⟩ := o.lkm
 refine sO (oCall rfl call41 (unipoly_Lead o Qo Qo) rfl ?_)
 rintro _ b9 ⟨d, e, f, g, t, rfl, k, p, A, u, a4⟩
 have b3 := k.size
 have ⟨a5, a6, a7⟩ := p.lkm
 have B := ((q.trans i).trans j).trans k
 have C := (G.ext B)
 refine sO (oStore [(.bool d), (.slice e f g)] rfl rfl rfl sz25 rfl C Qn (fun K r b4 l => ?_))
 replace l : Blk K g2 25 [(.bool d), (.slice e f g)] := l
 refine sK H (wp_ret (ret1 (.agg #[(.bool d), (.slice e f g)]) results60 (resB [(.bool d), (.slice e f g)] agg25 sz25 rfl l) ?_))
 have L := (p.frmB r q3)
 have D := ((((F.trans q).trans i).trans j).trans k).rx r
 exact ⟨d, e, f, g, t, rfl, (Frm.mono D q4), (NatR.sub L q5), (by rw [A]; show ldP (zs s) = _; rw [ld_pow1 (a := (xp : Int)) (n := xn.toNat) (by rw [z, y]; exact pow_lit)]), u, (by omega)⟩
theorem hensel_isFactorization {w : World} {Sf : Nat → Prop} {Af : Option Addr} {nf cf Mf : Nat} {lf : List RI} {Sl : Nat → Prop} {Al : Option Addr} {nl cl Ml : Nat} {fl : List PE} (hf : PolyR w Sf Af nf cf lf Mf) (hl : PolysR w Sl Al nl cl fl Ml) (hnf : nf ≤ 512) (hMf : Mf ≤ 65536) (hnl : nl ≤ 8) (hMl : Ml ≤ 65536) (hle : ∀ x ∈ fl, x.n ≤ 64) : Calls Tryz.prog 59 #[(.slice Af nf cf), (.slice Al nl cl)] w (Ret fun v w' => ∃ (gr : Bool), v = (.bool gr) ∧ Ext w w' ∧ (gr = decide (trimZ (zs lf) = trimZ (foldMul [ldP (zs lf)] (fl.map fun f => zs f.l))))) := by
 have ⟨kf, jf, mf⟩ := hf.lkm
 replace hf := hf.low
 have ⟨kl, jl, ml⟩ := hl.lkm; replace hl := hl.low
 refine enter func59 rfl ntmps59 rfl (rS fun K1 a1 => sAb rfl (sK a1 (rS fun K2 a2 => sMs rfl (sO (oCall rfl call41 (unipoly_Lead hf Qo Qo) rfl ?_)))))
 rintro _ w4 ⟨a, c, d, g, t, rfl, u, y, a3, b6, b7⟩
 have d2 := u.size
 have ⟨b8, b9, c0⟩ := y.lkm
 have hld : zval a t = ldP (zs lf) := a3
 refine sO (oBuildSlice [(.agg #[(.bool a), (.slice c d g)])] [[(.bool a), (.slice c d g)]] underlying39 inf25 rfl rfl rfl rfl rfl (fun g8 J c1 o c2 h => ?_))
 replace h : Blk J g8 25 [(.bool a), (.slice c d g)] := h
 have a5 := (y.ext o)
 have a6 := PolyR.one (S' := fun b => b < J.heap.size) (M := Mf) h a5 (fun b hb _ => hb) h.lt Qo
 refine sAs rfl (sK a2 (wp_seq_k fun d3 K => rS fun d4 L => sMs rfl (sV (evLen underlying43 rfl) (sMi rfl (sK L (wp_block ?_))))))
 refine lLoop (fun m e w_ => ∃ (i : Nat) (Ap : Option Addr) (np : Nat) (cp : Nat) (lp : List RI), m = nl - i ∧ e 0 = (.slice Af nf cf) ∧ e 5 = (.slice Ap np cp) ∧ e 11 = (.slice Al nl cl) ∧ e 12 = (.int .i64 nl) ∧ e 13 = (.int .i64 i) ∧ Frm (fun b => False) J w_ ∧ (i ≤ nl) ∧ (PolyR w_ (fun b => b < w_.heap.size) Ap np cp lp (Mf + 66200 * i)) ∧ (np ≤ 1 + 64 * i) ∧ (zs lp = foldMul [ldP (zs lf)] ((fl.take i).map fun f => zs f.l))) (nl - (0)) ?_ ?_
 ·refine ⟨(0), ((some ⟨g8, 0, none⟩)), (1), (1), ([⟨a, c, d, g, t⟩]), rfl, rfl, rfl, rfl, rfl, cI, (Frm.refl _ _), ?_, ?_, ?_, ?_⟩
  ·omega
  ·exact (PolyR.low a6).le Qo
  ·omega
  ·show [zval _ _] = _; rw [hld]; rfl
 ·rintro d5 d6 d7 ⟨i, Ap, np, cp, lp, c3, N, O, P, Q, R, j, hi, hp, hnp, hac⟩
  obtain ⟨d8, rfl⟩ := sq5 N O P Q R
  have c4 := j.size
  have ⟨kp, jp, mp⟩ := hp.lkm
  refine rS fun d9 z => ?_
  by_cases A : ((i : Int)) < ((nl : Int))
  ·refine sV (evLss true rfl rfl (dT A)) (sK z (wp_seq_k fun e0 S => cT rfl (wp_skip (xN (S _ _ (wp_seq_k fun e1 T => wp_block (rS fun e2 U => ?_)))))))
   have V := (u.trans o).trans j
   have I := (hl.ext V)
   obtain ⟨e3, a7, rfl⟩ := I.base Qo
   refine sV (evIx i underlying43 sz39 rfl rfl (a7 + i)) ?_
   obtain ⟨⟨c5, c6, c7, c8⟩, p, q, k, a9, b0⟩ := I.at_ (i := i) Qo
   dsimp only at q k; have ⟨q1_44, q2_44, q3_44⟩ := k.lkm
   have W := hle _ (List.mem_of_getElem? p); dsimp only at W
   refine sV (evLoad one39 rfl q) (sAs rfl (sK U (wp_region_lit (sMs rfl (sMs rfl (sO (oCall rfl call19 (unipoly_Mul hp k Qo Qo Qo Qo) rfl ?_)))))))
   rintro _ e4 ⟨E, F, G, H, rfl, B, r, X, b1, b2⟩
   have c9 := B.size
   have ⟨b3, b4, b5⟩ := r.lkm
   refine sAs rfl (sDone (bN (xN (T _ _ (wp_region_lit (sV (evAdd (((i : Int)) + 1) rfl rfl wI) (sMi rfl (sDone (again (nl - (i + 1)) Qo ⟨(i + 1), (E), (F), (G), (H), rfl, rfl, rfl, rfl, rfl, cI, (j.trans B), ?_, ?_, ?_, ?_⟩)))))))))
   ·omega
   ·exact (PolyR.low r).le Qo
   ·omega
   ·rw [foldMul_next p, ← hac, X]
  ·refine sV (evLss false rfl rfl (dF A)) (sK z (wp_seq_k fun e5 d0 => cF rfl (wp_exit (xE (xE (bE (xN (K _ _ (rS fun e6 Y => sMs rfl (sMs rfl ?_))))))))))
   have C := (u.trans o).trans j
   have a8 := (hf.ext C)
   refine sO (oCall rfl call25 (unipoly_Same a8 hp) rfl ?_)
   rintro _ e7 ⟨s, rfl, D, Z⟩
   have d1 := D.size
   refine sAb rfl (sK Y (wp_ret (ret1 (.bool s) results59 (resT rfl) ?_)))
   have a0 := C.trans D
   exact ⟨(s), rfl, a0, (by rw [Z, hac, List.take_of_length_le (by omega)])⟩
theorem hensel_Product {w : World} {Sl : Nat → Prop} {Al : Option Addr} {nl cl Ml : Nat} {fl : List PE} {gm : Bool} {Sm : Nat → Prop} {Am : Option Addr} {nm cm : Nat} {dm : List Nat} (hl : PolysR w Sl Al nl cl fl Ml) (hm : NatR w Sm Am nm cm dm) (hnl : nl ≤ 8) (hMl : Ml ≤ 65536) (hnm : nm ≤ 65536) (hle : ∀ x ∈ fl, x.n ≤ 64) : Calls Tryz.prog 28 #[(.slice Al nl cl), (.agg #[(.bool gm), (.slice Am nm cm)])] w (Ret fun v w' => ∃ (Ar : Option Addr) (nr : Nat) (cr : Nat) (lr : List RI) (xo : Int), v = (.tuple #[(.slice Ar nr cr), (.int .i64 (xo))]) ∧ Ext w w' ∧ PolyR w' (fun b => w.heap.size ≤ b) Ar nr cr lr (nm + 2) ∧ (zval gm dm = 0 → xo = 2 ∧ nr = 0) ∧ (zval gm dm ≠ 0 → xo = 0 ∧ zs lr = prodR (zval gm dm).natAbs (redZ (zval gm dm).natAbs [1]) (fl.map fun f => zs f.l)) ∧ (nr ≤ 1 + 64 * nl) ∧ (AllC lr)) := by
 have ⟨kl, jl, ml⟩ := hl.lkm; replace hl := hl.low
 have ⟨lm, km, mm⟩ := hm.lkm
 replace hm := hm.low
 refine enter func28 rfl ntmps28 rfl (rS fun K1 d4 => sO (oBox [(.bool gm), (.slice Am nm cm)] rfl rfl (fun g2 w3 j9 y k0 a1 => sAs rfl (sAi rfl (sK d4 (wp_seq_k fun K8 d5 => rS fun K9 a2 => sV (evLoadAB [(.bool gm), (.slice Am nm cm)] agg25 sz25 rfl a1 rfl) ?_))))))
 have a3 := (hm.ext y)
 refine sO (oCall rfl call29 (integer_Sign a3) rfl ?_)
 rintro _ k1 ⟨N, rfl, j, a8⟩
 have i1 := j.size
 have k2 := sgn_rng a8
 by_cases G : N = 0
 ·refine sV (evEql true rfl rfl (dT G)) (sK a2 (cT rfl (rS fun k3 a9 => sAs rfl (sAi rfl (sK a9 (wp_ret (xR (ret2 (.slice none 0 0) (.int .i64 (2)) results28 (resT rfl) (resT rfl) ?_))))))))
  have b0 := y.trans j
  exact ⟨none, 0, 0, [], (2), rfl, b0, PolyR.nil, (fun _ => ⟨rfl, rfl⟩), (fun h => by omega), Qo, AllC.nil⟩
 ·refine sV (evEql false rfl rfl (dF G)) (sK a2 (cF rfl (wp_skip (xN (d5 _ _ (wp_seq_k fun k4 b1 => dBegin (fun _ => False) mixed (fun k5 s i2 => ?_)))))))
  have H := j.trans s
  have I := (a1.ext H)
  refine dV 2 rfl (fun _ hf => evLoadAB [(.bool gm), (.slice Am nm cm)] agg25 sz25 rfl (I.ext hf) rfl) (dOp 0 rfl rfl (by kernel_rfl) (oBuildSlice [(.int .i64 (1))] [[(.int .i64 (1))]] underlying82 inf2 rfl rfl rfl rfl rfl (fun a4 d6 i3 k i4 t => ⟨(Frm.of_ext k), ?_⟩)))
  replace t : Blk d6 a4 2 [(.int .i64 (1))] := t
  refine dOp 1 rfl rfl (by kernel_rfl) (oCall rfl call17 (unipoly_Of (IntsR.of_blk (S := fun b => b = a4) (n := 1) (c := 1) (xs := [1]) t rfl (by decide) rfl (Nat.le_refl _) (by decide)) Qo) rfl ?_)
  rintro _ k6 ⟨e2, e3, e4, e5, rfl, a, z, b2, e6, e7⟩
  refine ⟨(Frm.of_ext a), ?_⟩
  have i5 := a.size
  have ⟨e8, e9, f0⟩ := z.lkm
  have b3 := (H.trans k).trans a
  have a5 := (a3.ext b3)
  refine dOp 3 rfl rfl (by kernel_rfl) (oCall rfl call68 (hensel_reduce z a5 Qo Qo Qo Qo) rfl ?_)
  rintro _ d7 ⟨O, P, Q, R, rfl, d, A, b4, f1, T⟩
  refine ⟨(Frm.of_ext d), ?_⟩
  have i6 := d.size
  have ⟨f2, f3, f4⟩ := A.lkm
  refine dAs 4 rfl rfl (dDone (by kernel_rfl) (xN (b1 _ _ (wp_seq_k fun k7 b5 => rS fun k8 b6 => sMs rfl (sV (evLen underlying43 rfl) (sMi rfl (sK b6 (wp_block ?_))))))))
  refine lLoop (fun m e w_ => ∃ (i : Nat) (Ap : Option Addr) (np : Nat) (cp : Nat) (lp : List RI), m = nl - i ∧ e 3 = (.pointer (some ⟨g2, 0, none⟩)) ∧ e 6 = (.slice Ap np cp) ∧ e 16 = (.slice Al nl cl) ∧ e 17 = (.int .i64 nl) ∧ e 18 = (.int .i64 i) ∧ Frm (fun b => False) d7 w_ ∧ (i ≤ nl) ∧ (PolyR w_ (fun b => w.heap.size ≤ b) Ap np cp lp (nm + 2)) ∧ (np ≤ 1 + 64 * i) ∧ (AllC lp) ∧ (zs lp = prodR (zval gm dm).natAbs (redZ (zval gm dm).natAbs [1]) ((fl.take i).map fun f => zs f.l))) (nl - (0)) ?_ ?_
  ·refine ⟨(0), (O), (P), (Q), (R), rfl, rfl, rfl, rfl, rfl, cI, (Frm.refl _ _), ?_, ?_, ?_, ?_, ?_⟩
   ·omega
   ·exact (PolyR.sub A q5).le Qo
   ·omega
   ·exact T
   ·rw [b4, b2, redZ_trimL]; rfl
  ·rintro k9 l0 l1 ⟨i, Ap, np, cp, lp, i7, b7, b8, b9, c0, c1, g, hi, hp, hnp, hC, hac⟩
   obtain ⟨l2, rfl⟩ := sq5 b7 b8 b9 c0 c1
   have i8 := g.size
   have ⟨kp, jp, mp⟩ := hp.lkm
   refine rS fun l3 J => ?_
   by_cases K : ((i : Int)) < ((nl : Int))
   ·refine sV (evLss true rfl rfl (dT K)) (sK J (wp_seq_k fun l4 c2 => cT rfl (wp_skip (xN (c2 _ _ (wp_seq_k fun l5 c3 => wp_block (rS fun l6 c4 => ?_)))))))
    have c5 := (((((y.trans j).trans s).trans k).trans a).trans d).trans g
    have a6 := (hl.ext c5)
    obtain ⟨l7, d8, rfl⟩ := a6.base Qo
    refine sV (evIx i underlying43 sz39 rfl rfl (d8 + i)) ?_
    obtain ⟨⟨i9, j0, j1, j2⟩, B, C, o, f5, f6⟩ := a6.at_ (i := i) Qo
    dsimp only at C o; have ⟨q1_69, q2_69, q3_69⟩ := o.lkm
    have c6 := hle _ (List.mem_of_getElem? B); dsimp only at c6
    refine sV (evLoad one39 rfl C) (sAs rfl (sK c4 (dBegin (fun _ => False) mixed (fun l8 p j3 => dMs 0 rfl rfl (dMs 1 rfl rfl ?_)))))
    have c7 := (((k.trans a).trans d).trans g).trans p
    have L := (I.ext c7)
    refine dV 2 rfl (fun _ hf => evLoadAB [(.bool gm), (.slice Am nm cm)] agg25 sz25 rfl (L.ext hf) rfl) (dV 5 rfl (fun _ hf => evLoadAB [(.bool gm), (.slice Am nm cm)] agg25 sz25 rfl (L.ext hf) rfl) ?_)
    have d9 := (o.ext p)
    have c8 := (d.trans g).trans p
    have a7 := (a5.ext c8)
    refine dOp 3 rfl rfl (by kernel_rfl) (oCall rfl call68 (hensel_reduce d9 a7 Qo Qo Qo Qo) rfl ?_)
    rintro _ l9 ⟨f7, f8, f9, g0, rfl, q, D, c9, g1, g3⟩
    refine ⟨(Frm.of_ext q), ?_⟩
    have j4 := q.size
    have ⟨g4, g5, g6⟩ := D.lkm
    have M := p.trans q
    have e0 := (hp.ext M)
    refine dOp 4 rfl rfl (by kernel_rfl) (oCall rfl call19 (unipoly_Mul e0 D Qo Qo Qo Qo) rfl ?_)
    rintro _ m0 ⟨g7, g8, g9, h0, rfl, r, E, d0, h1, h2⟩
    refine ⟨(Frm.of_ext r), ?_⟩
    have j5 := r.size
    have ⟨h3, h4, h5⟩ := E.lkm
    have d1 := q.trans r
    have e1 := (a7.ext d1)
    refine dOp 6 rfl rfl (by kernel_rfl) (oCall rfl call68 (hensel_reduce E e1 Qo Qo Qo Qo) rfl ?_)
    rintro _ m1 ⟨U, V, W, X, rfl, u, F, d2, h6, Y⟩
    refine ⟨(Frm.of_ext u), ?_⟩
    have j6 := u.size
    have ⟨h7, h8, h9⟩ := F.lkm
    refine dAs 7 rfl rfl (dDone (by kernel_rfl) (bN (xN (c3 _ _ (wp_region_lit (sV (evAdd (((i : Int)) + 1) rfl rfl wI) (sMi rfl (sDone ?_))))))))
    have d3 := (M.trans r).trans u
    refine again (nl - (i + 1)) Qo ⟨(i + 1), (U), (V), (W), (X), rfl, rfl, rfl, rfl, rfl, cI, (g.trans d3), ?_, ?_, ?_, ?_, ?_⟩
    ·omega
    ·exact (PolyR.sub F q5).le Qo
    ·omega
    ·exact Y
    ·rw [prodR_next B, ← hac, d2, d0, c9]
   ·refine sV (evLss false rfl rfl (dF K)) (sK J (wp_seq_k fun m2 j7 => cF rfl (wp_exit (xE (xE (bE (xN (b5 _ _ (rS fun j8 Z => sMs rfl (sAs rfl (sAi rfl (sK Z (wp_ret (ret2 (.slice Ap np cp) (.int .i64 (0)) results28 (resT rfl) (resT rfl) ?_))))))))))))))
    have a0 := (((((y.trans j).trans s).trans k).trans a).trans d).trans g
    exact ⟨Ap, np, cp, lp, (0), rfl, a0, (PolyR.le (PolyR.sub hp q5) (by omega)), (fun h => by omega), (fun _ => ⟨rfl, by rw [hac, List.take_of_length_le (by omega)]⟩), (by omega), hC⟩
end Go.Proofs.YtneolcopompkaaaGreatDoor
