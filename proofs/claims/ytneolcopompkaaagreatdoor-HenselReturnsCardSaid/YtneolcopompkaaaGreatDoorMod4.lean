/-
  Walks of package modpoly: cofactors, coefficients around 0.
-/
import Derived.Test.YtneolcopompkaaaGreatDoorMod3
namespace Go.Proofs.YtneolcopompkaaaGreatDoor
open Go.RowKit Go.Gx Tryz
set_option maxHeartbeats 1000000 in
theorem modpoly_cofactor {w : World} {Sf : Nat → Prop} {Af : Option Addr} {nf cf : Nat} {df : List Nat} {Sg : Nat → Prop} {Ag : Option Addr} {ng cg : Nat} {dg : List Nat} {xp : Nat} (hf : NatR w Sf Af nf cf df) (hg : NatR w Sg Ag ng cg dg) (bp : xp < 4294967296) (hnf : nf ≤ 262144) (hng : ng ≤ 262144) (hp : xp = 2 ∨ xp = 3 ∨ xp = 5 ∨ xp = 7 ∨ xp = 11 ∨ xp = 13) (hcf : CanP xp df) (hcg : CanP xp dg) (hnz : 0 < nf + ng) : Calls Tryz.prog 122 #[(.slice Af nf cf), (.slice Ag ng cg), (.int .u32 xp)] w (Ret fun v w' => ∃ (Ar : Option Addr) (nr : Nat) (cr : Nat) (dr : List Nat), v = (.slice Ar nr cr) ∧ Ext w w' ∧ NatR w' (fun b => w.heap.size ≤ b) Ar nr cr dr ∧ (dr = cofP xp df dg) ∧ (nr ≤ nf + ng + 1) ∧ (CanP xp dr)) := by
 have ⟨lf, kf, mf⟩ := hf.lkm
 replace hf := hf.low
 have ⟨lg, kg, mg⟩ := hg.lkm
 replace hg := hg.low
 refine enter func122 rfl ntmps122 rfl ?_
 have hpr := prime4N hp
 refine rS fun K1 b1 => sAs rfl (sK b1 (rS fun K2 b2 => sO (oBuildSlice [(.int .u32 (1))] [[(.int .u32 (1))]] underlying46 inf26 rfl rfl rfl rfl rfl (fun I U g1 A g2 B => ?_))))
 replace B : Blk U I 26 [(.int .u32 (1))] := B
 refine sAs rfl (sAs rfl (sK b2 (wp_seq_k fun K9 b3 => wp_block ?_)))
 have b4 := (hf.ext A)
 have b5 := (hg.ext A)
 have b6 : NatR U (fun b => b = I) (some ⟨I, 0, none⟩) 1 1 ([1]) := NatR.of_blk B rfl (by decide) (by exact lq) Qo (by unfold CapMax; omega)
 refine lLoop (fun m e w_ => ∃ (Aa : Option Addr) (na : Nat) (ca : Nat) (da : List Nat) (Ab : Option Addr) (nb : Nat) (cb : Nat) (db : List Nat) (Au : Option Addr) (nu : Nat) (cu : Nat) (du : List Nat) (Av : Option Addr) (nv : Nat) (cv : Nat) (dv : List Nat), m = nb ∧ e 0 = (.slice Aa na ca) ∧ e 1 = (.slice Ab nb cb) ∧ e 2 = (.int .u32 xp) ∧ e 7 = (.slice Au nu cu) ∧ e 8 = (.slice Av nv cv) ∧ Frm (fun b => False) U w_ ∧ (NatR w_ (fun b => b < w_.heap.size) Aa na ca da) ∧ (NatR w_ (fun b => b < w_.heap.size) Ab nb cb db) ∧ (NatR w_ (fun b => b < w_.heap.size) Au nu cu du) ∧ (NatR w_ (fun b => b < w_.heap.size) Av nv cv dv) ∧ (CanP xp da) ∧ (CanP xp db) ∧ (na ≤ 262144 ∧ nb ≤ 262144 ∧ 0 < na + nb) ∧ (nu + nb ≤ nf + ng + 1 ∧ nv + na ≤ nf + ng + 1 ∧ (nb ≤ na ∨ nv = 0)) ∧ (cofGo xp nb da db du dv = cofP xp df dg)) ((ng)) ?_ ?_
 ·refine ⟨(Af), (nf), (cf), (df), (Ag), (ng), (cg), (dg), ((some ⟨I, 0, none⟩)), (1), (1), ([1]), (none), (0), (0), ([]), rfl, rfl, rfl, rfl, rfl, rfl, (Frm.refl _ _), ?_, ?_, ?_, ?_, ?_, ?_, ?_, ?_, ?_⟩
  ·exact NatR.low b4
  ·exact NatR.low b5
  ·exact NatR.low b6
  ·exact NatR.nil
  ·exact hcf
  ·exact hcg
  ·omega
  ·omega
  ·unfold cofP; rw [lg]
 ·rintro g4 g5 g6 ⟨Aa, na, ca, da, Ab, nb, cb, db, Au, nu, cu, du, Av, nv, cv, dv, f2, V, W, X, Y, Z, g, ha, hb, hu, hv, hca, hcb, hnn, hUV, hcof⟩
  obtain ⟨g7, rfl⟩ := sq5 V W X Y Z
  have f3 := g.size
  have ⟨la, ka, ma⟩ := ha.lkm; have ⟨lb, kb, mb⟩ := hb.lkm; have ⟨lu, ku, mu⟩ := hu.lkm; have ⟨lv, kv, mv⟩ := hv.lkm
  refine wp_seq_k fun g8 a0 => rS fun g9 C => sMs rfl (sV (evLen underlying46 rfl) ?_)
  by_cases D : ((nb : Int)) > 0
  ·refine sV (evGtr true rfl rfl (dT D)) (sK C (cT rfl (wp_skip (xN (a0 _ _ (wp_block (rS fun h0 a1 => sMs rfl (sMs rfl (sMi rfl (sO (oCall rfl call117 (modpoly_divide ha hb (xp := xp) Qo Qo Qo hp hca hcb Qo) rfl ?_)))))))))))
   rintro _ h1 ⟨l, n, o, c4, c, a, d, J, rfl, h, p, q, a2, c5, K, c6, L, M, c7⟩
   have f4 := h.size
   have ⟨L, c8, c9⟩ := p.lkm
   have ⟨M, d0, d1⟩ := q.lkm
   refine sV (v := (.tuple #[(.slice l n o), (.slice c a d)])) (rfl) (sV (v := (.slice l n o)) (rfl) (sV (v := (.slice c a d)) (rfl) (sAs rfl (sAs rfl (sK a1 (rS fun h2 a3 => sMs rfl (sMs rfl (sAs rfl (sAs rfl (sK a3 (wp_region_lit (sMs rfl (sMs rfl (sMs rfl (sMs rfl (sMi rfl ?_))))))))))))))))
   have T := (hv.ext h)
   refine sO (oCall rfl call57 (modpoly_Mul p T (xm := xp) Qo Qo Qo Qo) rfl ?_)
   rintro _ h3 ⟨d2, d3, d4, d5, rfl, i, r, a4, d6, d7⟩
   have f5 := i.size
   have ⟨d8, d9, e0⟩ := r.lkm
   refine sMi rfl ?_
   have E := h.trans i
   have b7 := (hu.ext E)
   refine sO (oCall rfl call115 (modpoly_Sub b7 r (xm := xp) Qo Qo Qo Qo) rfl ?_)
   rintro _ h4 ⟨N, O, P, Q, rfl, j, s, a5, e1, e2⟩
   have f6 := j.size
   have ⟨e3, e4, e5⟩ := s.lkm
   refine sAs rfl (sAs rfl (sDone (bN ?_)))
   have F := E.trans j
   have b8 := (hb.ext F)
   have G := i.trans j
   have b9 := (q.ext G)
   have c0 := (T.ext G)
   refine again ((a)) Qo ⟨(Ab), (nb), (cb), (db), (c), (a), (d), (J), (Av), (nv), (cv), (dv), (N), (O), (P), (Q), rfl, rfl, rfl, rfl, rfl, rfl, (g.trans F), ?_, ?_, ?_, ?_, ?_, ?_, ?_, ?_, ?_⟩
   ·exact NatR.low b8
   ·exact NatR.low b9
   ·exact NatR.low c0
   ·exact NatR.low s
   ·exact hcb
   ·exact K
   ·omega
   ·omega
   ·exact cof_step hpr hca hcb Qo a2 a4 a5 hcof Qo Qo
  ·refine sV (evGtr false rfl rfl (dF D)) (sK C (cF rfl (wp_exit (xE (xE (bE (xN (b3 _ _ (rS fun h5 a6 => sMs rfl (sMs rfl (sV (evLen underlying46 rfl) (sV (evSub (((na : Int)) - 1) rfl rfl wI) ?_))))))))))))
   obtain ⟨h6, c1, rfl⟩ := ha.base Qo
   refine sV (evIx (na - 1) underlying46 sz26 rfl rfl (c1 + (na - 1))) ?_
   have f7 := ha.lt (na - 1)
   refine sV (evLoad one26 rfl (ha.cell (by omega))) (sMi rfl (sO (oCall rfl call118 (modular_Inverse (xa := da.getD (na - 1) 0) (by omega) (xm := xp) (by omega) (by omega) (by have h9 := monic_co hpr hca (by omega); rw [la] at h9; exact h9)) rfl ?_)))
   rintro _ h7 ⟨f, t, rfl, k, e6, f8, a7, e7⟩
   have f9 := k.size
   refine sV (v := (.tuple #[(.int .u32 f), (.int .i64 (t))])) (rfl) (sV (v := (.int .u32 f)) (rfl) (sV (v := (.int .i64 (t))) (rfl) (sAi rfl (sAi rfl (sK a6 (rS fun h8 a8 => sMs rfl (sMi rfl (sMi rfl ?_))))))))
   have c3 := (hu.ext k)
   refine sO (oCall rfl call40 (modpoly_Scale c3 (xc := f) Qo (xm := xp) Qo Qo Qo) rfl ?_)
   rintro _ i0 ⟨u, x, y, R, rfl, H, z, a9, e8, S⟩
   have g0 := H.size
   have ⟨e9, f0, f1⟩ := z.lkm
   refine sAs rfl (sK a8 (wp_ret (ret1 (.slice u x y) results122 (resT rfl) ?_)))
   have b0 := ((A.trans g).trans k).trans H
   exact ⟨u, x, y, R, rfl, b0, (NatR.sub z q5), (by rw [a9, a7, ← hcof, show nb = db.length by omega, cof_end (by omega)]; unfold leadP; rw [la]), (by omega), S⟩
set_option maxHeartbeats 2000000 in
theorem modpoly_Xgcd {w : World} {Sf : Nat → Prop} {Af : Option Addr} {nf cf : Nat} {df : List Nat} {Sg : Nat → Prop} {Ag : Option Addr} {ng cg : Nat} {dg : List Nat} {xp : Nat} (hf : NatR w Sf Af nf cf df) (hg : NatR w Sg Ag ng cg dg) (bp : xp < 4294967296) (hT : TabR w) (hnf : nf ≤ 65536) (hng : ng ≤ 65536) (hp : xp = 2 ∨ xp = 3 ∨ xp = 5 ∨ xp = 7 ∨ xp = 11 ∨ xp = 13) : Calls Tryz.prog 95 #[(.slice Af nf cf), (.slice Ag ng cg), (.int .u32 xp)] w (Ret fun v w' => ∃ (Ad : Option Addr) (nd : Nat) (cd : Nat) (dd : List Nat) (Au : Option Addr) (nu : Nat) (cu : Nat) (du : List Nat) (Ay : Option Addr) (ny : Nat) (cy : Nat) (dy : List Nat) (xo : Int), v = (.tuple #[(.slice Ad nd cd), (.slice Au nu cu), (.slice Ay ny cy), (.int .i64 (xo))]) ∧ Ext w w' ∧ NatR w' (fun b => w.heap.size ≤ b) Ad nd cd dd ∧ NatR w' (fun b => w.heap.size ≤ b) Au nu cu du ∧ NatR w' (fun b => w.heap.size ≤ b) Ay ny cy dy ∧ (xo = 0) ∧ (xgcdP xp (nrmP xp df) (nrmP xp dg) = (dd, du, dy)) ∧ (nu ≤ ng + 1)) := by
 have ltT := hT.lt0
 have ⟨lf, kf, mf⟩ := hf.lkm
 replace hf := hf.low
 have ⟨lg, kg, mg⟩ := hg.lkm
 replace hg := hg.low
 refine enter func95 rfl ntmps95 rfl ?_
 have hpr := prime4N hp
 refine rS fun K1 s8 => sAs rfl (sAs rfl (sAs rfl (sAi rfl (sK s8 (wp_seq_k fun K2 s9 => rS fun K3 t0 => sMi rfl (sO (oCall rfl call54 (modular_IsPrime (xn := xp) Qo hT (by assumption)) rfl ?_)))))))
 rintro _ w5 ⟨p2, rfl, g6, t1⟩
 have L9 := g6.size
 obtain rfl : p2 = true := t1
 refine sV (evNot _ rfl rfl) (sK t0 (cF rfl (wp_skip (xN (s9 _ _ (rS fun K8 t2 => sMs rfl (sMi rfl ?_)))))))
 have z := (hf.ext g6)
 refine sO (oCall rfl call77 (modpoly_Normal z (xm := xp) Qo Qo Qo) rfl ?_)
 rintro _ M0 ⟨k2, d, k3, n, rfl, g7, e3, A, B9, t⟩
 have H5 := g7.size
 have ⟨O, C0, C1⟩ := e3.lkm
 refine sMs rfl (sMi rfl ?_)
 have x := g6.trans g7
 have t3 := (hg.ext x)
 refine sO (oCall rfl call77 (modpoly_Normal t3 (xm := xp) Qo Qo Qo) rfl ?_)
 rintro _ M1 ⟨C2, a, C3, o, rfl, u, y, B, C4, k⟩
 have H6 := u.size
 have ⟨P, C5, C6⟩ := y.lkm
 refine sAs rfl (sAs rfl (sK t2 (rS fun M2 p3 => sMs rfl (sMs rfl (sMi rfl ?_)))))
 have a6 := (e3.ext u)
 refine sO (oCall rfl call103 (modpoly_gcd a6 y (xp := xp) Qo Qo Qo hp t k) rfl ?_)
 rintro _ M3 ⟨f, c, g, i, rfl, e, p, j, e4, C7⟩
 have H7 := e.size
 have ⟨C8, C9, D0⟩ := p.lkm
 have hne := fun h => gcd_ne hpr t k h; have hle := fun h => gcd_len hpr t k h; rw [← j] at hne hle
 refine sAs rfl (sK p3 (wp_seq_k fun M4 g8 => wp_block (rS fun M5 d6 => sMs rfl (sV (evLen underlying46 rfl) ?_))))
 by_cases g9 : ((a : Int)) = 0
 ·refine sV (evEql true rfl rfl (dT g9)) (sMb rfl (sEv (v := (.slice k2 d k3)) (rfl) rfl rfl (sEv (v := (.int .i64 d)) (evLen underlying46 rfl) rfl rfl ?_)))
  by_cases h0 : ((d : Int)) = 0
  ·refine sEv (v := (.bool true)) (evEql true rfl rfl (dT h0)) rfl rfl (sV (v := (.bool true)) (rfl) (sAb rfl (sK d6 (cT rfl (rS fun M6 p4 => sAs rfl (sAs rfl (sAs rfl (sAi rfl (sK p4 (wp_ret (bR (xR (ret4 (.slice none 0 0) (.slice none 0 0) (.slice none 0 0) (.int .i64 (0)) results95 (resT rfl) (resT rfl) (resT rfl) (resT rfl) ?_)))))))))))))
   have s : xgcdP xp n o = ([], [], []) := by exact xg1 Qo Qo
   have p5 := (x.trans u).trans e
   exact ⟨none, 0, 0, ([]), none, 0, 0, ([]), none, 0, 0, ([]), (0), rfl, p5, NatR.nil, NatR.nil, NatR.nil, rfl, (by rw [← A, ← B]; exact s), (by omega)⟩
  ·refine sEv (v := (.bool false)) (evEql false rfl rfl (dF h0)) rfl rfl (sV (v := (.bool false)) (rfl) (sAb rfl (sK d6 (cF rfl (rS fun M7 h1 => sMs rfl (sV (evLen underlying46 rfl) ?_))))))
   by_cases h2 : ((a : Int)) = 0
   ·refine sV (evEql true rfl rfl (dT h2)) (sAb rfl (sK h1 (cT rfl (rS fun M8 p6 => sMs rfl (sMs rfl (sV (evLen underlying46 rfl) (sV (evSub (((d : Int)) - 1) rfl rfl wI) ?_)))))))
    have h3 := (a6.ext e)
    obtain ⟨M9, t4, rfl⟩ := h3.base Qo
    refine sV (evIx (d - 1) underlying46 sz26 rfl rfl (t4 + (d - 1))) ?_
    have H8 := h3.lt (d - 1)
    refine sV (evLoad one26 rfl (h3.cell (by omega))) (sMi rfl (sO (oCall rfl call118 (modular_Inverse (xa := n.getD (d - 1) 0) (by omega) (xm := xp) (by omega) (by omega) (by have z := monic_co hpr t (by omega); rw [O] at z; exact z)) rfl ?_)))
    rintro _ N0 ⟨q, e5, rfl, d7, D1, H9, p7, D2⟩
    have I0 := d7.size
    refine sV (v := (.tuple #[(.int .u32 q), (.int .i64 (e5))])) (rfl) (sV (v := (.int .u32 q)) (rfl) (sV (v := (.int .i64 (e5))) (rfl) (sAi rfl (sAi rfl (sK p6 (rS fun N1 p8 => sMs rfl (sMi rfl (sO (oBuildSlice [(.int .u32 q)] [[(.int .u32 q)]] underlying46 inf26 rfl rfl rfl rfl rfl (fun a7 o7 I1 h4 I2 d8 => ?_))))))))))
    replace d8 : Blk o7 a7 26 [(.int .u32 q)] := d8
    refine sAs rfl (sAs rfl (sAs rfl (sAi rfl (sK p8 (wp_ret (bR (xR (ret4 (.slice f c g) (.slice (some ⟨a7, 0, none⟩) 1 1) (.slice none 0 0) (.int .i64 (0)) results95 (resT rfl) (resT rfl) (resT rfl) (resT rfl) ?_))))))))
    have s : xgcdP xp n o = (i, [q], []) := by rw [p7, xg2 (by omega) (by omega), ← j]; unfold leadP; rw [O]
    have p9 := d7.trans h4
    have t5 := (p.ext p9)
    have t6 : NatR o7 (fun b => b = a7) (some ⟨a7, 0, none⟩) 1 1 ([q]) := NatR.of_blk d8 rfl (by simp [BS]; omega) (by exact lq) (by omega) (by unfold CapMax; omega)
    have q0 := (((x.trans u).trans e).trans d7).trans h4
    exact ⟨f, c, g, i, (some ⟨a7, 0, none⟩), 1, 1, ([q]), none, 0, 0, ([]), (0), rfl, q0, (NatR.sub t5 q5), (NatR.sub t6 q5), NatR.nil, rfl, (by rw [← A, ← B]; exact s), (by omega)⟩
   ·refine sV (evEql false rfl rfl (dF h2)) (sAb rfl (sK h1 (cF rfl (rS fun N2 h5 => sMs rfl (sV (evLen underlying46 rfl) (sMs rfl (sV (evLen underlying46 rfl) ?_)))))))
    by_cases h6 : ((a : Int)) = ((c : Int))
    ·refine sV (evEql true rfl rfl (dT h6)) (sAb rfl (sK h5 (cT rfl (rS fun N3 q1 => sMs rfl (sMs rfl (sV (evLen underlying46 rfl) (sV (evSub (((a : Int)) - 1) rfl rfl wI) ?_)))))))
     have h7 := (y.ext e)
     obtain ⟨N4, t7, rfl⟩ := h7.base Qo
     refine sV (evIx (a - 1) underlying46 sz26 rfl rfl (t7 + (a - 1))) ?_
     have I3 := h7.lt (a - 1)
     refine sV (evLoad one26 rfl (h7.cell (by omega))) (sMi rfl (sO (oCall rfl call118 (modular_Inverse (xa := o.getD (a - 1) 0) (by omega) (xm := xp) (by omega) (by omega) (by have z := monic_co hpr k (by omega); rw [P] at z; exact z)) rfl ?_)))
     rintro _ N5 ⟨r, e6, rfl, d9, D3, I4, q2, D4⟩
     have I5 := d9.size
     refine sV (v := (.tuple #[(.int .u32 r), (.int .i64 (e6))])) (rfl) (sV (v := (.int .u32 r)) (rfl) (sV (v := (.int .i64 (e6))) (rfl) (sAi rfl (sAi rfl (sK q1 (rS fun N6 q3 => sMs rfl (sMi rfl (sO (oBuildSlice [(.int .u32 r)] [[(.int .u32 r)]] underlying46 inf26 rfl rfl rfl rfl rfl (fun a8 o8 I6 h8 I7 e0 => ?_))))))))))
     replace e0 : Blk o8 a8 26 [(.int .u32 r)] := e0
     refine sAs rfl (sAs rfl (sAs rfl (sAi rfl (sK q3 (wp_ret (bR (xR (ret4 (.slice f c g) (.slice none 0 0) (.slice (some ⟨a8, 0, none⟩) 1 1) (.int .i64 (0)) results95 (resT rfl) (resT rfl) (resT rfl) (resT rfl) ?_))))))))
     have s : xgcdP xp n o = (i, [], [r]) := by rw [q2, xg3 (by omega) (by rw [← j]; omega), ← j]; unfold leadP; rw [P]
     have q4 := d9.trans h8
     have t8 := (p.ext q4)
     have t9 : NatR o8 (fun b => b = a8) (some ⟨a8, 0, none⟩) 1 1 ([r]) := NatR.of_blk e0 rfl (by simp [BS]; omega) (by exact lq) (by omega) (by unfold CapMax; omega)
     have q6 := (((x.trans u).trans e).trans d9).trans h8
     exact ⟨f, c, g, i, none, 0, 0, ([]), (some ⟨a8, 0, none⟩), 1, 1, ([r]), (0), rfl, q6, (NatR.sub t8 q5), NatR.nil, (NatR.sub t9 q5), rfl, (by rw [← A, ← B]; exact s), (by omega)⟩
    ·refine sV (evEql false rfl rfl (dF h6)) (sAb rfl (sK h5 (cF rfl (wp_skip (bN (xN (g8 _ _ (rS fun N7 q7 => sMs rfl (sMs rfl (sMi rfl ?_))))))))))
     have o9 := (y.ext e)
     refine sO (oCall rfl call117 (modpoly_divide o9 p (xp := xp) Qo Qo Qo hp k e4 Qo) rfl ?_)
     rintro _ N8 ⟨e7, Z, e8, D5, e9, f0, f1, D6, rfl, T, f2, k4, q8, k5, D7, D8, k6, k7, k8⟩
     have I8 := T.size
     have ⟨k6, D9, E0⟩ := f2.lkm
     have ⟨k7, E1, E2⟩ := k4.lkm
     have u0 : 0 < Z := k8 (by have z := hle Qo; omega)
     refine sV (v := (.tuple #[(.slice e7 Z e8), (.slice e9 f0 f1)])) (rfl) (sV (v := (.slice e7 Z e8)) (rfl) (sV (v := (.slice e9 f0 f1)) (rfl) (sAs rfl (sAs rfl (sK q7 (rS fun N9 q9 => sMs rfl (sMs rfl (sMi rfl ?_))))))))
     have r0 := e.trans T
     have p0 := (a6.ext r0)
     have p1 := (o9.ext T)
     refine sO (oCall rfl call122 (modpoly_cofactor p0 p1 (xp := xp) Qo Qo Qo hp t k Qo) rfl ?_)
     rintro _ O0 ⟨E3, E4, E5, E6, rfl, U, f3, r1, E7, k9⟩
     have I9 := U.size
     have ⟨E8, E9, F0⟩ := f3.lkm
     refine sMs rfl (sMi rfl ?_)
     have u1 := (f2.ext U)
     refine sO (oCall rfl call113 (modpoly_remainder f3 u1 (xp := xp) Qo Qo Qo hp k9 k5 Qo) rfl ?_)
     rintro _ O1 ⟨f4, f5, f6, f7, rfl, a0, a1, r2, F1, F2, l0⟩
     have F3 := a0.size
     have ⟨l0, F4, F5⟩ := a1.lkm
     refine sAs rfl (sK q9 (rS fun J0 l1 => sMs rfl (sMs rfl (sMs rfl (sMi rfl ?_)))))
     have f8 := U.trans a0
     have r3 := (p0.ext f8)
     refine sO (oCall rfl call57 (modpoly_Mul a1 r3 (xm := xp) Qo Qo Qo Qo) rfl ?_)
     rintro _ J1 ⟨u2, u3, u4, u5, rfl, C, a9, l2, u6, u7⟩
     have F6 := C.size
     have ⟨u8, u9, v0⟩ := a9.lkm
     refine sMi rfl ?_
     have l3 := ((T.trans U).trans a0).trans C
     have i0 := (p.ext l3)
     refine sO (oCall rfl call115 (modpoly_Sub i0 a9 (xm := xp) Qo Qo Qo Qo) rfl ?_)
     rintro _ J2 ⟨v1, v2, v3, v4, rfl, D, b0, l4, v5, i1⟩
     have F7 := D.size
     have ⟨v6, v7, v8⟩ := b0.lkm
     refine sMs rfl (sMi rfl ?_)
     have l5 := (f8.trans C).trans D
     have r4 := (p1.ext l5)
     refine sO (oCall rfl call117 (modpoly_divide b0 r4 (xp := xp) Qo Qo Qo hp i1 k Qo) rfl ?_)
     rintro _ J3 ⟨E, F, G, b1, b2, b3, b4, v9, rfl, Q, b5, i2, l6, w0, w1, w2, i3, i4, w3⟩
     have F8 := Q.size
     have ⟨i3, w4, w6⟩ := b5.lkm
     have ⟨i4, w7, w8⟩ := i2.lkm
     refine sV (v := (.tuple #[(.slice E F G), (.slice b2 b3 b4)])) (rfl) (sV (v := (.slice E F G)) (rfl) (sV (v := (.slice b2 b3 b4)) (rfl) (sAs rfl (sK l1 (rS fun J4 l7 => sMs rfl (sMs rfl (sMs rfl (sAs rfl (sAs rfl (sAs rfl (sAi rfl (sK l7 (wp_ret (ret4 (.slice f c g) (.slice f4 f5 f6) (.slice E F G) (.int .i64 (0)) results95 (resT rfl) (resT rfl) (resT rfl) (resT rfl) ?_))))))))))))))
     have s : xgcdP xp n o = (i, f7, b1) := by rw [j]; exact xg4 (by omega) (by rw [← j]; omega) (by rw [← j]; exact q8) r1 r2 l2 (by rw [← j]; exact l4) l6
     have l8 := D.trans Q
     have r5 := (i0.ext l8)
     have l9 := (C.trans D).trans Q
     have r6 := (a1.ext l9)
     have m0 := (((((((x.trans u).trans e).trans T).trans U).trans a0).trans C).trans D).trans Q
     exact ⟨f, c, g, i, f4, f5, f6, f7, E, F, G, b1, (0), rfl, m0, (NatR.sub r5 q5), (NatR.sub r6 q5), (NatR.sub b5 q5), rfl, (by rw [← A, ← B]; exact s), (by omega)⟩
 ·refine sV (evEql false rfl rfl (dF g9)) (sMb rfl (sSkip rfl rfl (sSkip rfl rfl (sSkip rfl rfl (sV (v := (.bool false)) (rfl) (sAb rfl (sK d6 (cF rfl (rS fun J5 f9 => sMs rfl (sV (evLen underlying46 rfl) ?_))))))))))
  by_cases g0 : ((a : Int)) = 0
  ·refine sV (evEql true rfl rfl (dT g0)) (sAb rfl (sK f9 (cT rfl (rS fun J6 m1 => sMs rfl (sMs rfl (sV (evLen underlying46 rfl) (sV (evSub (((d : Int)) - 1) rfl rfl wI) ?_)))))))
   have e1 := (a6.ext e)
   obtain ⟨J7, r7, rfl⟩ := e1.base Qo
   refine sV (evIx (d - 1) underlying46 sz26 rfl rfl (r7 + (d - 1))) ?_
   have F9 := e1.lt (d - 1)
   refine sV (evLoad one26 rfl (e1.cell (by omega))) (sMi rfl (sO (oCall rfl call118 (modular_Inverse (xa := n.getD (d - 1) 0) (by omega) (xm := xp) (by omega) (by omega) (by have z := monic_co hpr t (by omega); rw [O] at z; exact z)) rfl ?_)))
   rintro _ J8 ⟨l, b6, rfl, a2, w9, G0, m2, x0⟩
   have G1 := a2.size
   refine sV (v := (.tuple #[(.int .u32 l), (.int .i64 (b6))])) (rfl) (sV (v := (.int .u32 l)) (rfl) (sV (v := (.int .i64 (b6))) (rfl) (sAi rfl (sAi rfl (sK m1 (rS fun J9 m3 => sMs rfl (sMi rfl (sO (oBuildSlice [(.int .u32 l)] [[(.int .u32 l)]] underlying46 inf26 rfl rfl rfl rfl rfl (fun V i5 G2 g1 G3 a3 => ?_))))))))))
   replace a3 : Blk i5 V 26 [(.int .u32 l)] := a3
   refine sAs rfl (sAs rfl (sAs rfl (sAi rfl (sK m3 (wp_ret (bR (xR (ret4 (.slice f c g) (.slice (some ⟨V, 0, none⟩) 1 1) (.slice none 0 0) (.int .i64 (0)) results95 (resT rfl) (resT rfl) (resT rfl) (resT rfl) ?_))))))))
   have s : xgcdP xp n o = (i, [l], []) := by rw [m2, xg2 (by omega) (by omega), ← j]; unfold leadP; rw [O]
   have m4 := a2.trans g1
   have r8 := (p.ext m4)
   have r9 : NatR i5 (fun b => b = V) (some ⟨V, 0, none⟩) 1 1 ([l]) := NatR.of_blk a3 rfl (by simp [BS]; omega) (by exact lq) (by omega) (by unfold CapMax; omega)
   have m5 := (((x.trans u).trans e).trans a2).trans g1
   exact ⟨f, c, g, i, (some ⟨V, 0, none⟩), 1, 1, ([l]), none, 0, 0, ([]), (0), rfl, m5, (NatR.sub r8 q5), (NatR.sub r9 q5), NatR.nil, rfl, (by rw [← A, ← B]; exact s), (by omega)⟩
  ·refine sV (evEql false rfl rfl (dF g0)) (sAb rfl (sK f9 (cF rfl (rS fun K0 g2 => sMs rfl (sV (evLen underlying46 rfl) (sMs rfl (sV (evLen underlying46 rfl) ?_)))))))
   by_cases g3 : ((a : Int)) = ((c : Int))
   ·refine sV (evEql true rfl rfl (dT g3)) (sAb rfl (sK g2 (cT rfl (rS fun K4 m6 => sMs rfl (sMs rfl (sV (evLen underlying46 rfl) (sV (evSub (((a : Int)) - 1) rfl rfl wI) ?_)))))))
    have e2 := (y.ext e)
    obtain ⟨K5, s0, rfl⟩ := e2.base Qo
    refine sV (evIx (a - 1) underlying46 sz26 rfl rfl (s0 + (a - 1))) ?_
    have G4 := e2.lt (a - 1)
    refine sV (evLoad one26 rfl (e2.cell (by omega))) (sMi rfl (sO (oCall rfl call118 (modular_Inverse (xa := o.getD (a - 1) 0) (by omega) (xm := xp) (by omega) (by omega) (by have z := monic_co hpr k (by omega); rw [P] at z; exact z)) rfl ?_)))
    rintro _ K6 ⟨m, b7, rfl, a4, x1, G5, m7, x2⟩
    have G6 := a4.size
    refine sV (v := (.tuple #[(.int .u32 m), (.int .i64 (b7))])) (rfl) (sV (v := (.int .u32 m)) (rfl) (sV (v := (.int .i64 (b7))) (rfl) (sAi rfl (sAi rfl (sK m6 (rS fun K7 m8 => sMs rfl (sMi rfl (sO (oBuildSlice [(.int .u32 m)] [[(.int .u32 m)]] underlying46 inf26 rfl rfl rfl rfl rfl (fun W i6 G7 g4 G8 a5 => ?_))))))))))
    replace a5 : Blk i6 W 26 [(.int .u32 m)] := a5
    refine sAs rfl (sAs rfl (sAs rfl (sAi rfl (sK m8 (wp_ret (bR (xR (ret4 (.slice f c g) (.slice none 0 0) (.slice (some ⟨W, 0, none⟩) 1 1) (.int .i64 (0)) results95 (resT rfl) (resT rfl) (resT rfl) (resT rfl) ?_))))))))
    have s : xgcdP xp n o = (i, [], [m]) := by rw [m7, xg3 (by omega) (by rw [← j]; omega), ← j]; unfold leadP; rw [P]
    have m9 := a4.trans g4
    have s1 := (p.ext m9)
    have s2 : NatR i6 (fun b => b = W) (some ⟨W, 0, none⟩) 1 1 ([m]) := NatR.of_blk a5 rfl (by simp [BS]; omega) (by exact lq) (by omega) (by unfold CapMax; omega)
    have n0 := (((x.trans u).trans e).trans a4).trans g4
    exact ⟨f, c, g, i, none, 0, 0, ([]), (some ⟨W, 0, none⟩), 1, 1, ([m]), (0), rfl, n0, (NatR.sub s1 q5), NatR.nil, (NatR.sub s2 q5), rfl, (by rw [← A, ← B]; exact s), (by omega)⟩
   ·refine sV (evEql false rfl rfl (dF g3)) (sAb rfl (sK g2 (cF rfl (wp_skip (bN (xN (g8 _ _ (rS fun K9 n1 => sMs rfl (sMs rfl (sMi rfl ?_))))))))))
    have i7 := (y.ext e)
    refine sO (oCall rfl call117 (modpoly_divide i7 p (xp := xp) Qo Qo Qo hp k e4 Qo) rfl ?_)
    rintro _ L0 ⟨b8, X, b9, x3, c0, c1, c2, x4, rfl, H, c3, i8, n2, i9, x5, x6, j0, j1, j2⟩
    have G9 := H.size
    have ⟨j0, x7, x8⟩ := c3.lkm
    have ⟨j1, x9, y0⟩ := i8.lkm
    have u0 : 0 < X := j2 (by have z := hle Qo; omega)
    refine sV (v := (.tuple #[(.slice b8 X b9), (.slice c0 c1 c2)])) (rfl) (sV (v := (.slice b8 X b9)) (rfl) (sV (v := (.slice c0 c1 c2)) (rfl) (sAs rfl (sAs rfl (sK n1 (rS fun L1 n3 => sMs rfl (sMs rfl (sMi rfl ?_))))))))
    have n4 := e.trans H
    have j3 := (a6.ext n4)
    have j4 := (i7.ext H)
    refine sO (oCall rfl call122 (modpoly_cofactor j3 j4 (xp := xp) Qo Qo Qo hp t k Qo) rfl ?_)
    rintro _ L2 ⟨y1, y2, y3, y4, rfl, I, c4, n5, y5, j5⟩
    have H0 := I.size
    have ⟨y6, y7, y8⟩ := c4.lkm
    refine sMs rfl (sMi rfl ?_)
    have s3 := (c3.ext I)
    refine sO (oCall rfl call113 (modpoly_remainder c4 s3 (xp := xp) Qo Qo Qo hp j5 i9 Qo) rfl ?_)
    rintro _ L3 ⟨c5, c6, c7, c8, rfl, R, Y, n6, y9, z0, j6⟩
    have H1 := R.size
    have ⟨j6, z1, z2⟩ := Y.lkm
    refine sAs rfl (sK n3 (rS fun L4 n7 => sMs rfl (sMs rfl (sMs rfl (sMi rfl ?_)))))
    have g5 := I.trans R
    have s4 := (j3.ext g5)
    refine sO (oCall rfl call57 (modpoly_Mul Y s4 (xm := xp) Qo Qo Qo Qo) rfl ?_)
    rintro _ L5 ⟨z3, z4, z5, z6, rfl, J, c9, n8, z7, z8⟩
    have H2 := J.size
    have ⟨z9, A0, A1⟩ := c9.lkm
    refine sMi rfl ?_
    have n9 := ((H.trans I).trans R).trans J
    have j7 := (p.ext n9)
    refine sO (oCall rfl call115 (modpoly_Sub j7 c9 (xm := xp) Qo Qo Qo Qo) rfl ?_)
    rintro _ L6 ⟨A2, A3, A4, A5, rfl, K, d0, o0, A6, j8⟩
    have H3 := K.size
    have ⟨A7, A8, A9⟩ := d0.lkm
    refine sMs rfl (sMi rfl ?_)
    have o1 := (g5.trans J).trans K
    have s5 := (j4.ext o1)
    refine sO (oCall rfl call117 (modpoly_divide d0 s5 (xp := xp) Qo Qo Qo hp j8 k Qo) rfl ?_)
    rintro _ L7 ⟨L, M, N, d1, d2, d3, d4, B0, rfl, S, d5, j9, o2, B1, B2, B3, k0, k1, B4⟩
    have H4 := S.size
    have ⟨k0, B5, B6⟩ := d5.lkm
    have ⟨k1, B7, B8⟩ := j9.lkm
    refine sV (v := (.tuple #[(.slice L M N), (.slice d2 d3 d4)])) (rfl) (sV (v := (.slice L M N)) (rfl) (sV (v := (.slice d2 d3 d4)) (rfl) (sAs rfl (sK n7 (rS fun L8 o3 => sMs rfl (sMs rfl (sMs rfl (sAs rfl (sAs rfl (sAs rfl (sAi rfl (sK o3 (wp_ret (ret4 (.slice f c g) (.slice c5 c6 c7) (.slice L M N) (.int .i64 (0)) results95 (resT rfl) (resT rfl) (resT rfl) (resT rfl) ?_))))))))))))))
    have s : xgcdP xp n o = (i, c8, d1) := by rw [j]; exact xg4 (by omega) (by rw [← j]; omega) (by rw [← j]; exact n2) n5 n6 n8 (by rw [← j]; exact o0) o2
    have o4 := K.trans S
    have s6 := (j7.ext o4)
    have o5 := (J.trans K).trans S
    have s7 := (Y.ext o5)
    have o6 := (((((((x.trans u).trans e).trans H).trans I).trans R).trans J).trans K).trans S
    exact ⟨f, c, g, i, c5, c6, c7, c8, L, M, N, d1, (0), rfl, o6, (NatR.sub s6 q5), (NatR.sub s7 q5), (NatR.sub d5 q5), rfl, (by rw [← A, ← B]; exact s), (by omega)⟩
theorem modpoly_Symmetric {w : World} {Sf : Nat → Prop} {Af : Option Addr} {nf cf : Nat} {df : List Nat} {xm : Nat} (hf : NatR w Sf Af nf cf df) (bm : xm < 4294967296) (hnf : nf ≤ 1048576) (hm : 0 < xm) : Calls Tryz.prog 58 #[(.slice Af nf cf), (.int .u32 xm)] w (Ret fun v w' => ∃ (Ar : Option Addr) (nr : Nat) (cr : Nat) (lr : List RI), v = (.slice Ar nr cr) ∧ Ext w w' ∧ PolyR w' (fun b => w.heap.size ≤ b) Ar nr cr lr (2) ∧ (zs lr = trimZ (df.map (symN xm))) ∧ (nr ≤ nf) ∧ (AllC lr)) := by
 have ⟨lf, kf, mf⟩ := hf.lkm
 replace hf := hf.low
 refine enter func58 rfl ntmps58 rfl (rS fun K1 a3 => sAs rfl (sK a3 (rS fun K2 a4 => sMs rfl (sV (evLen underlying46 rfl) (sO (oMake2 nf underlying39 inf25 cI cI Qo Qo (fun p w4 d4 J d5 a6 => ?_)))))))
 have a7 : Blk w4 p 25 (cellsI (List.replicate nf RI.zero)) := a6
 refine sAs rfl (sK a4 (wp_seq_k fun d6 M => rS fun d7 N => sMs rfl (sV (evLen underlying46 rfl) (sMi rfl (sK N (wp_block ?_))))))
 refine lLoop (fun m e w_ => ∃ (k : Nat) (L : List RI), m = nf - k ∧ e 1 = (.int .u32 xm) ∧ e 5 = (.slice (some ⟨p, 0, none⟩) nf nf) ∧ e 11 = (.slice Af nf cf) ∧ e 12 = (.int .i64 nf) ∧ e 13 = (.int .i64 k) ∧ Frm (fun b => b = p) w4 w_ ∧ Blk w_ p 25 (cellsI (L ++ List.replicate (nf - k) RI.zero)) ∧ (k ≤ nf) ∧ (L.length = k) ∧ (AllN w_ (fun b => p < b) 2 L) ∧ (zs L = (List.range k).map (fun i => symN xm (df.getD i 0))) ∧ (AllC L)) (nf - (0)) ?_ ?_
 ·refine ⟨(0), ([]), rfl, rfl, rfl, rfl, rfl, cI, (Frm.refl _ _), ?_, ?_, ?_, ?_, ?_, ?_⟩
  ·simpa using a7
  ·omega
  ·rfl
  ·exact AllN.nil
  ·rfl
  ·exact AllC.nil
 ·rintro d8 d9 K ⟨k, L, c5, O, P, Q, R, S, o, t, hk, hL, hA, hz, hC⟩
  obtain ⟨e0, rfl⟩ := sq5 O P Q R S
  have c6 := o.size
  refine rS fun e1 u => ?_
  by_cases x : ((k : Int)) < ((nf : Int))
  ·refine sV (evLss true rfl rfl (dT x)) (sK u (wp_seq_k fun e2 T => cT rfl (wp_skip (xN (T _ _ (wp_seq_k fun e3 U => wp_block (rS fun e4 V => sMi rfl ?_)))))))
   have W := J.rx o
   have y := (hf.frmB W q3)
   obtain ⟨e5, a8, rfl⟩ := y.base Qo
   refine sV (evIx k underlying46 sz26 rfl rfl (a8 + k)) ?_
   have c7 := y.lt k
   refine sV (evLoad one26 rfl (y.cell Qo)) (sAi rfl (sAi rfl (sK V (wp_region_lit (sMs rfl (sMi rfl (sMi rfl (sMi rfl (sO (oCall rfl call96 (modular_Symmetric (xa := df.getD k 0) Qo (xm := xm) Qo Qo) rfl ?_))))))))))
   rintro _ e6 ⟨b7, rfl, z, X, c8⟩
   have c9 := z.size
   refine sO (oCall rfl call35 (integer_Of Qo) rfl ?_)
   rintro _ e7 ⟨a, c, d, f, h, rfl, A, q, Y, H, b8⟩
   have d0 := A.size
   have ⟨b9, c0, c1⟩ := q.lkm
   refine sV (evIx k underlying39 sz25 rfl rfl (k * 2)) ?_
   have B := z.trans A
   have Z := (t.ext B)
   refine sO (oStore [(.bool a), (.slice c d f)] rfl rfl rfl sz25 rfl Z (by rw [cellsI_len]; simp only [List.length_cons, List.length_nil]; exact lq) (fun a9 C d1 n => ?_))
   replace n := (cellsI_set (l := L ++ List.replicate (nf - k) RI.zero) (i := k) ⟨a, c, d, f, h⟩ (by exact lq)) ▸ n
   replace n : Blk a9 p 25 (cellsI ((L ++ [⟨a, c, d, f, h⟩]) ++ List.replicate (nf - (k + 1)) RI.zero)) := (fillI_set hL Qo : (L ++ List.replicate (nf - k) RI.zero).set k ⟨a, c, d, f, h⟩ = (L ++ [⟨a, c, d, f, h⟩]) ++ List.replicate (nf - (k + 1)) RI.zero) ▸ n
   refine sDone (bN (xN (U _ _ (wp_region_lit (sV (evAdd (((k : Int)) + 1) rfl rfl wI) (sMi rfl (sDone ?_)))))))
   have D := B.rx C
   have b0 := (hA.frmB D q3)
   have b1 := (q.frmB C q3)
   refine again (nf - (k + 1)) Qo ⟨(k + 1), (L ++ [⟨a, c, d, f, h⟩]), rfl, rfl, rfl, rfl, rfl, cI, (o.trans D), ?_, ?_, ?_, ?_, ?_, ?_⟩
   ·exact n
   ·omega
   ·simp [hL]
   ·exact AllN.snoc b0 (NatR.sub b1 q5) (by (try dsimp only); omega)
   ·exact zs_snoc hz (by show zval _ _ = _; rw [Y, X])
   ·exact AllC.snoc hC H
  ·refine sV (evLss false rfl rfl (dF x)) (sK u (wp_seq_k fun e8 d2 => cF rfl (wp_exit (xE (xE (bE (xN (M _ _ (rS fun e9 a0 => sMs rfl ?_)))))))))
   have b2 : PolyR K (fun b => p ≤ b) (some ⟨p, 0, none⟩) nf nf (L ++ List.replicate (nf - k) RI.zero) (2) := PolyR.of_blk t (AllN.app (AllN.sub hA q5) (AllN.zeros _)) (by (try dsimp only); omega) (by exact lq) (by omega) (by unfold CapMax; omega)
   refine sO (oCall rfl call97 (unipoly_Normal b2 Qo Qo) rfl ?_)
   rintro _ b3 ⟨j, g, r, rfl, E, F, s, G, c2, c3, a1, c4, I⟩
   have d3 := E.size
   have b4 : K.heap.size ≤ j := F; have b5 := s.lt
   refine sAs rfl (sK a0 (wp_ret (ret1 (.slice (some ⟨j, 0, none⟩) g g) results58 (resT rfl) ?_)))
   have b6 : PolyR b3 (fun b => j ≤ b) (some ⟨j, 0, none⟩) g g (r) ((2)) := PolyR.of_blk s (AllN.sub G q5) (by (try dsimp only); omega) (by exact lq) (by omega) (by unfold CapMax; omega)
   have a2 := (J.rx o).xr E
   exact ⟨(some ⟨j, 0, none⟩), g, g, r, rfl, (Frm.mono a2 q4), (PolyR.le (PolyR.sub b6 q5) (by omega)), (by rw [a1, show nf - k = 0 by omega, List.replicate_zero, List.append_nil, sym_range hz (by omega)]), (by omega), I⟩
end Go.Proofs.YtneolcopompkaaaGreatDoor
