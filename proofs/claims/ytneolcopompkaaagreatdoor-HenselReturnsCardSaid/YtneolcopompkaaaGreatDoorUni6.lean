/-
  Walks of package unipoly: height.
-/
import Derived.Test.YtneolcopompkaaaGreatDoorUni4
namespace Go.Proofs.YtneolcopompkaaaGreatDoor
open Go.RowKit Go.Gx Tryz
theorem unipoly_Height {w : World} {Sf : Nat → Prop} {Af : Option Addr} {nf cf Mf : Nat} {lf : List RI} (hf : PolyR w Sf Af nf cf lf Mf) (hnf : nf ≤ 1048576) (hMf : Mf ≤ 1073741824) : Calls Tryz.prog 21 #[(.slice Af nf cf)] w (Ret fun v w' => ∃ (gr : Bool) (Ar : Option Addr) (nr : Nat) (cr : Nat) (dr : List Nat), v = (.agg #[(.bool gr), (.slice Ar nr cr)]) ∧ Ext w w' ∧ NatR w' (fun b => w.heap.size ≤ b) Ar nr cr dr ∧ (zval gr dr = (hgt (zs lf) : Int)) ∧ (ICan gr dr) ∧ (nr ≤ Mf)) := by
 have ⟨kf, jf, mf⟩ := hf.lkm
 replace hf := hf.low
 refine enter func21 rfl ntmps21 rfl (rS fun K1 c3 => sO (oAlloc [(.bool false), (.slice none 0 0)] zero25 rfl (fun g2 w3 g1 T g3 c5 => sK c3 (rS fun K8 c6 => sV (v := (.agg #[(.bool false), (.slice none 0 0)])) (evK (by kernel_rfl)) (sO (oAlloc [(.bool false), (.slice none 0 0)] zero25 rfl (fun C g4 e4 s e5 Y => sO (oStore [(.bool false), (.slice none 0 0)] rfl rfl rfl sz25 rfl Y Qn (fun U t e6 u => ?_)))))))))
 replace u : Blk U C 25 [(.bool false), (.slice none 0 0)] := u
 refine sK c6 (wp_seq_k fun g5 Z => rS fun g6 a0 => sMs rfl (sV (evLen underlying39 rfl) (sMi rfl (sK a0 (wp_block ?_)))))
 refine lLoop (fun m e w_ => ∃ (k : Nat) (gh : Bool) (Ah : Option Addr) (nh : Nat) (ch : Nat) (dh : List Nat), m = nf - k ∧ e 2 = (.pointer (some ⟨g2, 0, none⟩)) ∧ e 3 = (.pointer (some ⟨C, 0, none⟩)) ∧ e 7 = (.slice Af nf cf) ∧ e 8 = (.int .i64 nf) ∧ e 9 = (.int .i64 k) ∧ Frm (fun b => b = C) U w_ ∧ Blk w_ C 25 ([.bool gh, .slice Ah nh ch]) ∧ (k ≤ nf) ∧ (nh ≤ Mf) ∧ (NatR w_ (fun b => C < b) Ah nh ch dh) ∧ (zval gh dh = (hgt ((zs lf).take k) : Int)) ∧ (ICan gh dh)) (nf - (0)) ?_ ?_
 ·refine ⟨(0), (false), (none), (0), (0), ([]), rfl, rfl, rfl, rfl, rfl, cI, (Frm.refl _ _), ?_, ?_, ?_, ?_, ?_, ?_⟩
  ·exact u
  ·omega
  ·omega
  ·exact NatR.nil
  ·rfl
  ·exact ICan.zero
 ·rintro g7 g8 h0 ⟨k, gh, Ah, nh, ch, dh, e7, a1, a2, a3, a4, a5, c, D, hk, hnh, hN, hvh, hcn⟩
  obtain ⟨h1, rfl⟩ := sq5 a1 a2 a3 a4 a5
  have e8 := c.size
  have ⟨lsN, lsC, lsM⟩ := hN.lkm; have E : val dh = hgt ((zs lf).take k) := by have := natAbs_val gh dh; omega
  refine rS fun h2 F => ?_
  by_cases G : ((k : Int)) < ((nf : Int))
  ·refine sV (evLss true rfl rfl (dT G)) (sK F (wp_seq_k fun h3 a6 => cT rfl (wp_skip (xN (a6 _ _ (wp_seq_k fun h4 H => wp_block (rS fun h5 a7 => ?_)))))))
   have a8 := ((T.trans s).rx t).trans c
   have V := (hf.frmB a8 q3)
   obtain ⟨h6, c7, rfl⟩ := V.base Qo
   refine sV (evIx k underlying39 sz25 rfl rfl (c7 + (k * 2))) ?_
   obtain ⟨f, g, h, j, e9, d6, O, P, I, d7, d8, d9, J⟩ := V.at_ (i := k) Qo
   have ⟨f0, f1, f2⟩ := I.lkm
   refine sV (evLoadA [(.bool f), (.slice g h j)] agg25 sz25 rfl (cell2 O P)) (sO (oAlloc [(.bool false), (.slice none 0 0)] zero25 rfl (fun c8 h7 f3 a9 f4 b0 => sO (oStore [(.bool f), (.slice g h j)] rfl rfl rfl sz25 rfl b0 Qn (fun c9 b1 f5 l => ?_)))))
   replace l : Blk c9 c8 25 [(.bool f), (.slice g h j)] := l
   refine sK a7 (rS fun h8 K => sV (evFA 1 fa25_1 rfl rfl) (sV (evLoadB one23 rfl l rfl) (sV (evFA 1 fa25_1 rfl rfl) ?_)))
   have d := a9.rx b1
   have x := (D.frm d q1)
   refine sV (evLoadB one23 rfl x rfl) ?_
   have W := (I.frmB d q3)
   have X := (hN.frmB d q3)
   refine sO (oCall rfl call47 (natural_Cmp W X) rfl ?_)
   rintro _ h9 ⟨Q, rfl, a, L⟩
   have f6 := a.size
   by_cases n : Q > 0
   ·refine sV (evGtr true rfl rfl (dT n)) (sK K (cT rfl (wp_region_lit ?_)))
    have b2 := (l.ext a)
    refine sV (evLoadAB [(.bool f), (.slice g h j)] agg25 sz25 rfl b2 rfl) ?_
    have d0 := (W.ext a)
    refine sO (oCall rfl call11 (integer_Abs d0 Qo) rfl ?_)
    rintro _ i0 ⟨o, p, q, r, R, rfl, y, B, b3, S, e0⟩
    have f7 := y.size
    have ⟨e1, e2, e3⟩ := B.lkm
    have b4 := a.trans y
    have b5 := (x.ext b4)
    refine sO (oStore [(.bool o), (.slice p q r)] rfl rfl rfl sz25 rfl b5 Qn (fun d1 M f8 z => ?_))
    replace z : Blk d1 C 25 [(.bool o), (.slice p q r)] := z
    refine sDone (bN (xN (H _ _ (wp_region_lit (sV (evAdd (((k : Int)) + 1) rfl rfl wI) (sMi rfl (sDone ?_)))))))
    have b6 := ((d.xr a).xr y).tr M
    have d2 := (B.frmB M q3)
    refine again (nf - (k + 1)) Qo ⟨(k + 1), (o), (p), (q), (r), (R), rfl, rfl, rfl, rfl, rfl, cI, (Frm.mono (c.tr b6) q4), ?_, ?_, ?_, ?_, ?_, ?_⟩
    ·exact z
    ·omega
    ·omega
    ·exact NatR.sub d2 q5
    ·rw [b3, (hgt_step E (by rw [zlen]; omega) J (natAbs_val _ _) L).1 n]
    ·exact S
   ·refine sV (evGtr false rfl rfl (dF n)) (sK K (cF rfl (wp_skip (bN (xN (H _ _ (wp_region_lit (sV (evAdd (((k : Int)) + 1) rfl rfl wI) (sMi rfl (sDone ?_))))))))))
    have b7 := d.xr a
    have b8 := (x.ext a)
    have d3 := (X.ext a)
    refine again (nf - (k + 1)) Qo ⟨(k + 1), (gh), (Ah), (nh), (ch), (dh), rfl, rfl, rfl, rfl, rfl, cI, (Frm.mono (c.tr b7) q4), ?_, ?_, ?_, ?_, ?_, ?_⟩
    ·exact b8
    ·omega
    ·omega
    ·exact NatR.sub d3 q5
    ·exact (hgt_keep hvh ((hgt_step E (by rw [zlen]; omega) J (natAbs_val _ _) L).2 n) E)
    ·exact hcn
  ·refine sV (evLss false rfl rfl (dF G)) (sK F (wp_seq_k fun i1 f9 => cF rfl (wp_exit (xE (xE (bE (xN (Z _ _ (rS fun i2 b9 => sV (evLoadAB [(.bool gh), (.slice Ah nh ch)] agg25 sz25 rfl D rfl) ?_)))))))))
   have c0 := (s.rx t).trans c
   have c1 := (c5.frm c0 q1)
   refine sO (oStore [(.bool gh), (.slice Ah nh ch)] rfl rfl rfl sz25 rfl c1 Qn (fun d4 N g0 A => ?_))
   replace A : Blk d4 g2 25 [(.bool gh), (.slice Ah nh ch)] := A
   refine sK b9 (wp_ret (ret1 (.agg #[(.bool gh), (.slice Ah nh ch)]) results21 (resB [(.bool gh), (.slice Ah nh ch)] agg25 sz25 rfl A) ?_))
   have d5 := (hN.frmB N q3)
   have c2 := (((T.trans s).rx t).trans c).tr N
   exact ⟨gh, Ah, nh, ch, dh, rfl, (Frm.mono c2 q4), (NatR.sub d5 q5), (by rw [hvh, List.take_of_length_le (by rw [zlen]; omega)]), hcn, (by omega)⟩
end Go.Proofs.YtneolcopompkaaaGreatDoor
