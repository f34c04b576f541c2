/-
  Walks of package modpoly: normal forms, sums, products.
-/
import Derived.Test.YtneolcopompkaaaGreatDoorMod1
import Derived.Test.YtneolcopompkaaaGreatDoorUni4
import Derived.Test.YtneolcopompkaaaGreatDoorLibB
namespace Go.Proofs.YtneolcopompkaaaGreatDoor
open Go.RowKit Go.Gx Tryz
theorem modpoly_trim {w : World} {Sa : Nat → Prop} {Aa : Option Addr} {na ca : Nat} {da : List Nat} (ha : NatR w Sa Aa na ca da)  : Calls Tryz.prog 53 #[(.slice Aa na ca)] w (Ret fun v w' => ∃ (Ar : Option Addr) (nr : Nat) (cr : Nat) (dr : List Nat), v = (.slice Ar nr cr) ∧ Ext w w' ∧ NatR w' (Sa) Ar nr cr dr ∧ (dr = trimN da) ∧ (nr ≤ na)) := by
 have ⟨la, ka, ma⟩ := ha.lkm;refine enter func53 rfl ntmps53 rfl (rS fun I q => sAs rfl (sK q (rS fun J r => sMs rfl (sV (evLen underlying46 rfl) (sAi rfl (sK r (wp_seq_k fun K l => wp_block ?_)))))));refine lLoop (fun m e w_ => ∃ (k : Nat), m = k ∧ e 0 = (.slice Aa na ca) ∧ e 3 = (.int .i64 k) ∧ Frm (fun b => False) w w_ ∧ (k ≤ na) ∧ (∀ j, k ≤ j → da.getD j 0 = 0)) ((na)) ?_ ?_
 ·refine ⟨(na), rfl, rfl, cI, (Frm.refl _ _), ?_, ?_⟩
  ·omega
  ·exact getD_ge Qo
 ·rintro L B M ⟨k, C, s, t, a, hk, hz⟩
  obtain ⟨D, rfl⟩ := sq2 s t;have z := a.size;refine wp_seq_k fun E n => rS fun F c => sMi rfl ?_
  by_cases g : ((k : Int)) > 0
  ·refine sV (evGtr true rfl rfl (dT g)) (sMb rfl (sEv (v := (.slice Aa na ca)) (rfl) rfl rfl (sEv (v := (.int .i64 k)) (rfl) rfl rfl (sEv (v := (.int .i64 (((k : Int)) - 1))) (evSub (((k : Int)) - 1) rfl rfl wI) rfl rfl ?_))))
   have d := (ha.ext a);obtain ⟨h, f, rfl⟩ := d.base Qo;refine sEv (v := (.pointer (some ⟨h, f + (k - 1), none⟩))) (evIx (k - 1) underlying46 sz26 rfl rfl (f + (k - 1))) rfl rfl ?_;have A := d.lt (k - 1);refine sEv (v := (.int .u32 (((da.getD (k - 1) 0 : Nat) : Int)))) (evLoad one26 rfl (d.cell Qo)) rfl rfl ?_
   by_cases i : (((da.getD (k - 1) 0 : Nat) : Int)) = 0
   ·refine sEv (v := (.bool true)) (evEql true rfl rfl (dT i)) rfl rfl (sV (v := (.bool true)) (rfl) (sK c (cT rfl (wp_skip (xN (n _ _ (wp_block (wp_region_lit (sMi rfl (sV (evSub (((k : Int)) - 1) rfl rfl wI) (sAi rfl (sDone (bN (again ((k - 1)) Qo ⟨(k - 1), rfl, rfl, cI, a, ?_, ?_⟩))))))))))))))
    ·omega
    ·exact zeros_down hz Qo
   ·refine sEv (v := (.bool false)) (evEql false rfl rfl (dF i)) rfl rfl (sV (v := (.bool false)) (rfl) (sK c (cF rfl (wp_exit (xE (xE (bE (xN (l _ _ (rS fun G o => sMs rfl (sMi rfl ?_)))))))))))
    have u := d.take (m := k) Qo;refine sV (evSliceHi k underlying46 sz26 rfl rfl Qo Qo) (sAs rfl (sK o (wp_ret (ret1 (.slice (some ⟨h, f, none⟩) k ca) results53 (resT rfl) ?_))));exact ⟨(some ⟨h, f, none⟩), k, ca, ((da).take k), rfl, a, u, (trimN_of Qo hz Qo), Qo⟩
  ·refine sV (evGtr false rfl rfl (dF g)) (sMb rfl (sSkip rfl rfl (sSkip rfl rfl (sSkip rfl rfl (sSkip rfl rfl (sSkip rfl rfl (sSkip rfl rfl (sV (v := (.bool false)) (rfl) (sK c (cF rfl (wp_exit (xE (xE (bE (xN (l _ _ (rS fun H p => sMs rfl (sMi rfl ?_))))))))))))))))))
   have x := (ha.ext a);have y := x.take (m := k) Qo;refine sV (evSliceHi k underlying46 sz26 rfl rfl Qo Qo) (sAs rfl (sK p (wp_ret (ret1 (.slice Aa k ca) results53 (resT rfl) ?_))));exact ⟨Aa, k, ca, ((da).take k), rfl, a, y, (trimN_of Qo hz Qo), Qo⟩
theorem modpoly_Normal {w : World} {Sf : Nat → Prop} {Af : Option Addr} {nf cf : Nat} {df : List Nat} {xm : Nat} (hf : NatR w Sf Af nf cf df) (bm : xm < 4294967296) (hnf : nf ≤ 1048576) (hm : 0 < xm) : Calls Tryz.prog 77 #[(.slice Af nf cf), (.int .u32 xm)] w (Ret fun v w' => ∃ (Ar : Option Addr) (nr : Nat) (cr : Nat) (dr : List Nat), v = (.slice Ar nr cr) ∧ Ext w w' ∧ NatR w' (fun b => w.heap.size ≤ b) Ar nr cr dr ∧ (dr = nrmP xm df) ∧ (nr ≤ nf) ∧ (CanP xm dr)) := by
 have ⟨lf, kf, mf⟩ := hf.lkm;replace hf := hf.low;refine enter func77 rfl ntmps77 rfl (rS fun K1 M => sAs rfl (sK M (rS fun K2 N => sMi rfl (sV (evMax ((xm : Int)) rfl rfl (by split <;> omega)) (sAi rfl (sK N (rS fun K3 O => sMs rfl (sV (evLen underlying46 rfl) (sO (oMake1 nf underlying46 inf26 rfl cI cI Qo Qo (fun c P a5 t a6 Q => ?_)))))))))));have u : Blk P c 26 (((List.replicate nf 0)).map u32) := by rw [List.map_replicate]; exact Q
 refine sAs rfl (sK O (wp_seq_k fun a7 x => rS fun a8 y => sMs rfl (sV (evLen underlying46 rfl) (sMi rfl (sK y (wp_block ?_))))));refine lLoop (fun m e w_ => ∃ (k : Nat) (L : List Nat), m = nf - k ∧ e 5 = (.int .u32 xm) ∧ e 6 = (.slice (some ⟨c, 0, none⟩) nf nf) ∧ e 14 = (.slice Af nf cf) ∧ e 15 = (.int .i64 nf) ∧ e 16 = (.int .i64 k) ∧ Frm (fun b => b = c) P w_ ∧ Blk w_ c 26 ((L ++ List.replicate (nf - k) 0).map u32) ∧ (k ≤ nf) ∧ (L.length = k) ∧ (L = (df.take k).map (· % xm)) ∧ (∀ d ∈ L, d < xm)) (nf - (0)) ?_ ?_
 ·refine ⟨(0), ([]), rfl, rfl, rfl, rfl, rfl, cI, (Frm.refl _ _), ?_, ?_, ?_, ?_, ?_⟩
  ·simpa using u
  ·omega
  ·rfl
  ·rfl
  ·simp
 ·rintro a9 b0 R ⟨k, L, Z, z, A, B, C, D, a, l, hk, hLl, hL, hLt⟩
  obtain ⟨b1, rfl⟩ := sq5 z A B C D;have a0 := a.size;refine rS fun b2 n => ?_
  by_cases o : ((k : Int)) < ((nf : Int))
  ·refine sV (evLss true rfl rfl (dT o)) (sK n (wp_seq_k fun b3 E => cT rfl (wp_skip (xN (E _ _ (wp_seq_k fun b4 F => wp_block (rS fun b5 G => sMi rfl ?_)))))))
   have H := t.rx a;have p := (hf.frmB H q3);obtain ⟨b6, S, rfl⟩ := p.base Qo;refine sV (evIx k underlying46 sz26 rfl rfl (S + k)) ?_;have a1 := p.lt k;refine sV (evLoad one26 rfl (p.cell Qo)) (sAi rfl (sAi rfl (sK G (wp_region_lit (sMs rfl (sMi rfl (sMi rfl (sMi rfl (sV (evRem ((((df.getD k 0) % xm : Nat) : Int)) rfl rfl Qo (remE Qo Qo)) (sV (evIx k underlying46 sz26 rfl rfl k) (sO (oStore1 rfl rfl rfl sz26 l (by exact lq) (fun T I a2 f => ?_)))))))))))));replace f : Blk T c 26 (((L ++ [(df.getD k 0) % xm]) ++ List.replicate (nf - (k + 1)) 0).map u32) := by rw [← (fill_set2 hLl (by omega) : (L ++ List.replicate (nf - k) 0).set k ((df.getD k 0) % xm) = (L ++ [(df.getD k 0) % xm]) ++ List.replicate (nf - (k + 1)) 0), List.map_set]; exact f
   refine sDone (bN (xN (F _ _ (wp_region_lit (sV (evAdd (((k : Int)) + 1) rfl rfl wI) (sMi rfl (sDone (again (nf - (k + 1)) Qo ⟨(k + 1), (L ++ [(df.getD k 0) % xm]), rfl, rfl, rfl, rfl, rfl, cI, (a.trans I), ?_, ?_, ?_, ?_, ?_⟩))))))))
   ·exact f
   ·omega
   ·simp [hLl]
   ·exact map_snocN hL Qo (rfl)
   ·exact lt_snocP hLt (Nat.mod_lt _ Qo)
  ·refine sV (evLss false rfl rfl (dF o)) (sK n (wp_seq_k fun b7 a3 => cF rfl (wp_exit (xE (xE (bE (xN (x _ _ (rS fun b8 J => sMs rfl ?_)))))))))
   have U : NatR R (fun b => b = c) (some ⟨c, 0, none⟩) nf nf (L ++ List.replicate (nf - k) 0) := NatR.of_blk l rfl (lt_fill (lt_BS bm hLt)) (by exact lq) Qo (by unfold CapMax; omega);refine sO (oCall rfl call53 (modpoly_trim U) rfl ?_);rintro _ b9 ⟨g, h, i, s, rfl, q, j, r, V⟩;have a4 := q.size;have ⟨W, X, Y⟩ := j.lkm;refine sAs rfl (sK J (wp_ret (ret1 (.slice g h i) results77 (resT rfl) ?_)));have K := (t.rx a).xr q;exact ⟨g, h, i, s, rfl, (Frm.mono K q4), (NatR.sub j q5), (by rw [r, show nf - k = 0 by omega, List.replicate_zero, List.append_nil, map_fullN hL (by omega)]; rfl), (by omega), (by rw [r]; exact canP_trim (lt_fillP hLt (by omega)))⟩
theorem modpoly_Scale {w : World} {Sf : Nat → Prop} {Af : Option Addr} {nf cf : Nat} {df : List Nat} {xc : Nat} {xm : Nat} (hf : NatR w Sf Af nf cf df) (bc : xc < 4294967296) (bm : xm < 4294967296) (hnf : nf ≤ 1048576) (hm : 0 < xm) : Calls Tryz.prog 40 #[(.slice Af nf cf), (.int .u32 xc), (.int .u32 xm)] w (Ret fun v w' => ∃ (Ar : Option Addr) (nr : Nat) (cr : Nat) (dr : List Nat), v = (.slice Ar nr cr) ∧ Ext w w' ∧ NatR w' (fun b => w.heap.size ≤ b) Ar nr cr dr ∧ (dr = scalP xm df xc) ∧ (nr ≤ nf) ∧ (CanP xm dr)) := by
 have ⟨lf, kf, mf⟩ := hf.lkm;replace hf := hf.low;refine enter func40 rfl ntmps40 rfl (rS fun K1 S => sAs rfl (sK S (rS fun K2 T => sMs rfl (sV (evLen underlying46 rfl) (sO (oMake1 nf underlying46 inf26 rfl cI cI Qo Qo (fun g U b3 z b4 V => ?_)))))));have W : Blk U g 26 (((List.replicate nf 0)).map u32) := by rw [List.map_replicate]; exact V
 refine sAs rfl (sK T (wp_seq_k fun b5 A => rS fun b6 B => sMs rfl (sV (evLen underlying46 rfl) (sMi rfl (sK B (wp_block ?_))))));refine lLoop (fun m e w_ => ∃ (k : Nat) (L : List Nat), m = nf - k ∧ e 1 = (.int .u32 xc) ∧ e 2 = (.int .u32 xm) ∧ e 7 = (.slice (some ⟨g, 0, none⟩) nf nf) ∧ e 13 = (.slice Af nf cf) ∧ e 14 = (.int .i64 nf) ∧ e 15 = (.int .i64 k) ∧ Frm (fun b => b = g) U w_ ∧ Blk w_ g 26 ((L ++ List.replicate (nf - k) 0).map u32) ∧ (k ≤ nf) ∧ (L.length = k) ∧ (L = (df.take k).map (fun a => a * xc % xm)) ∧ (∀ d ∈ L, d < xm)) (nf - (0)) ?_ ?_
 ·refine ⟨(0), ([]), rfl, rfl, rfl, rfl, rfl, rfl, cI, (Frm.refl _ _), ?_, ?_, ?_, ?_, ?_⟩
  ·simpa using W
  ·omega
  ·rfl
  ·rfl
  ·simp
 ·rintro b7 b8 X ⟨k, L, a6, C, D, E, F, G, H, f, p, hk, hLl, hL, hLt⟩
  obtain ⟨b9, rfl⟩ := sq6 C D E F G H;have a7 := f.size;refine rS fun c0 q => ?_
  by_cases r : ((k : Int)) < ((nf : Int))
  ·refine sV (evLss true rfl rfl (dT r)) (sK q (wp_seq_k fun c1 I => cT rfl (wp_skip (xN (I _ _ (wp_seq_k fun c2 J => wp_block (rS fun c3 K => sMi rfl ?_)))))))
   have M := z.rx f;have s := (hf.frmB M q3);obtain ⟨c4, Y, rfl⟩ := s.base Qo;refine sV (evIx k underlying46 sz26 rfl rfl (Y + k)) ?_;have a8 := s.lt k;refine sV (evLoad one26 rfl (s.cell Qo)) (sAi rfl (sAi rfl (sK K (wp_region_lit (sMs rfl (sMi rfl (sMi rfl (sMi rfl (sMi rfl (sO (oCall rfl call84 (modular_Mul (xa := df.getD k 0) Qo (xb := xc) Qo (xm := xm) Qo Qo) rfl ?_)))))))))));rintro _ c5 ⟨c, rfl, h, a1, t⟩;have a9 := h.size;refine sV (evIx k underlying46 sz26 rfl rfl k) ?_;have N := (p.ext h);refine sO (oStore1 rfl rfl rfl sz26 N (by exact lq) (fun Z O b0 i => ?_));replace i : Blk Z g 26 (((L ++ [c]) ++ List.replicate (nf - (k + 1)) 0).map u32) := by rw [← (fill_set2 hLl (by omega) : (L ++ List.replicate (nf - k) 0).set k c = (L ++ [c]) ++ List.replicate (nf - (k + 1)) 0), List.map_set]; exact i
   refine sDone (bN (xN (J _ _ (wp_region_lit (sV (evAdd (((k : Int)) + 1) rfl rfl wI) (sMi rfl (sDone ?_)))))));have P := h.rx O;refine again (nf - (k + 1)) Qo ⟨(k + 1), (L ++ [c]), rfl, rfl, rfl, rfl, rfl, rfl, cI, (f.trans P), ?_, ?_, ?_, ?_, ?_⟩
   ·exact i
   ·omega
   ·simp [hLl]
   ·exact map_snocN hL Qo (t)
   ·exact lt_snocP hLt (by rw [t]; exact Nat.mod_lt _ (by omega))
  ·refine sV (evLss false rfl rfl (dF r)) (sK q (wp_seq_k fun c6 b1 => cF rfl (wp_exit (xE (xE (bE (xN (A _ _ (rS fun c7 Q => sMs rfl ?_)))))))))
   have a0 : NatR X (fun b => b = g) (some ⟨g, 0, none⟩) nf nf (L ++ List.replicate (nf - k) 0) := NatR.of_blk p rfl (lt_fill (lt_BS bm hLt)) (by exact lq) Qo (by unfold CapMax; omega);refine sO (oCall rfl call53 (modpoly_trim a0) rfl ?_);rintro _ c8 ⟨j, l, n, y, rfl, u, o, x, a2⟩;have b2 := u.size;have ⟨a3, a4, a5⟩ := o.lkm;refine sAs rfl (sK Q (wp_ret (ret1 (.slice j l n) results40 (resT rfl) ?_)));have R := (z.rx f).xr u;exact ⟨j, l, n, y, rfl, (Frm.mono R q4), (NatR.sub o q5), (by rw [x, show nf - k = 0 by omega, List.replicate_zero, List.append_nil, map_fullN hL (by omega)]; rfl), (by omega), (by rw [x]; exact canP_trim (lt_fillP hLt (by omega)))⟩
theorem modpoly_Reduce {w : World} {Sf : Nat → Prop} {Af : Option Addr} {nf cf Mf : Nat} {lf : List RI} {xm : Nat} (hf : PolyR w Sf Af nf cf lf Mf) (bm : xm < 4294967296) (hnf : nf ≤ 1048576) (hm : 0 < xm) (hMf : Mf ≤ 268435456) : Calls Tryz.prog 20 #[(.slice Af nf cf), (.int .u32 xm)] w (Ret fun v w' => ∃ (Ar : Option Addr) (nr : Nat) (cr : Nat) (dr : List Nat), v = (.slice Ar nr cr) ∧ Ext w w' ∧ NatR w' (fun b => w.heap.size ≤ b) Ar nr cr dr ∧ (dr = redP xm (zs lf)) ∧ (nr ≤ nf) ∧ (CanP xm dr)) := by
 have ⟨kf, jf, mf⟩ := hf.lkm;replace hf := hf.low;refine enter func20 rfl ntmps20 rfl (rS fun K1 a5 => sAs rfl (sK a5 (rS fun K2 a6 => sMs rfl (sV (evLen underlying39 rfl) (sO (oMake1 nf underlying46 inf26 rfl cI cI Qo Qo (fun l w4 d9 I e0 a8 => ?_)))))));have a9 : Blk w4 l 26 (((List.replicate nf 0)).map u32) := by rw [List.map_replicate]; exact a8
 refine sAs rfl (sK a6 (wp_seq_k fun e1 K => rS fun e2 M => sMs rfl (sV (evLen underlying39 rfl) (sMi rfl (sK M (wp_block ?_))))));refine lLoop (fun m e w_ => ∃ (k : Nat) (L : List Nat), m = nf - k ∧ e 1 = (.int .u32 xm) ∧ e 5 = (.slice (some ⟨l, 0, none⟩) nf nf) ∧ e 11 = (.slice Af nf cf) ∧ e 12 = (.int .i64 nf) ∧ e 13 = (.int .i64 k) ∧ Frm (fun b => b = l) w4 w_ ∧ Blk w_ l 26 ((L ++ List.replicate (nf - k) 0).map u32) ∧ (k ≤ nf) ∧ (L.length = k) ∧ (L = (List.range k).map fun i => md xm (co (zs lf) i)) ∧ (∀ d ∈ L, d < xm)) (nf - (0)) ?_ ?_
 ·refine ⟨(0), ([]), rfl, rfl, rfl, rfl, rfl, cI, (Frm.refl _ _), ?_, ?_, ?_, ?_, ?_⟩
  ·simpa using a9
  ·omega
  ·rfl
  ·rfl
  ·simp
 ·rintro e3 e4 b0 ⟨k, L, c6, N, O, P, Q, R, c, t, hk, hLl, hL, hLt⟩
  obtain ⟨e5, rfl⟩ := sq5 N O P Q R;have c7 := c.size;refine rS fun e6 u => ?_
  by_cases x : ((k : Int)) < ((nf : Int))
  ·refine sV (evLss true rfl rfl (dT x)) (sK u (wp_seq_k fun e7 S => cT rfl (wp_skip (xN (S _ _ (wp_seq_k fun e8 T => wp_block (rS fun e9 U => sMi rfl ?_)))))))
   have V := I.rx c;have J := (hf.frmB V q3);obtain ⟨f0, b1, rfl⟩ := J.base Qo;refine sV (evIx k underlying39 sz25 rfl rfl (b1 + (k * 2))) ?_;obtain ⟨f, g, h, j, c8, b7, F, G, y, b8, b9, c0, W⟩ := J.at_ (i := k) Qo;have ⟨c9, d0, d1⟩ := y.lkm;refine sV (evLoadA [(.bool f), (.slice g h j)] agg25 sz25 rfl (cell2 F G)) (sO (oAlloc [(.bool false), (.slice none 0 0)] zero25 rfl (fun b2 f1 d2 X d3 Y => sAi rfl (sO (oStore [(.bool f), (.slice g h j)] rfl rfl rfl sz25 rfl Y Qn (fun b3 Z d4 n => ?_))))));replace n : Blk b3 b2 25 [(.bool f), (.slice g h j)] := n;refine sK U (wp_region_lit (sMs rfl (sMi rfl (sV (evLoadAB [(.bool f), (.slice g h j)] agg25 sz25 rfl n rfl) (sMi rfl ?_)))));have z := X.rx Z;have b4 := (y.frmB z q3);refine sO (oCall rfl call24 (modular_Reduce b4 (xm := xm) Qo Qo Qo) rfl ?_);rintro _ f2 ⟨a, rfl, A, c1, B⟩;have d5 := A.size;refine sV (evIx k underlying46 sz26 rfl rfl k) ?_;have C := z.xr A;have a0 := (t.frm C q1);refine sO (oStore1 rfl rfl rfl sz26 a0 (by exact lq) (fun b5 a1 d6 o => ?_));replace o : Blk b5 l 26 (((L ++ [a]) ++ List.replicate (nf - (k + 1)) 0).map u32) := by rw [← (fill_set2 hLl (by omega) : (L ++ List.replicate (nf - k) 0).set k a = (L ++ [a]) ++ List.replicate (nf - (k + 1)) 0), List.map_set]; exact o
   refine sDone (bN (xN (T _ _ (wp_region_lit (sV (evAdd (((k : Int)) + 1) rfl rfl wI) (sMi rfl (sDone ?_)))))));have a2 := C.tr a1;refine again (nf - (k + 1)) Qo ⟨(k + 1), (L ++ [a]), rfl, rfl, rfl, rfl, rfl, cI, (Frm.mono (c.tr a2) q4), ?_, ?_, ?_, ?_, ?_⟩
   ·exact o
   ·omega
   ·simp [hLl]
   ·exact range_snocN hL (by rw [B, W])
   ·exact lt_snocP hLt (by rw [B]; exact md_lt (by omega) _)
  ·refine sV (evLss false rfl rfl (dF x)) (sK u (wp_seq_k fun f3 d7 => cF rfl (wp_exit (xE (xE (bE (xN (K _ _ (rS fun f4 a3 => sMs rfl ?_)))))))))
   have b6 : NatR b0 (fun b => b = l) (some ⟨l, 0, none⟩) nf nf (L ++ List.replicate (nf - k) 0) := NatR.of_blk t rfl (lt_fill (lt_BS bm hLt)) (by exact lq) Qo (by unfold CapMax; omega);refine sO (oCall rfl call53 (modpoly_trim b6) rfl ?_);rintro _ f5 ⟨p, q, r, H, rfl, D, s, E, c2⟩;have d8 := D.size;have ⟨c3, c4, c5⟩ := s.lkm;refine sAs rfl (sK a3 (wp_ret (ret1 (.slice p q r) results20 (resT rfl) ?_)));have a4 := (I.rx c).xr D;exact ⟨p, q, r, H, rfl, (Frm.mono a4 q4), (NatR.sub s q5), (by rw [E, show nf - k = 0 by omega, List.replicate_zero, List.append_nil, hL, show k = nf by omega, range_co (zlen _ |>.trans (by omega))]; rfl), (by omega), (by rw [E]; exact canP_trim (lt_fillP hLt (by omega)))⟩
theorem modpoly_Degree {w : World} {Sf : Nat → Prop} {Af : Option Addr} {nf cf : Nat} {df : List Nat} {xm : Nat} (hf : NatR w Sf Af nf cf df) (bm : xm < 4294967296) (hm : 0 < xm) : Calls Tryz.prog 63 #[(.slice Af nf cf), (.int .u32 xm)] w (Ret fun v w' => ∃ (xr : Int), v = (.int .i64 (xr)) ∧ Ext w w' ∧ (xr = ((nrmP xm df).length : Int) - 1) ∧ (-1 ≤ xr ∧ xr < nf)) := by
 have ⟨lf, kf, mf⟩ := hf.lkm;replace hf := hf.low;refine enter func63 rfl ntmps63 rfl (rS fun H p => sAi rfl (sK p (rS fun I q => sMi rfl (sV (evMax ((xm : Int)) rfl rfl (by split <;> omega)) (sAi rfl (sK q (rS fun J r => sMs rfl (sV (evLen underlying46 rfl) (sAi rfl (sK r (wp_seq_k fun K h => wp_block ?_)))))))))));refine lLoop (fun m e w_ => ∃ (k : Nat), m = k ∧ e 0 = (.slice Af nf cf) ∧ e 5 = (.int .u32 xm) ∧ e 6 = (.int .i64 k) ∧ Frm (fun b => False) w w_ ∧ (k ≤ nf) ∧ (∀ j, k ≤ j → (df.map (· % xm)).getD j 0 = 0)) ((nf)) ?_ ?_
 ·refine ⟨(nf), rfl, rfl, rfl, cI, (Frm.refl _ _), ?_, ?_⟩
  ·omega
  ·exact getD_ge (by rw [List.length_map]; omega)
 ·rintro L B M ⟨k, y, s, t, u, a, hk, hz⟩
  obtain ⟨C, rfl⟩ := sq3 s t u;have z := a.size;refine wp_seq_k fun D l => rS fun E c => sMi rfl ?_
  by_cases d : ((k : Int)) > 0
  ·refine sV (evGtr true rfl rfl (dT d)) (sMb rfl (sEv (v := (.slice Af nf cf)) (rfl) rfl rfl (sEv (v := (.int .i64 k)) (rfl) rfl rfl (sEv (v := (.int .i64 (((k : Int)) - 1))) (evSub (((k : Int)) - 1) rfl rfl wI) rfl rfl ?_))))
   have f := (hf.ext a);obtain ⟨x, i, rfl⟩ := f.base Qo;refine sEv (v := (.pointer (some ⟨x, i + (k - 1), none⟩))) (evIx (k - 1) underlying46 sz26 rfl rfl (i + (k - 1))) rfl rfl ?_;have A := f.lt (k - 1);refine sEv (v := (.int .u32 (((df.getD (k - 1) 0 : Nat) : Int)))) (evLoad one26 rfl (f.cell Qo)) rfl rfl (sEv (v := (.int .u32 xm)) (rfl) rfl rfl (sEv (v := (.int .u32 ((((df.getD (k - 1) 0) % xm : Nat) : Int)))) (evRem ((((df.getD (k - 1) 0) % xm : Nat) : Int)) rfl rfl Qo (remE Qo Qo)) rfl rfl ?_))
   by_cases g : ((((df.getD (k - 1) 0) % xm : Nat) : Int)) = 0
   ·refine sEv (v := (.bool true)) (evEql true rfl rfl (dT g)) rfl rfl (sV (v := (.bool true)) (rfl) (sK c (cT rfl (wp_skip (xN (l _ _ (wp_block (wp_region_lit (sMi rfl (sV (evSub (((k : Int)) - 1) rfl rfl wI) (sAi rfl (sDone (bN (again ((k - 1)) Qo ⟨(k - 1), rfl, rfl, rfl, cI, a, ?_, ?_⟩))))))))))))))
    ·omega
    ·exact deg_down hz Qo
   ·refine sEv (v := (.bool false)) (evEql false rfl rfl (dF g)) rfl rfl (sV (v := (.bool false)) (rfl) (sK c (cF rfl (wp_exit (xE (xE (bE (xN (h _ _ (rS fun F n => sMi rfl (sV (evSub (((k : Int)) - 1) rfl rfl wI) (sAi rfl (sK n (wp_ret (ret1 (.int .i64 (((k : Int)) - 1)) results63 (resT rfl) ?_)))))))))))))))
    exact ⟨(((k : Int)) - 1), rfl, a, (by rw [deg_end (by omega) hz (by omega)]), (by omega)⟩
  ·refine sV (evGtr false rfl rfl (dF d)) (sMb rfl (sSkip rfl rfl (sSkip rfl rfl (sSkip rfl rfl (sSkip rfl rfl (sSkip rfl rfl (sSkip rfl rfl (sSkip rfl rfl (sSkip rfl rfl (sV (v := (.bool false)) (rfl) (sK c (cF rfl (wp_exit (xE (xE (bE (xN (h _ _ (rS fun G o => sMi rfl (sV (evSub (((k : Int)) - 1) rfl rfl wI) (sAi rfl (sK o (wp_ret (ret1 (.int .i64 (((k : Int)) - 1)) results63 (resT rfl) ?_))))))))))))))))))))))))
   exact ⟨(((k : Int)) - 1), rfl, a, (by rw [deg_end (by omega) hz (by omega)]), (by omega)⟩
theorem modpoly_Compare {w : World} {Sf : Nat → Prop} {Af : Option Addr} {nf cf : Nat} {df : List Nat} {Sg : Nat → Prop} {Ag : Option Addr} {ng cg : Nat} {dg : List Nat} {xm : Nat} (hf : NatR w Sf Af nf cf df) (hg : NatR w Sg Ag ng cg dg) (bm : xm < 4294967296) (hnf : nf ≤ 1048576) (hng : ng ≤ 1048576) (hm : 0 < xm) : Calls Tryz.prog 83 #[(.slice Af nf cf), (.slice Ag ng cg), (.int .u32 xm)] w (Ret fun v w' => ∃ (xr : Int), v = (.int .i64 (xr)) ∧ Ext w w' ∧ (xr = cmpP (zl (nrmP xm df)) (zl (nrmP xm dg)))) := by
 have ⟨lf, kf, mf⟩ := hf.lkm;replace hf := hf.low;have ⟨lg, kg, mg⟩ := hg.lkm;replace hg := hg.low;refine enter func83 rfl ntmps83 rfl (rS fun K1 a9 => sAi rfl (sK a9 (rS fun K2 b0 => sMs rfl (sMi rfl (sO (oCall rfl call77 (modpoly_Normal hf (xm := xm) Qo Qo Qo) rfl ?_))))));rintro _ w4 ⟨J, a, K, f, rfl, h, r, l, b2, b3⟩;have d2 := h.size;have ⟨b4, b5, b6⟩ := r.lkm;refine sMs rfl (sMi rfl ?_);have h8 := (hg.ext h);refine sO (oCall rfl call77 (modpoly_Normal h8 (xm := xm) Qo Qo Qo) rfl ?_);rintro _ b1 ⟨L, o, M, g, rfl, c, s, n, b8, b9⟩;have c0 := c.size;have ⟨c1, c2, c3⟩ := s.lkm;refine sAs rfl (sAs rfl (sK b0 (wp_seq_k fun d3 N => wp_block (rS fun d4 t => sMs rfl (sV (evLen underlying46 rfl) (sMs rfl (sV (evLen underlying46 rfl) ?_)))))))
 by_cases u : ((a : Int)) < ((o : Int))
 ·refine sV (evLss true rfl rfl (dT u)) (sAb rfl (sK t (cT rfl (rS fun d5 O => sAi rfl (sK O (wp_ret (bR (xR (ret1 (.int .i64 ((-1))) results83 (resT rfl) ?_)))))))))
  have P := h.trans c;exact ⟨((-1)), rfl, P, (by rw [← l, ← n]; exact cmpP_lt (by rw [zl_len, zl_len]; omega))⟩
 ·refine sV (evLss false rfl rfl (dF u)) (sAb rfl (sK t (cF rfl (rS fun d6 x => sMs rfl (sV (evLen underlying46 rfl) (sMs rfl (sV (evLen underlying46 rfl) ?_)))))))
  by_cases y : ((a : Int)) > ((o : Int))
  ·refine sV (evGtr true rfl rfl (dT y)) (sAb rfl (sK x (cT rfl (rS fun d7 Q => sAi rfl (sK Q (wp_ret (bR (xR (ret1 (.int .i64 (1)) results83 (resT rfl) ?_)))))))))
   have R := h.trans c;exact ⟨(1), rfl, R, (by rw [← l, ← n]; exact cmpP_gt (by rw [zl_len, zl_len]; omega))⟩
  ·refine sV (evGtr false rfl rfl (dF y)) (sAb rfl (sK x (cF rfl (wp_skip (bN (xN (N _ _ (wp_seq_k fun d8 S => rS fun d9 T => sMs rfl (sV (evLen underlying46 rfl) (sV (evSub (((a : Int)) - 1) rfl rfl wI) (sAi rfl (sK T (wp_block ?_)))))))))))))
   refine lLoop (fun m e w_ => ∃ (k : Nat), m = k ∧ e 0 = (.slice J a K) ∧ e 1 = (.slice L o M) ∧ e 7 = (.int .i64 ((k : Int) - 1)) ∧ Frm (fun b => False) b1 w_ ∧ (k ≤ a) ∧ (cmpP (zl f) (zl g) = cmpTop (zl f) (zl g) k)) ((a)) ?_ ?_
   ·refine ⟨(a), rfl, rfl, rfl, cI, (Frm.refl _ _), ?_, ?_⟩
    ·omega
    ·exact cmpP_eq (by rw [zl_len, zl_len]; omega) (by rw [zl_len]; omega)
   ·rintro e0 e1 e2 ⟨k, c4, U, V, W, d, hk, hX⟩
    obtain ⟨e3, rfl⟩ := sq3 U V W;have c5 := d.size;refine wp_seq_k fun e4 X => rS fun e5 z => sMi rfl ?_
    by_cases A : ((k : Int) - 1) ≥ 0
    ·refine sV (evGeq true rfl rfl (dT A)) (sK z (cT rfl (wp_skip (xN (X _ _ (wp_seq_k fun e6 Y => wp_block (wp_block (wp_seq_k fun e7 B => dBegin (fun _ => False) mixed (fun e8 i c6 => dMs 0 rfl rfl (dMi 1 rfl rfl ?_))))))))))
     have Z := (c.trans d).trans i;have p := (r.ext Z);obtain ⟨e9, F, rfl⟩ := p.base Qo;refine dV 2 rfl (fun _ _ => evIx (k - 1) underlying46 sz26 rfl rfl (F + (k - 1))) ?_;have c7 := p.lt (k - 1);refine dV 3 rfl (fun _ hf => evLoad one26 rfl ((p.ext hf).cell Qo)) (dMs 4 rfl rfl (dMi 5 rfl rfl ?_));have a0 := d.trans i;have q := (s.ext a0);obtain ⟨f0, G, rfl⟩ := q.base Qo;refine dV 6 rfl (fun _ _ => evIx (k - 1) underlying46 sz26 rfl rfl (G + (k - 1))) ?_;have c8 := q.lt (k - 1);refine dV 7 rfl (fun _ hf => evLoad one26 rfl ((q.ext hf).cell Qo)) ?_
     by_cases C : (((f.getD (k - 1) 0 : Nat) : Int)) < (((g.getD (k - 1) 0 : Nat) : Int))
     ·refine dV 8 rfl (fun _ _ => evLss true rfl rfl (dT C)) (dAb 9 rfl rfl (dDone (by kernel_rfl) (xN (B _ _ (cT rfl (rS fun f1 a1 => sAi rfl (sK a1 (wp_ret (bR (bR (xR (xR (bR (xR (ret1 (.int .i64 ((-1))) results83 (resT rfl) ?_)))))))))))))))
      have a2 := ((h.trans c).trans d).trans i;exact ⟨((-1)), rfl, a2, (by rw [← l, ← n]; rw [cmpTop_stop hX (by omega) (fun hh => by have h9 := cmp_getD.1 hh; omega), co_zl, co_zl]; have h9 := cmpZ_cases ((f.getD (k - 1) 0 : Nat) : Int) ((g.getD (k - 1) 0 : Nat) : Int); omega)⟩
     ·refine dV 8 rfl (fun _ _ => evLss false rfl rfl (dF C)) (dAb 9 rfl rfl (dDone (by kernel_rfl) (xN (B _ _ (cF rfl (wp_seq_k fun f2 D => dBegin (fun _ => False) mixed (fun f3 j c9 => dMs 0 rfl rfl (dMi 1 rfl rfl (dV 2 rfl (fun _ _ => evIx (k - 1) underlying46 sz26 rfl rfl (F + (k - 1))) ?_)))))))))
      have H := (p.ext j);have d0 := H.lt (k - 1);refine dV 3 rfl (fun _ hf => evLoad one26 rfl ((H.ext hf).cell Qo)) (dMs 4 rfl rfl (dMi 5 rfl rfl (dV 6 rfl (fun _ _ => evIx (k - 1) underlying46 sz26 rfl rfl (G + (k - 1))) ?_)));have I := (q.ext j);have d1 := I.lt (k - 1);refine dV 7 rfl (fun _ hf => evLoad one26 rfl ((I.ext hf).cell Qo)) ?_
      by_cases E : (((f.getD (k - 1) 0 : Nat) : Int)) > (((g.getD (k - 1) 0 : Nat) : Int))
      ·refine dV 8 rfl (fun _ _ => evGtr true rfl rfl (dT E)) (dAb 9 rfl rfl (dDone (by kernel_rfl) (xN (D _ _ (cT rfl (rS fun f4 a4 => sAi rfl (sK a4 (wp_ret (bR (bR (xR (xR (bR (xR (ret1 (.int .i64 (1)) results83 (resT rfl) ?_)))))))))))))))
       have a5 := (((h.trans c).trans d).trans i).trans j;exact ⟨(1), rfl, a5, (by rw [← l, ← n]; rw [cmpTop_stop hX (by omega) (fun hh => by have h9 := cmp_getD.1 hh; omega), co_zl, co_zl]; have h9 := cmpZ_cases ((f.getD (k - 1) 0 : Nat) : Int) ((g.getD (k - 1) 0 : Nat) : Int); omega)⟩
      ·refine dV 8 rfl (fun _ _ => evGtr false rfl rfl (dF E)) (dAb 9 rfl rfl (dDone (by kernel_rfl) (xN (D _ _ (cF rfl (wp_skip (bN (bN (xN (Y _ _ (wp_region_lit (sMi rfl (sV (evSub (((k : Int) - 1) - 1) rfl rfl wI) (sAi rfl (sDone ?_)))))))))))))))
       have a6 := i.trans j;refine again ((k - 1)) Qo ⟨(k - 1), rfl, rfl, rfl, cI, (d.trans a6), ?_, ?_⟩
       ·omega
       ·exact cmpTop_down hX Qo (cmp_getD.2 Qo)
    ·refine sV (evGeq false rfl rfl (dF A)) (sK z (cF rfl (wp_exit (xE (xE (bE (xN (S _ _ (rS fun f5 a7 => sAi rfl (sK a7 (wp_ret (ret1 (.int .i64 (0)) results83 (resT rfl) ?_))))))))))))
     have a8 := (h.trans c).trans d;exact ⟨(0), rfl, a8, (by rw [← l, ← n]; rw [hX, show k = 0 by omega]; rfl)⟩
theorem modpoly_Same {w : World} {Sf : Nat → Prop} {Af : Option Addr} {nf cf : Nat} {df : List Nat} {Sg : Nat → Prop} {Ag : Option Addr} {ng cg : Nat} {dg : List Nat} {xm : Nat} (hf : NatR w Sf Af nf cf df) (hg : NatR w Sg Ag ng cg dg) (bm : xm < 4294967296) (hnf : nf ≤ 1048576) (hng : ng ≤ 1048576) (hm : 0 < xm) : Calls Tryz.prog 43 #[(.slice Af nf cf), (.slice Ag ng cg), (.int .u32 xm)] w (Ret fun v w' => ∃ (gr : Bool), v = (.bool gr) ∧ Ext w w' ∧ (gr = decide (nrmP xm df = nrmP xm dg))) := by
 have ⟨lf, kf, mf⟩ := hf.lkm;replace hf := hf.low;have ⟨lg, kg, mg⟩ := hg.lkm;replace hg := hg.low;refine enter func43 rfl ntmps43 rfl (rS fun g b => sAb rfl (sK b (rS fun h c => sMs rfl (sMs rfl (sMi rfl (sO (oCall rfl call83 (modpoly_Compare hf hg (xm := xm) Qo Qo Qo Qo) rfl ?_)))))));rintro _ i ⟨e, rfl, a, d⟩;have f := a.size;refine sV (evEql (decide (nrmP xm df = nrmP xm dg)) rfl rfl (decide_eq_decide.2 (by rw [d]; exact same_zl))) (sAb rfl (sK c (wp_ret (ret1 (.bool (decide (nrmP xm df = nrmP xm dg))) results43 (resT rfl) ?_))));exact ⟨(decide (nrmP xm df = nrmP xm dg)), rfl, a, rfl⟩
theorem modpoly_Sub {w : World} {Sf : Nat → Prop} {Af : Option Addr} {nf cf : Nat} {df : List Nat} {Sg : Nat → Prop} {Ag : Option Addr} {ng cg : Nat} {dg : List Nat} {xm : Nat} (hf : NatR w Sf Af nf cf df) (hg : NatR w Sg Ag ng cg dg) (bm : xm < 4294967296) (hnf : nf ≤ 1048576) (hng : ng ≤ 1048576) (hm : 0 < xm) : Calls Tryz.prog 115 #[(.slice Af nf cf), (.slice Ag ng cg), (.int .u32 xm)] w (Ret fun v w' => ∃ (Ar : Option Addr) (nr : Nat) (cr : Nat) (dr : List Nat), v = (.slice Ar nr cr) ∧ Ext w w' ∧ NatR w' (fun b => w.heap.size ≤ b) Ar nr cr dr ∧ (dr = subP xm df dg) ∧ (nr ≤ max nf ng) ∧ (CanP xm dr)) := by
 have ⟨lf, kf, mf⟩ := hf.lkm;replace hf := hf.low;have ⟨lg, kg, mg⟩ := hg.lkm;replace hg := hg.low;refine enter func115 rfl ntmps115 rfl (rS fun K1 a1 => sAs rfl (sK a1 (rS fun K2 a2 => sMs rfl (sV (evLen underlying46 rfl) (sMs rfl (sV (evLen underlying46 rfl) (sV (evMax (((max nf ng : Nat) : Int)) rfl rfl (by split <;> omega)) (sO (oMake1 (max nf ng) underlying46 inf26 rfl cI cI Qo Qo (fun c w4 c6 s c7 a3 => ?_))))))))));have a4 : Blk w4 c 26 (((List.replicate (max nf ng) 0)).map u32) := by rw [List.map_replicate]; exact a3
 refine sAs rfl (sK a2 (rS fun c8 H => sMs rfl (sMs rfl ?_)));have a5 := (hf.ext s);obtain ⟨X, hXe⟩ : ∃ X, X = df ++ List.replicate (max nf ng - nf) 0 := ⟨_, rfl⟩;have hXt : ∀ d ∈ X, d < BS := (by rw [hXe]; exact lt_fill hf.2); have hXg : ∀ i, X.getD i 0 = df.getD i 0 := (by intro i; rw [hXe]; exact pad_get _ _ _); have hXl : X.length = max nf ng := (by rw [hXe]; simp; omega);refine sO (oCopy underlying46 sz26 rfl rfl a5.1 (u32s_one _) a4 Qo (by exact lq) (fun G t b6 h => ?_));replace h : Blk G c 26 ((X).map u32) := by rw [← (by rw [hXe]; simp : (List.replicate (max nf ng) 0).take 0 ++ df ++ (List.replicate (max nf ng) 0).drop (0 + nf) = X), List.map_append, List.map_append, List.map_take, List.map_drop]; exact h
 rw [put_mkA];refine sK H (wp_seq_k fun c9 I => rS fun d0 J => sMs rfl (sV (evLen underlying46 rfl) (sMi rfl (sK J (wp_block ?_)))));refine lLoop (fun m e w_ => ∃ (k : Nat) (L : List Nat), m = ng - k ∧ e 1 = (.slice Ag ng cg) ∧ e 2 = (.int .u32 xm) ∧ e 7 = (.slice (some ⟨c, 0, none⟩) (max nf ng) (max nf ng)) ∧ e 19 = (.int .i64 ng) ∧ e 20 = (.int .i64 k) ∧ Frm (fun b => b = c) G w_ ∧ Blk w_ c 26 ((L ++ X.drop k).map u32) ∧ (k ≤ ng) ∧ (L.length = k) ∧ (∀ i, i < k → L.getD i 0 = (fun i => md xm (((df.getD i 0 : Nat) : Int) - (dg.getD i 0 : Nat))) i) ∧ (∀ d ∈ L, d < xm)) (ng - (0)) ?_ ?_
 ·refine ⟨(0), ([]), rfl, rfl, rfl, rfl, rfl, cI, (Frm.refl _ _), ?_, ?_, ?_, ?_, ?_⟩
  ·exact h
  ·omega
  ·rfl
  ·intro i hi; omega
  ·simp
 ·rintro d1 d2 a6 ⟨k, L, b7, K, M, O, P, Q, f, u, hk, hLl, hL, hLt⟩
  obtain ⟨d3, rfl⟩ := sq5 K M O P Q;have b8 := f.size;refine rS fun d4 x => ?_
  by_cases y : ((k : Int)) < ((ng : Int))
  ·refine sV (evLss true rfl rfl (dT y)) (sK x (wp_seq_k fun d5 R => cT rfl (wp_skip (xN (R _ _ (wp_seq_k fun d6 S => wp_block (rS fun d7 T => sMi rfl (sAi rfl (sK T (dBegin (fun b => b = c) mixed (fun d8 j b9 => dMs 0 rfl rfl (dMi 1 rfl rfl (dMs 2 rfl rfl (dMi 3 rfl rfl (dV 4 rfl (fun _ _ => evIx k underlying46 sz26 rfl rfl k) (dMs 6 rfl rfl (dMi 7 rfl rfl ?_)))))))))))))))))
   have U := ((s.rx t).trans f).xr j;have z := (hg.frmB U q3);obtain ⟨d9, a7, rfl⟩ := z.base Qo;refine dV 8 rfl (fun _ _ => evIx k underlying46 sz26 rfl rfl (a7 + k)) ?_;have c0 := z.lt k;refine dV 9 rfl (fun _ hf => evLoad one26 rfl ((z.frm hf q2).cell Qo)) (dMi 10 rfl rfl ?_);have A := (u.ext j);have c1 := getD_lt (ds := L ++ X.drop k) (i := k) (lt_midX (lt_BS bm hLt) hXt);refine dOp 5 rfl rfl (by kernel_rfl) (oEv (v := (.int .u32 ((((L ++ X.drop k).getD k 0 : Nat) : Int)))) (evLoad one26 rfl (A.dig (by exact lq))) rfl ⟨Frm.refl _ _, dOp 11 rfl rfl (by kernel_rfl) (oCall rfl call129 (modular_Sub (xa := (L ++ X.drop k).getD k 0) Qo (xb := dg.getD k 0) Qo (xm := xm) Qo Qo) rfl ?_)⟩);rintro _ e0 ⟨a, rfl, g, b0, B⟩;refine ⟨(Frm.of_ext g), ?_⟩;have c2 := g.size;refine dV 12 rfl (fun _ _ => evIx k underlying46 sz26 rfl rfl k) ?_;have V := (A.ext g);refine dOp 13 rfl rfl (by kernel_rfl) (oStore1 rfl rfl rfl sz26 V (by exact lq) (fun a8 C c3 l => ?_));replace l : Blk a8 c 26 (((L ++ [a]) ++ X.drop (k + 1)).map u32) := by rw [← (mid_setN hLl (by omega) : (L ++ X.drop k).set k a = (L ++ [a]) ++ X.drop (k + 1)), List.map_set]; exact l
   refine ⟨C, dDone (by kernel_rfl) (bN (xN (S _ _ (wp_region_lit (sV (evAdd (((k : Int)) + 1) rfl rfl wI) (sMi rfl (sDone ?_)))))))⟩;have W := (j.trans g).rx C;refine again (ng - (k + 1)) Qo ⟨(k + 1), (L ++ [a]), rfl, rfl, rfl, rfl, rfl, cI, (f.trans W), ?_, ?_, ?_, ?_, ?_⟩
   ·exact l
   ·omega
   ·simp [hLl]
   ·exact fill_snoc hLl hL (by rw [B, mid_getN hLl, hXg]; exact md_sub (by omega) _ _)
   ·exact lt_snocP hLt (by rw [B]; exact Nat.mod_lt _ (by omega))
  ·refine sV (evLss false rfl rfl (dF y)) (sK x (wp_seq_k fun e1 c4 => cF rfl (wp_exit (xE (xE (bE (xN (I _ _ (rS fun e2 Y => sMs rfl (sMi rfl ?_))))))))))
   have a9 : NatR a6 (fun b => b = c) (some ⟨c, 0, none⟩) (max nf ng) (max nf ng) (L ++ X.drop k) := NatR.of_blk u rfl (lt_midX (lt_BS bm hLt) hXt) (by exact lq) Qo (by unfold CapMax; omega);refine sO (oCall rfl call77 (modpoly_Normal a9 (xm := xm) Qo Qo Qo) rfl ?_);rintro _ e3 ⟨o, p, q, E, rfl, D, r, Z, b1, F⟩;have c5 := D.size;have ⟨b2, b3, b4⟩ := r.lkm;refine sAs rfl (sK Y (wp_ret (ret1 (.slice o p q) results115 (resT rfl) ?_)));have a0 := ((s.rx t).trans f).xr D;exact ⟨o, p, q, E, rfl, (Frm.mono a0 q4), (NatR.sub r q5), (by rw [Z, show k = dg.length by omega]; exact sub_fill (n := 0) (N := max nf ng) (by omega) hXg hXl (by omega) (by omega) (fun i hi => hL i (by omega))), (by omega), F⟩
theorem modpoly_Add {w : World} {Sf : Nat → Prop} {Af : Option Addr} {nf cf : Nat} {df : List Nat} {Sg : Nat → Prop} {Ag : Option Addr} {ng cg : Nat} {dg : List Nat} {xm : Nat} (hf : NatR w Sf Af nf cf df) (hg : NatR w Sg Ag ng cg dg) (bm : xm < 4294967296) (hnf : nf ≤ 1048576) (hng : ng ≤ 1048576) (hm : 0 < xm) : Calls Tryz.prog 154 #[(.slice Af nf cf), (.slice Ag ng cg), (.int .u32 xm)] w (Ret fun v w' => ∃ (Ar : Option Addr) (nr : Nat) (cr : Nat) (dr : List Nat), v = (.slice Ar nr cr) ∧ Ext w w' ∧ NatR w' (fun b => w.heap.size ≤ b) Ar nr cr dr ∧ (dr = addP xm df dg) ∧ (nr ≤ max nf ng) ∧ (CanP xm dr)) := by
 have ⟨lf, kf, mf⟩ := hf.lkm;replace hf := hf.low;have ⟨lg, kg, mg⟩ := hg.lkm;replace hg := hg.low;refine enter func154 rfl ntmps154 rfl (rS fun K1 a1 => sAs rfl (sK a1 (rS fun K2 a2 => sMs rfl (sV (evLen underlying46 rfl) (sMs rfl (sV (evLen underlying46 rfl) (sV (evMax (((max nf ng : Nat) : Int)) rfl rfl (by split <;> omega)) (sO (oMake1 (max nf ng) underlying46 inf26 rfl cI cI Qo Qo (fun c w4 c6 s c7 a3 => ?_))))))))));have a4 : Blk w4 c 26 (((List.replicate (max nf ng) 0)).map u32) := by rw [List.map_replicate]; exact a3
 refine sAs rfl (sK a2 (rS fun c8 H => sMs rfl (sMs rfl ?_)));have a5 := (hf.ext s);obtain ⟨X, hXe⟩ : ∃ X, X = df ++ List.replicate (max nf ng - nf) 0 := ⟨_, rfl⟩;have hXt : ∀ d ∈ X, d < BS := (by rw [hXe]; exact lt_fill hf.2); have hXg : ∀ i, X.getD i 0 = df.getD i 0 := (by intro i; rw [hXe]; exact pad_get _ _ _); have hXl : X.length = max nf ng := (by rw [hXe]; simp; omega);refine sO (oCopy underlying46 sz26 rfl rfl a5.1 (u32s_one _) a4 Qo (by exact lq) (fun G t b6 h => ?_));replace h : Blk G c 26 ((X).map u32) := by rw [← (by rw [hXe]; simp : (List.replicate (max nf ng) 0).take 0 ++ df ++ (List.replicate (max nf ng) 0).drop (0 + nf) = X), List.map_append, List.map_append, List.map_take, List.map_drop]; exact h
 rw [put_mkA];refine sK H (wp_seq_k fun c9 I => rS fun d0 J => sMs rfl (sV (evLen underlying46 rfl) (sMi rfl (sK J (wp_block ?_)))));refine lLoop (fun m e w_ => ∃ (k : Nat) (L : List Nat), m = ng - k ∧ e 1 = (.slice Ag ng cg) ∧ e 2 = (.int .u32 xm) ∧ e 7 = (.slice (some ⟨c, 0, none⟩) (max nf ng) (max nf ng)) ∧ e 19 = (.int .i64 ng) ∧ e 20 = (.int .i64 k) ∧ Frm (fun b => b = c) G w_ ∧ Blk w_ c 26 ((L ++ X.drop k).map u32) ∧ (k ≤ ng) ∧ (L.length = k) ∧ (∀ i, i < k → L.getD i 0 = (fun i => md xm (((df.getD i 0 : Nat) : Int) + (dg.getD i 0 : Nat))) i) ∧ (∀ d ∈ L, d < xm)) (ng - (0)) ?_ ?_
 ·refine ⟨(0), ([]), rfl, rfl, rfl, rfl, rfl, cI, (Frm.refl _ _), ?_, ?_, ?_, ?_, ?_⟩
  ·exact h
  ·omega
  ·rfl
  ·intro i hi; omega
  ·simp
 ·rintro d1 d2 a6 ⟨k, L, b7, K, M, O, P, Q, f, u, hk, hLl, hL, hLt⟩
  obtain ⟨d3, rfl⟩ := sq5 K M O P Q;have b8 := f.size;refine rS fun d4 x => ?_
  by_cases y : ((k : Int)) < ((ng : Int))
  ·refine sV (evLss true rfl rfl (dT y)) (sK x (wp_seq_k fun d5 R => cT rfl (wp_skip (xN (R _ _ (wp_seq_k fun d6 S => wp_block (rS fun d7 T => sMi rfl (sAi rfl (sK T (dBegin (fun b => b = c) mixed (fun d8 j b9 => dMs 0 rfl rfl (dMi 1 rfl rfl (dMs 2 rfl rfl (dMi 3 rfl rfl (dV 4 rfl (fun _ _ => evIx k underlying46 sz26 rfl rfl k) (dMs 6 rfl rfl (dMi 7 rfl rfl ?_)))))))))))))))))
   have U := ((s.rx t).trans f).xr j;have z := (hg.frmB U q3);obtain ⟨d9, a7, rfl⟩ := z.base Qo;refine dV 8 rfl (fun _ _ => evIx k underlying46 sz26 rfl rfl (a7 + k)) ?_;have c0 := z.lt k;refine dV 9 rfl (fun _ hf => evLoad one26 rfl ((z.frm hf q2).cell Qo)) (dMi 10 rfl rfl ?_);have A := (u.ext j);have c1 := getD_lt (ds := L ++ X.drop k) (i := k) (lt_midX (lt_BS bm hLt) hXt);refine dOp 5 rfl rfl (by kernel_rfl) (oEv (v := (.int .u32 ((((L ++ X.drop k).getD k 0 : Nat) : Int)))) (evLoad one26 rfl (A.dig (by exact lq))) rfl ⟨Frm.refl _ _, dOp 11 rfl rfl (by kernel_rfl) (oCall rfl call153 (modular_Add (xa := (L ++ X.drop k).getD k 0) Qo (xb := dg.getD k 0) Qo (xm := xm) Qo Qo) rfl ?_)⟩);rintro _ e0 ⟨a, rfl, g, b0, B⟩;refine ⟨(Frm.of_ext g), ?_⟩;have c2 := g.size;refine dV 12 rfl (fun _ _ => evIx k underlying46 sz26 rfl rfl k) ?_;have V := (A.ext g);refine dOp 13 rfl rfl (by kernel_rfl) (oStore1 rfl rfl rfl sz26 V (by exact lq) (fun a8 C c3 l => ?_));replace l : Blk a8 c 26 (((L ++ [a]) ++ X.drop (k + 1)).map u32) := by rw [← (mid_setN hLl (by omega) : (L ++ X.drop k).set k a = (L ++ [a]) ++ X.drop (k + 1)), List.map_set]; exact l
   refine ⟨C, dDone (by kernel_rfl) (bN (xN (S _ _ (wp_region_lit (sV (evAdd (((k : Int)) + 1) rfl rfl wI) (sMi rfl (sDone ?_)))))))⟩;have W := (j.trans g).rx C;refine again (ng - (k + 1)) Qo ⟨(k + 1), (L ++ [a]), rfl, rfl, rfl, rfl, rfl, cI, (f.trans W), ?_, ?_, ?_, ?_, ?_⟩
   ·exact l
   ·omega
   ·simp [hLl]
   ·exact fill_snoc hLl hL (by rw [B, mid_getN hLl, hXg]; exact md_add (by omega) _ _)
   ·exact lt_snocP hLt (by rw [B]; exact Nat.mod_lt _ (by omega))
  ·refine sV (evLss false rfl rfl (dF y)) (sK x (wp_seq_k fun e1 c4 => cF rfl (wp_exit (xE (xE (bE (xN (I _ _ (rS fun e2 Y => sMs rfl (sMi rfl ?_))))))))))
   have a9 : NatR a6 (fun b => b = c) (some ⟨c, 0, none⟩) (max nf ng) (max nf ng) (L ++ X.drop k) := NatR.of_blk u rfl (lt_midX (lt_BS bm hLt) hXt) (by exact lq) Qo (by unfold CapMax; omega);refine sO (oCall rfl call77 (modpoly_Normal a9 (xm := xm) Qo Qo Qo) rfl ?_);rintro _ e3 ⟨o, p, q, E, rfl, D, r, Z, b1, F⟩;have c5 := D.size;have ⟨b2, b3, b4⟩ := r.lkm;refine sAs rfl (sK Y (wp_ret (ret1 (.slice o p q) results154 (resT rfl) ?_)));have a0 := ((s.rx t).trans f).xr D;exact ⟨o, p, q, E, rfl, (Frm.mono a0 q4), (NatR.sub r q5), (by rw [Z, show k = dg.length by omega]; exact add_fillP (n := 0) (N := max nf ng) (by omega) hXg hXl (by omega) (by omega) (fun i hi => hL i (by omega))), (by omega), F⟩
set_option maxHeartbeats 1000000 in
theorem modpoly_Mul {w : World} {Sf : Nat → Prop} {Af : Option Addr} {nf cf : Nat} {df : List Nat} {Sg : Nat → Prop} {Ag : Option Addr} {ng cg : Nat} {dg : List Nat} {xm : Nat} (hf : NatR w Sf Af nf cf df) (hg : NatR w Sg Ag ng cg dg) (bm : xm < 4294967296) (hnf : nf ≤ 1048576) (hng : ng ≤ 1048576) (hm : 0 < xm) : Calls Tryz.prog 57 #[(.slice Af nf cf), (.slice Ag ng cg), (.int .u32 xm)] w (Ret fun v w' => ∃ (Ar : Option Addr) (nr : Nat) (cr : Nat) (dr : List Nat), v = (.slice Ar nr cr) ∧ Ext w w' ∧ NatR w' (fun b => w.heap.size ≤ b) Ar nr cr dr ∧ (dr = mulP xm df dg) ∧ (nr ≤ nf + ng - 1) ∧ (CanP xm dr)) := by
 have ⟨lf, kf, mf⟩ := hf.lkm;replace hf := hf.low;have ⟨lg, kg, mg⟩ := hg.lkm;replace hg := hg.low;refine enter func57 rfl ntmps57 rfl (rS fun K1 e5 => sAs rfl (sK e5 (rS fun K2 e6 => sMs rfl (sMi rfl (sO (oCall rfl call77 (modpoly_Normal hf (xm := xm) Qo Qo Qo) rfl ?_))))));rintro _ w4 ⟨a4, c, I, f, rfl, u, J, K, f9, g0⟩;have i4 := u.size;have ⟨g1, g2, g3⟩ := J.lkm;refine sMs rfl (sMi rfl ?_);have h8 := (hg.ext u);refine sO (oCall rfl call77 (modpoly_Normal h8 (xm := xm) Qo Qo Qo) rfl ?_);rintro _ i5 ⟨p, a, r, g, rfl, l, L, M, g5, g6⟩;have g7 := l.size;have ⟨g8, g9, h0⟩ := L.lkm;refine sAs rfl (sAs rfl (sK e6 (wp_seq_k fun i6 a5 => rS fun i7 B => sMs rfl (sV (evLen underlying46 rfl) ?_))))
 by_cases N : ((c : Int)) = 0
 ·refine sV (evEql true rfl rfl (dT N)) (sMb rfl (sSkip rfl rfl (sSkip rfl rfl (sSkip rfl rfl (sV (v := (.bool true)) (rfl) (sK B (cT rfl (rS fun i8 a6 => sAs rfl (sK a6 (wp_ret (xR (ret1 (.slice none 0 0) results57 (resT rfl) ?_))))))))))))
  have a7 := u.trans l;exact ⟨none, 0, 0, ([]), rfl, a7, NatR.nil, (mulP_nil K M Qo), Qo, CanP.nil⟩
 ·refine sV (evEql false rfl rfl (dF N)) (sMb rfl (sEv (v := (.slice p a r)) (rfl) rfl rfl (sEv (v := (.int .i64 a)) (evLen underlying46 rfl) rfl rfl ?_)))
  by_cases O : ((a : Int)) = 0
  ·refine sEv (v := (.bool true)) (evEql true rfl rfl (dT O)) rfl rfl (sV (v := (.bool true)) (rfl) (sK B (cT rfl (rS fun i9 a8 => sAs rfl (sK a8 (wp_ret (xR (ret1 (.slice none 0 0) results57 (resT rfl) ?_))))))))
   have a9 := u.trans l;exact ⟨none, 0, 0, ([]), rfl, a9, NatR.nil, (mulP_nil K M Qo), Qo, CanP.nil⟩
  ·refine sEv (v := (.bool false)) (evEql false rfl rfl (dF O)) rfl rfl (sV (v := (.bool false)) (rfl) (sK B (cF rfl (wp_skip (xN (a5 _ _ (rS fun j0 b0 => sMi rfl (sV (evMax ((xm : Int)) rfl rfl (by split <;> omega)) (sV (evConv ((xm : Int)) underlying26 underlying100 rfl (wU64 Qo)) (sAi rfl (sK b0 (rS fun j1 b1 => sMs rfl (sV (evLen underlying46 rfl) (sMs rfl (sV (evLen underlying46 rfl) (sV (evAdd (((c : Int)) + ((a : Int))) rfl rfl wI) (sV (evSub ((((c : Int)) + ((a : Int))) - 1) rfl rfl wI) (sO (oMake1 ((c + a) - 1) underlying46 inf26 rfl cI cI Qo Qo (fun h a1 h1 C h2 b2 => ?_))))))))))))))))))))
   have b3 : Blk a1 h 26 (((List.replicate ((c + a) - 1) 0)).map u32) := by rw [List.map_replicate]; exact b2
   refine sAs rfl (sK b1 (wp_seq_k fun j2 b4 => rS fun j3 b5 => sMs rfl (sV (evLen underlying46 rfl) (sMi rfl (sK b5 (wp_block ?_))))));refine lLoop (fun m e w_ => ∃ (i : Nat) (o : List Nat), m = c - i ∧ e 1 = (.slice p a r) ∧ e 7 = (.int .u64 xm) ∧ e 8 = (.slice (some ⟨h, 0, none⟩) ((c + a) - 1) ((c + a) - 1)) ∧ e 37 = (.slice a4 c I) ∧ e 38 = (.int .i64 c) ∧ e 39 = (.int .i64 i) ∧ Frm (fun b => b = h) a1 w_ ∧ Blk w_ h 26 (o.map u32) ∧ (i ≤ c) ∧ (o.length = c + a - 1) ∧ (∀ d ∈ o, d < xm) ∧ (∀ j, o.getD j 0 = md xm (mulI (zl f) (zl g) i 0 j))) (c - (0)) ?_ ?_
   ·refine ⟨(0), (List.replicate (c + a - 1) 0), rfl, rfl, rfl, rfl, rfl, rfl, cI, (Frm.refl _ _), ?_, ?_, ?_, ?_, ?_⟩
    ·exact b3
    ·omega
    ·simp
    ·intro d hd; rw [List.eq_of_mem_replicate hd]; omega
    ·exact mulP_zero _
   ·rintro j4 j5 a2 ⟨i, o, h3, b6, b7, b8, b9, c0, c1, n, P, hi, hl, hot, ho⟩
    obtain ⟨j6, rfl⟩ := sq6 b6 b7 b8 b9 c0 c1;have h4 := n.size;refine rS fun j7 Q => ?_
    by_cases R : ((i : Int)) < ((c : Int))
    ·refine sV (evLss true rfl rfl (dT R)) (sK Q (wp_seq_k fun j8 c2 => cT rfl (wp_skip (xN (c2 _ _ (wp_seq_k fun j9 c3 => wp_block (rS fun k0 c4 => sMi rfl ?_)))))))
     have c5 := (l.trans C).rx n;have S := (J.frmB c5 q3);obtain ⟨e7, a3, rfl⟩ := S.base Qo;refine sV (evIx i underlying46 sz26 rfl rfl (a3 + i)) ?_;have h5 := S.lt i;refine sV (evLoad one26 rfl (S.cell Qo)) (sAi rfl (sAi rfl (sK c4 (rS fun k1 c6 => sMs rfl (sV (evLen underlying46 rfl) (sMi rfl (sK c6 (wp_block ?_))))))));refine lLoop (fun m e w_ => ∃ (k : Nat) (q : List Nat), m = a - k ∧ e 1 = (.slice p a r) ∧ e 7 = (.int .u64 xm) ∧ e 8 = (.slice (some ⟨h, 0, none⟩) ((c + a) - 1) ((c + a) - 1)) ∧ e 9 = (.int .i64 i) ∧ e 10 = (.int .u32 (((f.getD i 0 : Nat) : Int))) ∧ e 37 = (.slice (some ⟨e7, a3, none⟩) c I) ∧ e 38 = (.int .i64 c) ∧ e 39 = (.int .i64 i) ∧ e 44 = (.slice p a r) ∧ e 45 = (.int .i64 a) ∧ e 46 = (.int .i64 k) ∧ Frm (fun b => b = h) a2 w_ ∧ Blk w_ h 26 (q.map u32) ∧ (k ≤ a) ∧ (q.length = c + a - 1) ∧ (∀ d ∈ q, d < xm) ∧ (∀ j, q.getD j 0 = md xm (mulI (zl f) (zl g) i k j))) (a - (0)) ?_ ?_
     ·refine ⟨(0), (o), rfl, rfl, rfl, rfl, rfl, rfl, rfl, rfl, rfl, rfl, rfl, cI, (Frm.refl _ _), ?_, ?_, ?_, ?_, ?_⟩
      ·exact P
      ·omega
      ·omega
      ·exact hot
      ·exact ho
     ·rintro k2 k3 k4 ⟨k, q, h6, c7, c8, c9, d0, d1, d2, d3, d4, d5, d6, d7, s, T, hk, hlq, hqt, hq⟩
      obtain ⟨k5, rfl⟩ := sq11 c7 c8 c9 d0 d1 d2 d3 d4 d5 d6 d7;have h7 := s.size;refine rS fun k6 U => ?_
      by_cases V : ((k : Int)) < ((a : Int))
      ·refine sV (evLss true rfl rfl (dT V)) (sK U (wp_seq_k fun k7 d8 => cT rfl (wp_skip (xN (d8 _ _ (wp_seq_k fun k8 d9 => wp_block (rS fun k9 e0 => sMi rfl ?_)))))))
       have e1 := (C.rx n).trans s;have W := (L.frmB e1 q3);obtain ⟨l0, e2, rfl⟩ := W.base Qo;refine sV (evIx k underlying46 sz26 rfl rfl (e2 + k)) ?_;have f2 := W.lt k;refine sV (evLoad one26 rfl (W.cell Qo)) (sAi rfl (sAi rfl (sK e0 (dBegin (fun b => b = h) mixed (fun h9 D f3 => dMs 0 rfl rfl (dMi 1 rfl rfl (dMi 2 rfl rfl (dV 3 rfl (fun _ _ => evAdd (((i : Int)) + ((k : Int))) rfl rfl wI) (dMs 4 rfl rfl (dMi 5 rfl rfl (dMi 6 rfl rfl (dV 7 rfl (fun _ _ => evAdd (((i : Int)) + ((k : Int))) rfl rfl wI) (dV 8 rfl (fun _ _ => evIx (i + k) underlying46 sz26 rfl rfl (i + k)) (dMi 11 rfl rfl (dV 12 rfl (fun _ _ => evConv (((f.getD i 0 : Nat) : Int)) underlying26 underlying100 rfl (wU64 Qo)) (dMi 13 rfl rfl (dV 14 rfl (fun _ _ => evConv (((g.getD k 0 : Nat) : Int)) underlying26 underlying100 rfl (wU64 Qo)) (dV 15 rfl (fun _ _ => evMul ((((f.getD i 0) * (g.getD k 0) : Nat) : Int)) rfl rfl (mulU64 (mul32_le Qo Qo))) ?_))))))))))))))))));refine dMi 16 rfl rfl (dV 17 rfl (fun _ _ => evRem (((((f.getD i 0) * (g.getD k 0)) % xm : Nat) : Int)) rfl rfl Qo (remE Qo Qo)) ?_);have l1 := Nat.mod_lt ((f.getD i 0) * (g.getD k 0)) (show 0 < xm by omega);refine dMi 19 rfl rfl ?_;have E := (T.ext D);have f4 := getD_lt (ds := q) (i := i + k) (lt_BS bm hqt);refine dOp 9 rfl rfl (by kernel_rfl) (oEv (v := (.int .u32 (((q.getD (i + k) 0 : Nat) : Int)))) (evLoad one26 rfl (E.dig (by exact lq))) rfl ⟨Frm.refl _ _, dV 10 rfl (fun _ _ => evConv (((q.getD (i + k) 0 : Nat) : Int)) underlying26 underlying100 rfl (wU64 Qo)) (dV 18 rfl (fun _ _ => evAdd ((((q.getD (i + k) 0) + (((f.getD i 0) * (g.getD k 0)) % xm) : Nat) : Int)) rfl rfl (wU64 Qo)) (dV 20 rfl (fun _ _ => evRem (((((q.getD (i + k) 0) + (((f.getD i 0) * (g.getD k 0)) % xm)) % xm : Nat) : Int)) rfl rfl Qo (remE Qo Qo)) ?_))⟩);have l2 := Nat.mod_lt (((q.getD (i + k) 0) + (((f.getD i 0) * (g.getD k 0)) % xm))) (show 0 < xm by omega);refine dV 21 rfl (fun _ _ => evConv (((((q.getD (i + k) 0) + (((f.getD i 0) * (g.getD k 0)) % xm)) % xm : Nat) : Int)) underlying100 underlying26 rfl (wU32 ⟨rfl, by omega, by omega⟩)) (dV 22 rfl (fun _ _ => evIx (i + k) underlying46 sz26 rfl rfl (i + k)) (dOp 23 rfl rfl (by kernel_rfl) (oStore1 rfl rfl rfl sz26 E (by exact lq) (fun e3 F f5 t => ?_))));replace t : Blk e3 h 26 ((q.set (i + k) (((q.getD (i + k) 0) + (((f.getD i 0) * (g.getD k 0)) % xm)) % xm)).map u32) := by rw [List.map_set]; exact t
       refine ⟨F, dDone (by kernel_rfl) (bN (xN (d9 _ _ (wp_region_lit (sV (evAdd (((k : Int)) + 1) rfl rfl wI) (sMi rfl (sDone ?_)))))))⟩;have Y := D.rx F;refine again (a - (k + 1)) Qo ⟨(k + 1), (q.set (i + k) (((q.getD (i + k) 0) + (((f.getD i 0) * (g.getD k 0)) % xm)) % xm)), rfl, rfl, rfl, rfl, rfl, rfl, rfl, rfl, rfl, rfl, rfl, cI, (s.trans Y), ?_, ?_, ?_, ?_, ?_⟩
       ·exact t
       ·omega
       ·simp; omega
       ·exact lt_set hqt (Nat.mod_lt _ Qo)
       ·exact mulP_cell Qo hq Qo rfl (co_zl _ _) (co_zl _ _)
      ·refine sV (evLss false rfl rfl (dF V)) (sK U (wp_seq_k fun i0 f6 => cF rfl (wp_exit (xE (xE (bE (bN (xN (c3 _ _ (wp_region_lit (sV (evAdd (((i : Int)) + 1) rfl rfl wI) (sMi rfl (sDone (again (c - (i + 1)) Qo ⟨(i + 1), (q), rfl, rfl, rfl, rfl, rfl, rfl, cI, (n.trans s), ?_, ?_, ?_, ?_, ?_⟩))))))))))))))
       ·exact T
       ·omega
       ·omega
       ·exact hqt
       ·exact mulP_next (by rw [zl_len, show g.length = k by omega]; exact hq)
    ·refine sV (evLss false rfl rfl (dF R)) (sK Q (wp_seq_k fun i1 f7 => cF rfl (wp_exit (xE (xE (bE (xN (b4 _ _ (rS fun i2 Z => sMs rfl ?_)))))))))
     have e4 : NatR a2 (fun b => b = h) (some ⟨h, 0, none⟩) ((c + a) - 1) ((c + a) - 1) (o) := NatR.of_blk P rfl (lt_BS bm hot) (by exact lq) Qo (by unfold CapMax; omega);refine sO (oCall rfl call53 (modpoly_trim e4) rfl ?_);rintro _ i3 ⟨x, y, z, X, rfl, G, A, H, e8⟩;have f8 := G.size;have ⟨e9, f0, f1⟩ := A.lkm;refine sAs rfl (sK Z (wp_ret (ret1 (.slice x y z) results57 (resT rfl) ?_)));have a0 := (((u.trans l).trans C).rx n).xr G;exact ⟨x, y, z, X, rfl, (Frm.mono a0 q4), (NatR.sub A q5), (by rw [H]; unfold mulP; rw [← K, ← M]; exact mulP_end ho (by rw [zl_len]; omega) (by rw [zl_len, zl_len]; omega) (by rw [zl_len]; omega) (by rw [zl_len]; omega)), (by omega), (by rw [H]; exact canP_trim hot)⟩
end Go.Proofs.YtneolcopompkaaaGreatDoor
