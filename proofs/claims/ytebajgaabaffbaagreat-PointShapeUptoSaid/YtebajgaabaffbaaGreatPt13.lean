/-
  Shapes of points.
-/
import Derived.Test.YtebajgaabaffbaaGreatPt7
import Derived.Test.YtebajgaabaffbaaGreatLibB
import Derived.Test.YtebajgaabaffbaaGreatFacts2
namespace Go.Proofs.YtebajgaabaffbaaGreat
open Go.RowKit Go.Gx Tryz
theorem point_Shape {w : World} {Sa : Nat → Prop} {Aa : Option Addr} {na ca : Nat} {la : List CE} (ha : SListR (CK 40) w (Sa) Aa na ca la)  : Calls Tryz.prog 23 #[(.slice Aa na ca)] w (Ret fun v w' => ∃ (gr : Bool), v = (.bool gr) ∧ Ext w w' ∧ (gr = true ↔ na ≤ 4 ∧ allShp (la.map CE.v))) := by
 have ⟨ka, ja, ma⟩ := ha.lkm;replace ha := ha.low;refine enter func23 rfl ntmps23 rfl (rS fun K1 d9 => sAb rfl (sK d9 (wp_seq_k fun K2 e0 => rS fun K3 c1 => sMs rfl (sV (evLen underlying39 rfl) ?_))))
 by_cases c2 : ((na : Int)) > 4
 ·refine sV (evGtr true rfl rfl (dT c2)) (sK c1 (cT rfl (rS fun K5 e1 => sAb rfl (sK e1 (wp_ret (xR (ret1 (.bool false) results23 (resT rfl) ?_)))))))
  exact ⟨(false), rfl, (Frm.refl _ _), (⟨fun h => (by cases h), fun h => absurd h.1 Qo⟩)⟩
 ·refine sV (evGtr false rfl rfl (dF c2)) (sK c1 (cF rfl (wp_skip (xN (e0 _ _ (wp_seq_k fun K6 e2 => rS fun K7 e3 => sMs rfl (sV (evLen underlying39 rfl) (sMi rfl (sK e3 (wp_block ?_))))))))))
  refine lLoop (fun m e w_ => ∃ (i : Nat), m = na - i ∧ e 8 = (.slice Aa na ca) ∧ e 9 = (.int .i64 na) ∧ e 10 = (.int .i64 i) ∧ Frm (fun b => False) w w_ ∧ (allShp ((la.take i).map CE.v)) ∧ (i ≤ na)) (na - (0)) ?_ ?_
  ·refine ⟨(0), rfl, rfl, rfl, cI, (Frm.refl _ _), ?_, ?_⟩
   ·exact allShp_nil
   ·omega
  ·rintro m8 g6 w9 ⟨i, f8, c4, c5, c6, M, hs, hi⟩
   obtain ⟨g7, rfl⟩ := sq3 c4 c5 c6;have f9 := M.size;refine rS fun g8 a5 => ?_
   by_cases a6 : ((i : Int)) < ((na : Int))
   ·refine sV (evLss true rfl rfl (dT a6)) (sK a5 (wp_seq_k fun g9 c7 => cT rfl (wp_skip (xN (c7 _ _ (wp_seq_k fun h0 a7 => wp_block (rS fun h1 c8 => sMi rfl ?_)))))))
    have c3 := (ha.ext M);obtain ⟨h2, a8, rfl⟩ := c3.base Qo;refine sV (evIx i underlying39 sz47 rfl rfl (a8 + (i * 10))) ?_;obtain ⟨⟨⟨q, r, s, t, u, J, a, c, d, G⟩, ⟨y, z, A, B, K, f, g, j, H⟩, ⟨C, D, E, F, L, l, n, o, I⟩⟩, P, S, N, f6, f7⟩ := SListR.get (k := 10) (i := i) (p := (a8 + (i * 10))) c3 Qo rfl Qo;replace S : CellsAt w9 _ (a8 + (i * 10)) [(.int .i64 (q)), (.bool r), (.slice s t u), (.slice a c d), (.bool y), (.slice z A B), (.slice f g j), (.bool C), (.slice D E F), (.slice l n o)] := S; replace N : CR 40 w9 (fun b => b < w.heap.size) (⟨(TT.mk q r s t u J a c d G), (⟨y, z, A, B, K, f, g, j, H⟩ : QE), (⟨C, D, E, F, L, l, n, o, I⟩ : QE)⟩ : CE) := N;have T : TreeR w9 (fun b => b < w.heap.size) (TT.mk q r s t u J a c d G) := N.1.1; have b9 : CanT (TT.mk q r s t u J a c d G) := N.1.2; have a1 : QR 40 w9 (fun b => b < w.heap.size) (⟨y, z, A, B, K, f, g, j, H⟩ : QE) := N.2.1; have a2 : QR 40 w9 (fun b => b < w.heap.size) (⟨C, D, E, F, L, l, n, o, I⟩ : QE) := N.2.2;have ⟨e4, e5, e6⟩ := T.nat.lkm; have ⟨e7, e8, e9⟩ := T.list.lkm;have ⟨a9, b0⟩ := a1.lkm; dsimp only at a9 b0;have ⟨b1, b2⟩ := a2.lkm; dsimp only at b1 b2;refine sV (evLoadA [(.int .i64 (q)), (.bool r), (.slice s t u), (.slice a c d), (.bool y), (.slice z A B), (.slice f g j), (.bool C), (.slice D E F), (.slice l n o)] agg47 sz47 rfl S) (sO (oAlloc [(.int .i64 (0)), (.bool false), (.slice none 0 0), (.slice none 0 0), (.bool false), (.slice none 0 0), (.slice none 0 0), (.bool false), (.slice none 0 0), (.slice none 0 0)] zero47 rfl (fun f0 h3 g0 Y g1 c9 => sAi rfl (sO (oStore [(.int .i64 (q)), (.bool r), (.slice s t u), (.slice a c d), (.bool y), (.slice z A B), (.slice f g j), (.bool C), (.slice D E F), (.slice l n o)] rfl rfl rfl sz47 rfl c9 Qn ?_)))));intro b3 Z g2 Q;replace Q : Blk b3 f0 47 [(.int .i64 (q)), (.bool r), (.slice s t u), (.slice a c d), (.bool y), (.slice z A B), (.slice f g j), (.bool C), (.slice D E F), (.slice l n o)] := Q;refine sK c8 (rS fun h4 d0 => sV (evFA 4 fa47_1 rfl rfl) (sV (evLoadAB [(.bool y), (.slice z A B), (.slice f g j)] agg36 sz36 rfl Q rfl) (sV (evFA 7 fa47_2 rfl rfl) (sV (evLoadAB [(.bool C), (.slice D E F), (.slice l n o)] agg36 sz36 rfl Q rfl) ?_))));have U := Y.rx Z;have f1 := (a1.frmB U q3);have f2 := (a2.frmB U q3);refine sO (oCall rfl call15 (rational_Cmp_q (show QR 40 b3 (fun b => b < w.heap.size) (⟨y, z, A, B, K, f, g, j, H⟩ : QE) from (QR.sub f1 q5)) (show QR 40 b3 (fun b => b < w.heap.size) (⟨C, D, E, F, L, l, n, o, I⟩ : QE) from (QR.sub f2 q5)) Qo Qo) rfl ?_);rintro _ f3 ⟨a3, rfl, O, V⟩;have g3 := O.size;refine sK d0 (wp_block (rS fun h5 b4 => ?_))
    by_cases R : a3 = 1
    ·refine sV (evEql true rfl rfl (dT R)) (sAb rfl (sK b4 (cT rfl (rS fun h6 d1 => sAb rfl (sK d1 (wp_ret (bR (bR (xR (xR (bR (xR (ret1 (.bool false) results23 (resT rfl) ?_)))))))))))))
     have d2 := ((M.trans Y).rx Z).xr O;exact ⟨(false), rfl, (Frm.mono d2 q4), (shp_ret P (cN1 (x := (⟨(TT.mk q r s t u J a c d G), (⟨y, z, A, B, K, f, g, j, H⟩ : QE), (⟨C, D, E, F, L, l, n, o, I⟩ : QE)⟩ : CE)) V R))⟩
    ·refine sV (evEql false rfl rfl (dF R)) (sAb rfl (sK b4 (cF rfl (rS fun h7 b5 => ?_))))
     by_cases W : a3 = ((-1))
     ·refine sV (evEql true rfl rfl (dT W)) (sAb rfl (sK b5 (cT rfl (rS fun h8 b6 => sV (evFA 0 fa47_0 rfl rfl) ?_))))
      have d3 := (Q.ext O);refine sV (evLoadAB [(.int .i64 (q)), (.bool r), (.slice s t u), (.slice a c d)] agg45 sz45 rfl d3 rfl) ?_;have b7 := U.xr O;have f4 := (T.frmB b7 q3);refine sO (oCall rfl call59 (mainvar_Level (show TreeR f3 (fun b => b < w.heap.size) (TT.mk q r s t u J a c d G) from (TreeR.sub f4 q5)) b9) rfl ?_);rintro _ i0 ⟨c0, rfl, a0, b8⟩;have g4 := a0.size;refine sMi rfl (sV (evAdd (((i : Int)) + 1) rfl rfl wI) ?_)
      by_cases X : c0 ≠ (((i : Int)) + 1)
      ·refine sV (evNeq true rfl rfl (dT X)) (sK b6 (cT rfl (rS fun i1 d4 => sAb rfl (sK d4 (wp_ret (bR (bR (xR (xR (bR (xR (ret1 (.bool false) results23 (resT rfl) ?_))))))))))))
       have d5 := (((M.trans Y).rx Z).xr O).xr a0;exact ⟨(false), rfl, (Frm.mono d5 q4), (shp_ret P (cN2 (x := (⟨(TT.mk q r s t u J a c d G), (⟨y, z, A, B, K, f, g, j, H⟩ : QE), (⟨C, D, E, F, L, l, n, o, I⟩ : QE)⟩ : CE)) V W b8 X))⟩
      ·refine sV (evNeq false rfl rfl (dF X)) (sK b6 (cF rfl (wp_skip (bN (bN (xN (a7 _ _ (wp_region_lit (sV (evAdd (((i : Int)) + 1) rfl rfl wI) (sMi rfl (sDone ?_)))))))))))
       have d6 := b7.xr a0;refine again (na - (i + 1)) Qo ⟨(i + 1), rfl, rfl, rfl, cI, (Frm.mono (M.rx d6) q4), ?_, ?_⟩
       ·exact shp_snoc hs P (cY2 (x := (⟨(TT.mk q r s t u J a c d G), (⟨y, z, A, B, K, f, g, j, H⟩ : QE), (⟨C, D, E, F, L, l, n, o, I⟩ : QE)⟩ : CE)) V R b8 X)
       ·omega
     ·refine sV (evEql false rfl rfl (dF W)) (sAb rfl (sK b5 (cF rfl (wp_skip (bN (bN (xN (a7 _ _ (wp_region_lit (sV (evAdd (((i : Int)) + 1) rfl rfl wI) (sMi rfl (sDone ?_))))))))))))
      have d7 := U.xr O;refine again (na - (i + 1)) Qo ⟨(i + 1), rfl, rfl, rfl, cI, (Frm.mono (M.rx d7) q4), ?_, ?_⟩
      ·exact shp_snoc hs P (cY1 (x := (⟨(TT.mk q r s t u J a c d G), (⟨y, z, A, B, K, f, g, j, H⟩ : QE), (⟨C, D, E, F, L, l, n, o, I⟩ : QE)⟩ : CE)) V R W)
      ·omega
   ·refine sV (evLss false rfl rfl (dF a6)) (sK a5 (wp_seq_k fun i2 g5 => cF rfl (wp_exit (xE (xE (bE (xN (e2 _ _ (rS fun i3 d8 => sAb rfl (sK d8 (wp_ret (ret1 (.bool true) results23 (resT rfl) ?_))))))))))))
    exact ⟨(true), rfl, M, (⟨fun _ => ⟨by omega, by have h9 := hs; rw [List.take_of_length_le (by omega)] at h9; exact h9⟩, fun _ => rfl⟩)⟩
end Go.Proofs.YtebajgaabaffbaaGreat
