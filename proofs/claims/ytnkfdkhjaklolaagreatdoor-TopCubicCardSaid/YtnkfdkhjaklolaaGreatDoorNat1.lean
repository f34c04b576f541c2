/-
  Walks of package natural: trim and what needs no more.
-/
import Derived.Test.YtnkfdkhjaklolaaGreatDoorFacts
import Derived.Test.YtnkfdkhjaklolaaGreatDoorLibA
open BitVec renaming ofNat→Ue
open List renaming map_append→Uo,map_replicate→Uw,map_set→UA
namespace Go.Proofs.YtnkfdkhjaklolaaGreatDoor
open Go.RowKit Go.Gx Tryz
open Go renaming wp_seq_k→Xs,wp_block→Xb,wp_skip→Xk,wp_region_lit→Xr,wp_exit→Xe,wp_ret→Xt
open List renaming replicate→Xl
variable{Aa:Option Addr}{Sa:Nat→Prop}{ca na pc x1 x2 x3 xc:Nat}{da:List Nat}{w:World}
theorem Ya(ha:Xn w Sa Aa na ca da):Calls prog 48 #[.slice Aa na ca] w (Ret fun v w'=> ∃Ar nr cr dr,v=(.slice Ar nr cr)∧Ext w w'∧Xn w' (Sa) Ar nr cr dr∧(dr=Zw da)∧(nr≤na)):=by
 have⟨la,ka,ma⟩:=ha.lkm;refine enter func48 E ntmps48 E (rS fun G q=>sAs E (sK q (rS fun I r=>sMs E (sV (Xw underlying28 E) (sAi E (sK r (Xs fun J l=>Xb ?_)))))));refine Ym (fun m e w_=> ∃(k:Nat),m=k∧e 0=(.slice Aa na ca)∧e 3=(.int .i64 k)∧Frm (fun b=>False) w w_∧(k≤na)∧(∀j,k≤j→da.getD j 0=0)) ((na)) ?_ ?_
 ·refine⟨na,E,E,cI,Frm.refl _ _,?_,?_⟩
  ·omega
  ·exact Qbk Qo
 ·rintro K y L ⟨k,z,s,t,a,hk,hz⟩
  obtain⟨A,rfl⟩:=QxA s t;refine Xs fun B n=>rS fun C c=>sMi E ?_
  by_cases f:((k:Int))>0
  ·refine sV (Yu true E E (dT f)) (sMb E (sEv (v:= .slice Aa na ca) (E) E E (sEv (v:= .int .i64 k) (E) E E (sEv (v:= .int .i64 (((k:Int)) -1)) (XQ (((k:Int)) -1) E E wI) E E ?_))))
   have g:=ha.ext a;obtain⟨h,d,rfl⟩:=g.base Qo;refine sEv (v:= .pointer (some ⟨h,d+(k -1),none⟩)) (XU (k -1) underlying28 Xz E E (d+(k -1))) E E ?_;refine sEv (v:= .int .u32 (((da.getD (k -1) 0:Nat):Int))) (XR XV E (g.cell Qo)) E E ?_
   by_cases i:(((da.getD (k -1) 0:Nat):Int))=0
   ·refine sEv (v:= .bool true) (XD true E E (dT i)) E E (sV (v:= .bool true) (E) (sK c (cT E (Xk (xM n (Xb (Xr (sMi E (sV (XQ (((k:Int)) -1) E E wI) (sAi E (XB (bN (again ((k -1)) Qo ⟨k -1,E,E,cI,a,?_,?_⟩)))))))))))))
    ·omega
    ·exact QfI hz Qo
   ·refine sEv (v:= .bool false) (XD false E E (dF i)) E E (sV (v:= .bool false) (E) (sK c (cF E (Xe (xE (xE (bE (xM l (rS fun D o=>sMs E (sMi E ?_))))))))))
    have u:=g.take (m:=k) Qo;refine sV (YJ k underlying28 Xz E E Qo Qo) (sAs E (sK o (Xt (XL (.slice (some ⟨h,d,none⟩) k ca) results48 (XK E) ?_))));exact⟨some ⟨h,d,none⟩,k,ca,(da).take k,E,a,u,Qfc Qo hz Qo,Qo⟩
  ·refine sV (Yu false E E (dF f)) (sMb E (XH E E (XH E E (XH E E (XH E E (XH E E (XH E E (sV (v:= .bool false) (E) (sK c (cF E (Xe (xE (xE (bE (xM l (rS fun F p=>sMs E (sMi E ?_)))))))))))))))))
   have x:=(ha.ext a).take (m:=k) Qo;refine sV (YJ k underlying28 Xz E E Qo Qo) (sAs E (sK p (Xt (XL (.slice Aa k ca) results48 (XK E) ?_))));exact⟨Aa,k,ca,(da).take k,E,a,x,Qfc Qo hz Qo,Qo⟩
theorem ZC(b1:x1<4294967296)(b2:x2<4294967296)(b3:x3<4294967296)(hc:x3≤1):Calls prog 233 #[.int .u32 x1,.int .u32 x2,.int .u32 x3] w (Ret fun v w'=> ∃(xs xc:Nat),v=(.tuple #[.int .u32 xs,.int .u32 xc])∧Ext w w'∧xs<4294967296∧xc<4294967296∧(xs+4294967296*xc=x1+x2+x3)∧(xc≤1)):=by
 refine enter func233 E ntmps233 E (rS fun e a=>sAi E (sAi E (sK a (rS fun f b=>sMi E (sV (XY ((x1:Int)) underlying123 underlying75 E (Qbm (by omega))) (sMi E (sV (XY ((x2:Int)) underlying123 underlying75 E (Qbm (by omega))) (sV (XF (((x1+x2:Nat):Int)) E E (Qbm (by omega))) (sMi E (sV (XY ((x3:Int)) underlying123 underlying75 E (Qbm (by omega))) (sV (XF ((((x1+x2)+x3:Nat):Int)) E E (Qbm (by omega))) (sAi E (sK b (rS fun g c=>sMi E (sV (XY (((((x1+x2)+x3) % 4294967296:Nat):Int)) underlying75 underlying123 E (QeD (by omega))) (sAi E (sK c (rS fun h d=>sMi E (sV (QeM ((((x1+x2+x3)/4294967296:Nat):Int)) E E (by omega) (by rw[Qjl 32 E 4294967296 E (by omega)];omega)) ?_)))))))))))))))))));refine sV (XY (((((x1+x2+x3)/4294967296) % 4294967296:Nat):Int)) underlying75 underlying123 E (QeD Qo)) (sAi E (sK d (Xt (Qbl (.int .u32 (((((x1+x2)+x3) % 4294967296:Nat):Int))) (.int .u32 (((((x1+x2+x3)/4294967296) % 4294967296:Nat):Int))) results233 (XK E) (XK E) ?_))));exact⟨((x1+x2)+x3) % 4294967296,((x1+x2+x3)/4294967296) % 4294967296,E,Frm.refl _ _,Qo,Qo,Qo,Qo⟩
theorem Zm(ha:Xn w Sa Aa na ca da)(hn:na≤1099511627776):Calls prog 74 #[.slice Aa na ca] w (Ret fun v w'=> ∃Ar nr cr dr,v=(.slice Ar nr cr)∧Ext w w'∧Xn w' (fun b=>w.heap.size≤b) Ar nr cr dr∧(dr=Zw da)∧(nr≤na)):=by
 have⟨la,ka,ma⟩:=ha.lkm;replace ha:=ha.low;refine enter func74 E ntmps74 E (rS fun L q=>sAs E (sK q (rS fun M r=>sMs E (sO (Xc E Qae (Ya ha) E ?_)))));rintro _ N ⟨y,a,z,c,rfl,h,f,s,A⟩;have I:=h.size;have⟨k,B,C⟩:=f.lkm;refine sAs E (sK r (rS fun O t=>sMs E (sV (Xw underlying28 E) (sO (Qaw a underlying28 Qai E cI cI Qo Qo fun e u D g F l=> ?_)))));have m:Blk u e 123 (((Xl a 0)).map u32):=by rw[Uw];exact l
 refine sAs E (sK t (rS fun J n=>sMs E (sMs E ?_)));have i:=f.ext g;refine sO (QhG underlying28 Xz E E i.1 (Qba _) m Qo (by exact lq) fun j o G d=> ?_);replace d:Blk j e 123 ((c).map u32):=by rw[← (by simp [k]:(Xl a 0).take 0++c++(Xl a 0).drop (0+a)=c),Uo,Uo,List.map_take,List.map_drop];exact d
 rw[YM];refine sK n (rS fun K p=>sMs E (sAs E (sK p (Xt (XL (.slice (some ⟨e,0,none⟩) a a) results74 (XK E) ?_)))));have x:Xn j (fun b=>b=e) (some ⟨e,0,none⟩) a a (c):=Xn.of_blk d E i.2 (by exact lq) Qo (by unfold Yc;omega);exact⟨some ⟨e,0,none⟩,a,a,c,E,Frm.mono ((h.trans g).rx o) q4,Xn.sub x q5,s,Qo⟩
theorem ZU(ha:Xn w Sa Aa na ca da):Calls prog 21 #[.slice Aa na ca] w (Ret fun v w'=> ∃gr,v=(.bool gr)∧Ext w w'∧(gr=decide (val da=0))):=by
 replace ha:=ha.low;refine enter func21 E ntmps21 E (rS fun l g=>sAb E (sK g (rS fun m a=>sMs E (sO (Xc E Qae (Ya ha) E ?_)))));rintro _ n ⟨h,e,i,j,rfl,b,f,c,_⟩;have⟨k,_,_⟩:=f.lkm;refine sV (Xw underlying28 E) ?_
 by_cases d:((e:Int))=0
 ·refine sV (XD true E E (dT d)) (sAb E (sK a (Xt (XL (.bool true) results21 (XK E) ?_))))
  exact⟨true,E,b,Qrg c Qo⟩
 ·refine sV (XD false E E (dF d)) (sAb E (sK a (Xt (XL (.bool false) results21 (XK E) ?_))))
  exact⟨false,E,b,Qpi c Qo⟩
theorem Qbw(b1:x1<4294967296)(b2:x2<4294967296)(Bc:Blk w pc 123 [.int .u32 (xc:Int)])(bc:xc<4294967296)(hc:xc≤1):Calls prog 232 #[.int .u32 x1,.int .u32 x2,.pointer (some ⟨pc,0,none⟩)] w (Ret fun v w'=> ∃(xs zc:Nat),v=(.int .u32 xs)∧Frm (fun b=>b=pc) w w'∧xs<4294967296∧(Blk w' pc 123 [.int .u32 (zc:Int)])∧(xs+4294967296*zc=x1+x2+xc)∧(zc≤1)):=by
 refine enter func232 E ntmps232 E (rS fun o h=>sAi E (sK h (rS fun p i=>sMi E (sMi E (sV (Xg XV E Bc E) (sO (Xc E Qbi (ZC (x1:=x1) Qo (x2:=x2) Qo (x3:=xc) Qo Qo) E ?_)))))));rintro _ q ⟨a,c,rfl,d,k,_,l,m⟩;refine sV (v:= .tuple #[.int .u32 a,.int .u32 c]) (E) (sV (v:= .int .u32 a) (E) (sV (v:= .int .u32 c) (E) (sAi E (sAi E (sK i (rS fun r j=>sMi E ?_))))));refine sO (Xd [.int .u32 c] E E E Xz E (Bc.ext d) E fun s e _ f=> ?_);refine sK j (rS fun n g=>sMi E (sAi E (sK g (Xt (XL (.int .u32 a) results232 (XK E) ?_)))));exact⟨a,c,E,d.rx e,Qo,f,Qo,Qo⟩
end Go.Proofs.YtnkfdkhjaklolaaGreatDoor

namespace Go.Proofs.YtnkfdkhjaklolaaGreatDoor
open Go.RowKit Go.Gx Tryz
open Go renaming wp_seq_k→Xs,wp_block→Xb,wp_skip→Xk,wp_region_lit→Xr,wp_exit→Xe,wp_ret→Xt
open List renaming replicate→Xl
variable{Aa Ab:Option Addr}{Sa Sb:Nat→Prop}{ca cb na nb x1 x2 x3:Nat}{da db:List Nat}{w:World}
theorem Qfj(b1:x1<4294967296)(b2:x2<4294967296)(b3:x3<4294967296)(hc:x3≤1):Calls prog 235 #[.int .u32 x1,.int .u32 x2,.int .u32 x3] w (Ret fun v w'=> ∃(xs xc:Nat),v=(.tuple #[.int .u32 xs,.int .u32 xc])∧Ext w w'∧xs<4294967296∧xc<4294967296∧(xs+x2+x3=x1+4294967296*xc)∧(xc≤1)):=by
 refine enter func235 E ntmps235 E (rS fun d a=>sAi E (sAi E (sK a (rS fun e b=>sMi E (sMi E (sV (XQ ((((x1+4294967296 -x2) % 4294967296:Nat):Int)) E E (QeD Qo)) (sMi E (sV (XQ ((((x1+8589934592 -x2 -x3) % 4294967296:Nat):Int)) E E (QeD Qo)) (sAi E (sK b (rS fun f c=>sMi E (sV (v:= .int .u32 ((((~~~Ue 32 x1).toNat:Nat):Int))) (Qo0 E) (sMi E (sV (v:= .int .u32 ((((Ue 32 ((~~~Ue 32 x1).toNat)&&&Ue 32 x2).toNat:Nat):Int))) (QoZ E E) (sMi E (sMi E (sV (v:= .int .u32 ((((Ue 32 x1^^^Ue 32 x2).toNat:Nat):Int))) (Qum E E) ?_)))))))))))))))));refine sV (v:= .int .u32 ((((~~~Ue 32 ((Ue 32 x1^^^Ue 32 x2).toNat)).toNat:Nat):Int))) (Qo0 E) (sMi E (sV (v:= .int .u32 ((((Ue 32 ((~~~Ue 32 ((Ue 32 x1^^^Ue 32 x2).toNat)).toNat)&&&Ue 32 ((x1+8589934592 -x2 -x3) % 4294967296)).toNat:Nat):Int))) (QoZ E E) (sV (v:= .int .u32 ((((Ue 32 ((Ue 32 ((~~~Ue 32 x1).toNat)&&&Ue 32 x2).toNat)|||Ue 32 ((Ue 32 ((~~~Ue 32 ((Ue 32 x1^^^Ue 32 x2).toNat)).toNat)&&&Ue 32 ((x1+8589934592 -x2 -x3) % 4294967296)).toNat)).toNat:Nat):Int))) (QsA E E) ?_)))
 generalize ht:(Ue 32 ((Ue 32 ((~~~Ue 32 x1).toNat)&&&Ue 32 x2).toNat)|||Ue 32 ((Ue 32 ((~~~Ue 32 ((Ue 32 x1^^^Ue 32 x2).toNat)).toNat)&&&Ue 32 ((x1+8589934592 -x2 -x3) % 4294967296)).toNat)).toNat=t
 have hbw:=QqE b1 b2 hc E t ht.symm;refine sV (QeM (((t/2147483648:Nat):Int)) E E (by omega) (by rw[Qjl 31 E 2147483648 E (by omega)];omega)) (sAi E (sK c (Xt (Qbl (.int .u32 ((((x1+8589934592 -x2 -x3) % 4294967296:Nat):Int))) (.int .u32 (((t/2147483648:Nat):Int))) results235 (XK E) (XK E) ?_))));exact⟨(x1+8589934592 -x2 -x3) % 4294967296,t/2147483648,E,Frm.refl _ _,Qo,Qo,Qo,Qo⟩
theorem QdE(b1:x1<4294967296)(b2:x2<4294967296):Calls prog 275 #[.int .u32 x1,.int .u32 x2] w (Ret fun v w'=> ∃(xh xl:Nat),v=(.tuple #[.int .u32 xh,.int .u32 xl])∧Ext w w'∧xh<4294967296∧xl<4294967296∧(xl+4294967296*xh=x1*x2)):=by
 refine enter func275 E ntmps275 E ?_;have a:x1*x2≤18446744065119617025:=QcM b1 b2;refine rS fun e b=>sAi E (sAi E (sK b (rS fun f c=>sMi E (sV (XY ((x1:Int)) underlying123 underlying75 E (Qbm Qo)) (sMi E (sV (XY ((x2:Int)) underlying123 underlying75 E (Qbm Qo)) (sV (Qf3 (((x1*x2:Nat):Int)) E E (Qms a)) ?_)))))))
 generalize hq:x1*x2=q at *
 refine sAi E (sK c (rS fun g d=>sMi E (sV (QeM (((q/4294967296:Nat):Int)) E E (by omega) (by rw[Qjl 32 E 4294967296 E (by omega)];omega)) (sV (XY ((((q/4294967296) % 4294967296:Nat):Int)) underlying75 underlying123 E (QeD (by omega))) (sMi E (sV (XY (((q % 4294967296:Nat):Int)) underlying75 underlying123 E (QeD (by omega))) (sAi E (sAi E (sK d (Xt (Qbl (.int .u32 ((((q/4294967296) % 4294967296:Nat):Int))) (.int .u32 (((q % 4294967296:Nat):Int))) results275 (XK E) (XK E) ?_)))))))))));exact⟨(q/4294967296) % 4294967296,q % 4294967296,E,Frm.refl _ _,Qo,Qo,Qo⟩
theorem Qa7(ha:Xn w Sa Aa na ca da)(hb:Xn w Sb Ab nb cb db):Calls prog 120 #[.slice Aa na ca,.slice Ab nb cb] w (Ret fun v w'=> ∃xr,v=(.int .i64 (xr))∧Ext w w'∧(xr=QhZ (val da) (val db))):=by
 have⟨la,ka,ma⟩:=ha.lkm;replace ha:=ha.low;replace hb:=hb.low;refine enter func120 E ntmps120 E (rS fun K1 a2=>sAi E (sK a2 (rS fun K2 a3=>sMs E (sO (Xc E Qae (Ya ha) E ?_)))));rintro _ w4 ⟨K,a,L,p,rfl,g,l,h,a5⟩;have⟨a6,_,_⟩:=l.lkm;refine sMs E ?_;refine sO (Xc E Qae (Ya (hb.ext g)) E ?_);rintro _ a4 ⟨M,q,N,r,rfl,c,n,i,_⟩;have⟨a7,_,_⟩:=n.lkm;refine sAs E (sAs E (sK a3 (Xs fun a9 O=>Xb (rS fun b0 s=>sMs E (sV (Xw underlying28 E) (sMs E (sV (Xw underlying28 E) ?_)))))))
 by_cases t:((a:Int))<((q:Int))
 ·refine sV (Xq true E E (dT t)) (sAb E (sK s (cT E (rS fun b1 P=>sAi E (sK P (Xt (bR (xR (XL (.int .i64 ((-1))) results120 (XK E) ?_)))))))))
  exact⟨(-1),E,g.trans c,Qsr h i (Qde l.2 (by rw[i];exact XJ _ _) (by omega))⟩
 ·refine sV (Xq false E E (dF t)) (sAb E (sK s (cF E (rS fun b2 u=>sMs E (sV (Xw underlying28 E) (sMs E (sV (Xw underlying28 E) ?_)))))))
  by_cases x:((a:Int))>((q:Int))
  ·refine sV (Yu true E E (dT x)) (sAb E (sK u (cT E (rS fun b3 Q=>sAi E (sK Q (Xt (bR (xR (XL (.int .i64 (1)) results120 (XK E) ?_)))))))))
   exact⟨1,E,g.trans c,Qsq h i (Qde n.2 (by rw[h];exact XJ _ _) (by omega))⟩
  ·refine sV (Yu false E E (dF x)) (sAb E (sK u (cF E (Xk (bN (xM O (Xs fun b4 R=>rS fun b5 S=>sMs E (sV (Xw underlying28 E) (sV (XQ (((a:Int)) -1) E E wI) (sAi E (sK S (Xb ?_))))))))))))
   refine Ym (fun m e w_=> ∃(k:Nat),m=k∧e 0=(.slice K a L)∧e 1=(.slice M q N)∧e 5=(.int .i64 ((k:Int) -1))∧Frm (fun b=>False) a4 w_∧(k≤a)∧(∀j,k≤j→p.getD j 0=r.getD j 0)) ((a)) ?_ ?_
   ·refine⟨a,E,E,E,cI,Frm.refl _ _,?_,?_⟩
    ·omega
    ·exact Qv0 Qo Qo
   ·rintro b6 b7 b8 ⟨k,a8,T,U,W,d,hk,heq⟩
    obtain⟨b9,rfl⟩:=Qqe T U W;refine Xs fun c0 X=>rS fun c1 y=>sMi E ?_
    by_cases z:((k:Int) -1)≥0
    ·refine sV (Zi true E E (dT z)) (sK y (cT E (Xk (xM X (Xs fun c2 Y=>Xb (Xb (Xs fun c3 A=>XA (fun _=>False) mixed fun c4 f _=>dMs 0 E E (dMi 1 E E ?_))))))))
     have B:=l.ext ((c.trans d).trans f);obtain⟨c5,I,rfl⟩:=B.base Qo;refine dV 2 E (fun _ _=>XU (k -1) underlying28 Xz E E (I+(k -1))) ?_;refine dV 3 E (fun _ hf=>XR XV E ((B.ext hf).cell Qo)) (dMs 4 E E (dMi 5 E E ?_));have C:=n.ext (d.trans f);obtain⟨c6,J,rfl⟩:=C.base Qo;refine dV 6 E (fun _ _=>XU (k -1) underlying28 Xz E E (J+(k -1))) ?_;refine dV 7 E (fun _ hf=>XR XV E ((C.ext hf).cell Qo)) ?_
     by_cases D:(((p.getD (k -1) 0:Nat):Int))<(((r.getD (k -1) 0:Nat):Int))
     ·refine dV 8 E (fun _ _=>Xq true E E (dT D)) (dAb 9 E E (XG (by kernel_rfl) (xM A (cT E (rS fun c7 Z=>sAi E (sK Z (Xt (bR (bR (xR (xR (bR (xR (XL (.int .i64 ((-1))) results120 (XK E) ?_))))))))))))))
      exact⟨(-1),E,((g.trans c).trans d).trans f,Qsr h i (Qif (k:=k) Qo l.2 heq Qo Qo Qo)⟩
     ·refine dV 8 E (fun _ _=>Xq false E E (dF D)) (dAb 9 E E (XG (by kernel_rfl) (xM A (cF E (Xs fun c8 F=>XA (fun _=>False) mixed fun c9 o _=>dMs 0 E E (dMi 1 E E (dV 2 E (fun _ _=>XU (k -1) underlying28 Xz E E (I+(k -1))) ?_)))))))
      refine dV 3 E (fun _ hf=>XR XV E (((B.ext o).ext hf).cell Qo)) (dMs 4 E E (dMi 5 E E (dV 6 E (fun _ _=>XU (k -1) underlying28 Xz E E (J+(k -1))) ?_)));refine dV 7 E (fun _ hf=>XR XV E (((C.ext o).ext hf).cell Qo)) ?_
      by_cases G:(((p.getD (k -1) 0:Nat):Int))>(((r.getD (k -1) 0:Nat):Int))
      ·refine dV 8 E (fun _ _=>Yu true E E (dT G)) (dAb 9 E E (XG (by kernel_rfl) (xM F (cT E (rS fun d0 a0=>sAi E (sK a0 (Xt (bR (bR (xR (xR (bR (xR (XL (.int .i64 (1)) results120 (XK E) ?_))))))))))))))
       exact⟨1,E,(((g.trans c).trans d).trans f).trans o,Qsq h i (Qif (k:=k) Qo n.2 (fun j hj=>(heq j hj).symm) Qo Qo Qo)⟩
      ·refine dV 8 E (fun _ _=>Yu false E E (dF G)) (dAb 9 E E (XG (by kernel_rfl) (xM F (cF E (Xk (bN (bN (xM Y (Xr (sMi E (sV (XQ (((k:Int) -1) -1) E E wI) (sAi E (XB ?_)))))))))))))
       refine again ((k -1)) Qo ⟨k -1,E,E,E,cI,d.trans (f.trans o),?_,?_⟩
       ·omega
       ·exact Qug heq Qo
    ·refine sV (Zi false E E (dF z)) (sK y (cF E (Xe (xE (xE (bE (xM R (rS fun d1 a1=>sAi E (sK a1 (Xt (XL (.int .i64 (0)) results120 (XK E) ?_)))))))))))
     exact⟨0,E,(g.trans c).trans d,cmp_eq h i (Qme Qo fun j=>heq j Qo)⟩
theorem Qcp(b1:x1<18446744073709551616):Calls prog 32 #[.int .u64 x1] w (Ret fun v w'=> ∃Ar nr cr dr,v=(.slice Ar nr cr)∧Ext w w'∧Xn w' (fun b=>w.heap.size≤b) Ar nr cr dr∧(val dr=x1)∧(Canon isZ dr)∧(nr≤2)):=by
 refine enter func32 E ntmps32 E (rS fun t k=>sAs E (sK k (rS fun u l=>sMi E (sV (XY (((x1 % 4294967296:Nat):Int)) underlying75 underlying123 E (QeD (by omega))) (sMi E (sV (QeM (((x1/4294967296:Nat):Int)) E E (by omega) (by rw[Qjl 32 E 4294967296 E (by omega)];omega)) (sV (XY ((((x1/4294967296) % 4294967296:Nat):Int)) underlying75 underlying123 E (QeD (by omega))) (sO (XT [.int .u32 (((x1 % 4294967296:Nat):Int)),.int .u32 ((((x1/4294967296) % 4294967296:Nat):Int))] [[.int .u32 (((x1 % 4294967296:Nat):Int))],[.int .u32 ((((x1/4294967296) % 4294967296:Nat):Int))]] underlying28 Qai E E E E E ?_)))))))));intro i m q n r e;replace e:Blk m i 123 [.int .u32 (((x1 % 4294967296:Nat):Int)),.int .u32 ((((x1/4294967296) % 4294967296:Nat):Int))]:=e;have p:Xn m (fun b=>b=i) (some ⟨i,0,none⟩) 2 2 ([x1 % 4294967296,(x1/4294967296) % 4294967296]):=Xn.of_blk e E (by simp [BS];omega) (by exact lq) (by omega) (by unfold Yc;omega);refine sO (Xc E QfK (Zm p Qo) E ?_);rintro _ s ⟨a,c,d,g,rfl,j,h,f,o⟩;refine sAs E (sK l (Xt (XL (.slice a c d) results32 (XK E) ?_)));exact⟨a,c,d,g,E,n.trans j,Xn.sub h q5,Qww f (by omega),(by rw[f];exact XJ _ _),(by omega)⟩
theorem QaF(ha:Xn w Sa Aa na ca da)(hb:Xn w Sb Ab nb cb db)(hna:na≤1099511627776)(hnb:nb≤1099511627776):Calls prog 178 #[.slice Aa na ca,.slice Ab nb cb] w (Ret fun v w'=> ∃Ar nr cr dr,v=(.slice Ar nr cr)∧Ext w w'∧Xn w' (fun b=>w.heap.size≤b) Ar nr cr dr∧(val dr=val da+val db)∧(Canon isZ dr)∧(nr≤na+1∨nr≤nb+1)):=by
 have⟨la,ka,ma⟩:=ha.lkm;replace ha:=ha.low;have⟨lb,kb,mb⟩:=hb.lkm;replace hb:=hb.low;refine enter func178 E ntmps178 E (rS fun K1 o3=>sAs E (sK o3 (rS fun K2 o4=>sMs E (sO (Xc E Qae (Ya ha) E ?_)))));rintro _ w4 ⟨G,a,I,p,rfl,b1,J,j9,s0⟩;have y4:=b1.size;have⟨s1,s2,s3⟩:=J.lkm;refine sMs E ?_;refine sO (Xc E Qae (Ya (hb.ext b1)) E ?_);rintro _ y5 ⟨K,c,L,q,rfl,z,M,k0,s4⟩;have s5:=z.size;have⟨s6,s7,s8⟩:=M.lkm;refine sAs E (sAs E (sK o4 (Xs fun y6 d0=>rS fun y7 d1=>sMs E (sV (Xw underlying28 E) (sMs E (sV (Xw underlying28 E) ?_))))))
 by_cases d2:((a:Int))<((c:Int))
 ·refine sV (Xq true E E (dT d2)) (sK d1 (cT E (Xr (sMs E (sMs E (sAs E (sAs E (sK d0 (rS fun y8 k3=>sO (Xj [.int .u32 (0)] Qjx E fun l y9 s9 N t0 k4=>sK k3 (rS fun z0 k5=>sV (v:= .func (.func 232) #[] #[.pointer (some ⟨l,0,none⟩)]) (evK (by kernel_rfl)) (sV (v:= .func (.func 232) #[] #[.pointer (some ⟨l,0,none⟩)]) (E) (sK k5 (rS fun z1 k6=>sMs E (sV (Xw underlying28 E) (sV (XF (((c:Int))+1) E E wI) (sO (Qaw (c+1) underlying28 Qai E cI cI Qo Qo fun o k1 t1 C t2 k7=> ?_))))))))))))))))))
  have k8:Blk k1 o 123 (((Xl (c+1) 0)).map u32):=by rw[Uw];exact k7
  refine sAs E (sK k6 (Xs fun z2 k9=>rS fun z3 l0=>sMs E (sV (Xw underlying28 E) (sMi E (sK l0 (Xb ?_))))));refine Ym (fun m e w_=> ∃(k:Nat)(P:List Nat)(cy:Nat),m=a -k∧e 0=(.slice K c L)∧e 1=(.slice G a I)∧e 5=(.pointer (some ⟨l,0,none⟩))∧e 6=(.func (.func 232) #[] #[.pointer (some ⟨l,0,none⟩)])∧e 7=(.slice (some ⟨o,0,none⟩) (c+1) (c+1))∧e 27=(.slice G a I)∧e 28=(.int .i64 a)∧e 29=(.int .i64 k)∧Frm (fun b=>b=l∨b=o) k1 w_∧Blk w_ l 123 ([.int .u32 (cy:Int)])∧Blk w_ o 123 ((P++Xl (c+1 -k) 0).map u32)∧(k≤a)∧(0≤k)∧(P.length=k)∧(∀d∈P,d<BS)∧(cy≤1)∧(val P+BS^k*cy=val (q.take k)+val (p.take k))) (a -(0)) ?_ ?_
  ·refine⟨0,[],0,E,E,E,E,E,E,E,E,cI,Frm.refl _ _,?_,?_,?_,?_,?_,?_,?_,?_⟩
   ·exact(k4.ext C)
   ·simpa using k8
   ·omega
   ·omega
   ·rfl
   ·simp
   ·omega
   ·simp [val]
  ·rintro z4 z5 o5 ⟨k,P,cy,t3,l1,l2,l3,l4,l5,l6,l7,l8,D,d3,d4,hk,hl,hP,hlt,hcy,hv⟩
   obtain⟨z6,rfl⟩:=QsU l1 l2 l3 l4 l5 l6 l7 l8;refine rS fun z7 d5=> ?_
   by_cases d6:((k:Int))<((a:Int))
   ·refine sV (Xq true E E (dT d6)) (sK d5 (Xs fun z8 l9=>cT E (Xk (xM l9 (Xs fun z9 m0=>Xb (rS fun A0 m1=>sMi E ?_))))))
    have d7:=J.frmB (((z.trans N).trans C).rx D) q3;obtain⟨A1,o6,rfl⟩:=d7.base Qo;refine sV (XU k underlying28 Xz E E (o6+k)) ?_;have t4:=d7.lt k;refine sV (XR XV E (d7.cell Qo)) (sAi E (sAi E (sK m1 (Xr (sMs E (sMi E (sV (v:= .func (.func 232) #[] #[.pointer (some ⟨l,0,none⟩)]) (E) (sMs E (sMi E ?_)))))))));have d8:=M.frmB ((N.trans C).rx D) q3;obtain⟨A2,o7,rfl⟩:=d8.base Qo;refine sV (XU k underlying28 Xz E E (o7+k)) ?_;have t5:=d8.lt k;refine sV (XR XV E (d8.cell Qo)) (sMi E (sO (Xc E Qir (Qbw (x1:=q.getD k 0) Qo (x2:=p.getD k 0) Qo (xc:=cy) d3 Qo Qo) E ?_)));rintro _ A3 ⟨A,f1,rfl,d9,p8,m2,t6,t7⟩;refine sV (XU k underlying28 Xz E E k) ?_;have m3:=d4.frm d9 q1;refine sO (YH E E E Xz m3 (by exact lq) fun o8 e0 _ a5=> ?_);replace a5:Blk o8 o 123 (((P++[A])++Xl (c+1 -(k+1)) 0).map u32):=by rw[← (ZE hP (by omega):(P++Xl (c+1 -k) 0).set k A=(P++[A])++Xl (c+1 -(k+1)) 0),UA];exact a5
    refine XB (bN (xM m0 (Xr (sV (XF (((k:Int))+1) E E wI) (sMi E (XB ?_))))));have m4:=m2.frm e0 q1;refine again (a -(k+1)) Qo ⟨k+1,P++[A],f1,E,E,E,E,E,E,E,E,cI,Frm.mono (D.tr (d9.tr e0)) q4,?_,?_,?_,?_,?_,?_,?_,?_⟩
    ·exact m4
    ·exact a5
    ·omega
    ·omega
    ·simp [hP]
    ·exact ZL hlt Qo
    ·omega
    ·exact QbW hv hP Qo
   ·refine sV (Xq false E E (dF d6)) (sK d5 (Xs fun A4 t8=>cF E (Xe (xE (xE (bE (xM k9 (Xs fun A5 m5=>rS fun A6 m6=>sMs E (sV (Xw underlying28 E) (sAi E (sK m6 (Xb ?_))))))))))))
    refine Ym (fun m e w_=> ∃(f:Nat)(h:List Nat)(g:Nat),m=c -f∧e 0=(.slice K c L)∧e 5=(.pointer (some ⟨l,0,none⟩))∧e 6=(.func (.func 232) #[] #[.pointer (some ⟨l,0,none⟩)])∧e 7=(.slice (some ⟨o,0,none⟩) (c+1) (c+1))∧e 10=(.int .i64 f)∧Frm (fun b=>b=l∨b=o) o5 w_∧Blk w_ l 123 ([.int .u32 (g:Int)])∧Blk w_ o 123 ((h++Xl (c+1 -f) 0).map u32)∧(f≤c)∧(a≤f)∧(h.length=f)∧(∀d∈h,d<BS)∧(g≤1)∧(val h+BS^f*g=val (q.take f)+val (p.take f))) (c -(k)) ?_ ?_
    ·refine⟨k,P,cy,E,E,E,E,E,cI,Frm.refl _ _,?_,?_,?_,?_,?_,?_,?_,?_⟩
     ·exact d3
     ·exact d4
     ·omega
     ·omega
     ·exact hP
     ·exact hlt
     ·omega
     ·exact hv
    ·rintro A7 t9 A8 ⟨f,h,g,u0,m7,m8,m9,n0,n1,a6,e1,e2,o9,p0,r,F,n2,W⟩
     obtain⟨u1,rfl⟩:=Qjz m7 m8 m9 n0 n1;refine Xs fun u2 f2=>rS fun u3 b2=>sMi E (sMs E (sV (Xw underlying28 E) ?_))
     by_cases b3:((f:Int))<((c:Int))
     ·refine sV (Xq true E E (dT b3)) (sK b2 (cT E (Xk (xM f2 (Xs fun u4 f3=>Xb (Xr (sMs E (sMi E (sV (v:= .func (.func 232) #[] #[.pointer (some ⟨l,0,none⟩)]) (E) (sMs E (sMi E ?_)))))))))))
      have a7:=M.frmB (((N.trans C).rx D).trans a6) q3;obtain⟨u5,n3,rfl⟩:=a7.base Qo;refine sV (XU f underlying28 Xz E E (n3+f)) ?_;have p9:=a7.lt f;refine sV (XR XV E (a7.cell Qo)) (sO (Xc E Qir (Qbw (x1:=q.getD f 0) Qo (x2:=0) Qo (xc:=g) e1 Qo Qo) E ?_));rintro _ u6 ⟨s,e3,rfl,b4,p1,f4,q0,q2⟩;refine sV (XU f underlying28 Xz E E f) ?_;have f5:=e2.frm b4 q1;refine sO (YH E E E Xz f5 (by exact lq) fun n4 b5 _ O=> ?_);replace O:Blk n4 o 123 (((h++[s])++Xl (c+1 -(f+1)) 0).map u32):=by rw[← (ZE r (by omega):(h++Xl (c+1 -f) 0).set f s=(h++[s])++Xl (c+1 -(f+1)) 0),UA];exact O
      refine XB (bN (xM f3 (Xr (sMi E (sV (XF (((f:Int))+1) E E wI) (sAi E (XB ?_)))))));have f6:=f4.frm b5 q1;refine again (c -(f+1)) Qo ⟨f+1,h++[s],e3,E,E,E,E,E,cI,Frm.mono (a6.tr (b4.tr b5)) q4,?_,?_,?_,?_,?_,?_,?_,?_⟩
      ·exact f6
      ·exact O
      ·omega
      ·omega
      ·simp [r]
      ·exact ZL F Qo
      ·omega
      ·exact QbW W r (by rw[Qbk (ds:=p) (n:=a) (by omega) f (by omega)];omega)
     ·refine sV (Xq false E E (dF b3)) (sK b2 (cF E (Xe (xE (xE (bE (xM m5 (rS fun u7 f7=>sMs E (sMs E (sV (Xw underlying28 E) (sV (Xg XV E e1 E) (sV (XU c underlying28 Xz E E c) (sO (YH E E E Xz e2 (by exact lq) fun e4 f8 _ Q=> ?_))))))))))))))
      replace Q:Blk e4 o 123 ((h++[g]).map u32):=by rw[← (Qmm (r.trans (by omega)) (by omega):(h++Xl (c+1 -f) 0).set c g=h++[g]),UA];exact Q
      refine sK f7 (rS fun u8 f9=>sMs E ?_);have n5:Xn e4 (fun b=>b=o) (some ⟨o,0,none⟩) (c+1) (c+1) (h++[g]):=Xn.of_blk Q E (ZL F Qo) (by exact lq) Qo (by unfold Yc;omega);refine sO (Xc E Qae (Ya n5) E ?_);rintro _ u9 ⟨X,Y,Z,e5,rfl,g0,a0,b6,p2⟩;have⟨p3,_,_⟩:=a0.lkm;refine sAs E (sK f9 (Xt (XL (.slice X Y Z) results178 (XK E) ?_)));exact⟨X,Y,Z,e5,E,Frm.mono (((((((b1.trans z).trans N).trans C).rx D).trans a6).tr f8).xr g0) q4,Xn.sub a0 q5,QnP b6 (QnO W r (by omega) (by omega)) k0 j9 (Nat.add_comm _ _),(by rw[b6];exact XJ _ _),(by omega)⟩
 ·refine sV (Xq false E E (dF d2)) (sK d1 (cF E (Xk (xM d0 (rS fun v0 g1=>sO (Xj [.int .u32 (0)] Qjx E fun i v1 q6 B q7 g2=>sK g1 (rS fun v2 g3=>sV (v:= .func (.func 232) #[] #[.pointer (some ⟨i,0,none⟩)]) (evK (by kernel_rfl)) (sV (v:= .func (.func 232) #[] #[.pointer (some ⟨i,0,none⟩)]) (E) (sK g3 (rS fun v3 g4=>sMs E (sV (Xw underlying28 E) (sV (XF (((a:Int))+1) E E wI) (sO (Qaw (a+1) underlying28 Qai E cI cI Qo Qo fun j e6 q8 t q9 g5=> ?_))))))))))))))
  have g6:Blk e6 j 123 (((Xl (a+1) 0)).map u32):=by rw[Uw];exact g5
  refine sAs E (sK g4 (Xs fun v4 g7=>rS fun v5 g8=>sMs E (sV (Xw underlying28 E) (sMi E (sK g8 (Xb ?_))))));refine Ym (fun m e w_=> ∃(k:Nat)(P:List Nat)(cy:Nat),m=c -k∧e 0=(.slice G a I)∧e 1=(.slice K c L)∧e 5=(.pointer (some ⟨i,0,none⟩))∧e 6=(.func (.func 232) #[] #[.pointer (some ⟨i,0,none⟩)])∧e 7=(.slice (some ⟨j,0,none⟩) (a+1) (a+1))∧e 27=(.slice K c L)∧e 28=(.int .i64 c)∧e 29=(.int .i64 k)∧Frm (fun b=>b=i∨b=j) e6 w_∧Blk w_ i 123 ([.int .u32 (cy:Int)])∧Blk w_ j 123 ((P++Xl (a+1 -k) 0).map u32)∧(k≤c)∧(0≤k)∧(P.length=k)∧(∀d∈P,d<BS)∧(cy≤1)∧(val P+BS^k*cy=val (p.take k)+val (q.take k))) (c -(0)) ?_ ?_
  ·refine⟨0,[],0,E,E,E,E,E,E,E,E,cI,Frm.refl _ _,?_,?_,?_,?_,?_,?_,?_,?_⟩
   ·exact(g2.ext t)
   ·simpa using g6
   ·omega
   ·omega
   ·rfl
   ·simp
   ·omega
   ·simp [val]
  ·rintro v6 v7 n6 ⟨k,P,cy,r0,g9,h0,h1,h2,h3,h4,h5,h6,u,b7,b8,hk,hl,hP,hlt,hcy,hv⟩
   obtain⟨v8,rfl⟩:=QsU g9 h0 h1 h2 h3 h4 h5 h6;refine rS fun v9 b9=> ?_
   by_cases c0:((k:Int))<((c:Int))
   ·refine sV (Xq true E E (dT c0)) (sK b9 (Xs fun w0 h7=>cT E (Xk (xM h7 (Xs fun w1 h8=>Xb (rS fun w2 h9=>sMi E ?_))))))
    have a8:=M.frmB ((B.trans t).rx u) q3;obtain⟨w3,n7,rfl⟩:=a8.base Qo;refine sV (XU k underlying28 Xz E E (n7+k)) ?_;have r1:=a8.lt k;refine sV (XR XV E (a8.cell Qo)) (sAi E (sAi E (sK h9 (Xr (sMs E (sMi E (sV (v:= .func (.func 232) #[] #[.pointer (some ⟨i,0,none⟩)]) (E) (sMs E (sMi E ?_)))))))));have a9:=J.frmB (((z.trans B).trans t).rx u) q3;obtain⟨w5,n8,rfl⟩:=a9.base Qo;refine sV (XU k underlying28 Xz E E (n8+k)) ?_;have r2:=a9.lt k;refine sV (XR XV E (a9.cell Qo)) (sMi E (sO (Xc E Qir (Qbw (x1:=p.getD k 0) Qo (x2:=q.getD k 0) Qo (xc:=cy) b7 Qo Qo) E ?_)));rintro _ w6 ⟨x,e7,rfl,c1,p4,i0,r3,r4⟩;refine sV (XU k underlying28 Xz E E k) ?_;have i1:=b8.frm c1 q1;refine sO (YH E E E Xz i1 (by exact lq) fun n9 c2 _ R=> ?_);replace R:Blk n9 j 123 (((P++[x])++Xl (a+1 -(k+1)) 0).map u32):=by rw[← (ZE hP (by omega):(P++Xl (a+1 -k) 0).set k x=(P++[x])++Xl (a+1 -(k+1)) 0),UA];exact R
    refine XB (bN (xM h8 (Xr (sV (XF (((k:Int))+1) E E wI) (sMi E (XB ?_))))));have i2:=i0.frm c2 q1;refine again (c -(k+1)) Qo ⟨k+1,P++[x],e7,E,E,E,E,E,E,E,E,cI,Frm.mono (u.tr (c1.tr c2)) q4,?_,?_,?_,?_,?_,?_,?_,?_⟩
    ·exact i2
    ·exact R
    ·omega
    ·omega
    ·simp [hP]
    ·exact ZL hlt Qo
    ·omega
    ·exact QbW hv hP Qo
   ·refine sV (Xq false E E (dF c0)) (sK b9 (Xs fun w7 r5=>cF E (Xe (xE (xE (bE (xM g7 (Xs fun w8 i3=>rS fun w9 i4=>sMs E (sV (Xw underlying28 E) (sAi E (sK i4 (Xb ?_))))))))))))
    refine Ym (fun m e w_=> ∃(f:Nat)(h:List Nat)(g:Nat),m=a -f∧e 0=(.slice G a I)∧e 5=(.pointer (some ⟨i,0,none⟩))∧e 6=(.func (.func 232) #[] #[.pointer (some ⟨i,0,none⟩)])∧e 7=(.slice (some ⟨j,0,none⟩) (a+1) (a+1))∧e 10=(.int .i64 f)∧Frm (fun b=>b=i∨b=j) n6 w_∧Blk w_ i 123 ([.int .u32 (g:Int)])∧Blk w_ j 123 ((h++Xl (a+1 -f) 0).map u32)∧(f≤a)∧(c≤f)∧(h.length=f)∧(∀d∈h,d<BS)∧(g≤1)∧(val h+BS^f*g=val (p.take f)+val (q.take f))) (a -(k)) ?_ ?_
    ·refine⟨k,P,cy,E,E,E,E,E,cI,Frm.refl _ _,?_,?_,?_,?_,?_,?_,?_,?_⟩
     ·exact b7
     ·exact b8
     ·omega
     ·omega
     ·exact hP
     ·exact hlt
     ·omega
     ·exact hv
    ·rintro x0 x3 x4 ⟨f,h,g,r6,i5,i6,i7,i8,i9,S,c3,c4,o9,p0,r,F,n2,W⟩
     obtain⟨x5,rfl⟩:=Qjz i5 i6 i7 i8 i9;refine Xs fun x6 j0=>rS fun x7 c5=>sMi E (sMs E (sV (Xw underlying28 E) ?_))
     by_cases c6:((f:Int))<((a:Int))
     ·refine sV (Xq true E E (dT c6)) (sK c5 (cT E (Xk (xM j0 (Xs fun x8 j1=>Xb (Xr (sMs E (sMi E (sV (v:= .func (.func 232) #[] #[.pointer (some ⟨i,0,none⟩)]) (E) (sMs E (sMi E ?_)))))))))))
      have b0:=J.frmB ((((z.trans B).trans t).rx u).trans S) q3;obtain⟨x9,o0,rfl⟩:=b0.base Qo;refine sV (XU f underlying28 Xz E E (o0+f)) ?_;have r7:=b0.lt f;refine sV (XR XV E (b0.cell Qo)) (sO (Xc E Qir (Qbw (x1:=p.getD f 0) Qo (x2:=0) Qo (xc:=g) c3 Qo Qo) E ?_));rintro _ y0 ⟨y,e8,rfl,c7,p5,j2,r8,r9⟩;refine sV (XU f underlying28 Xz E E f) ?_;have j3:=c4.frm c7 q1;refine sO (YH E E E Xz j3 (by exact lq) fun o1 c8 _ T=> ?_);replace T:Blk o1 j 123 (((h++[y])++Xl (a+1 -(f+1)) 0).map u32):=by rw[← (ZE r (by omega):(h++Xl (a+1 -f) 0).set f y=(h++[y])++Xl (a+1 -(f+1)) 0),UA];exact T
      refine XB (bN (xM j1 (Xr (sMi E (sV (XF (((f:Int))+1) E E wI) (sAi E (XB ?_)))))));have j4:=j2.frm c8 q1;refine again (a -(f+1)) Qo ⟨f+1,h++[y],e8,E,E,E,E,E,cI,Frm.mono (S.tr (c7.tr c8)) q4,?_,?_,?_,?_,?_,?_,?_,?_⟩
      ·exact j4
      ·exact T
      ·omega
      ·omega
      ·simp [r]
      ·exact ZL F Qo
      ·omega
      ·exact QbW W r (by rw[Qbk (ds:=q) (n:=c) (by omega) f (by omega)];omega)
     ·refine sV (Xq false E E (dF c6)) (sK c5 (cF E (Xe (xE (xE (bE (xM i3 (rS fun y1 j5=>sMs E (sMs E (sV (Xw underlying28 E) (sV (Xg XV E c3 E) (sV (XU a underlying28 Xz E E a) (sO (YH E E E Xz c4 (by exact lq) fun e9 j6 _ U=> ?_))))))))))))))
      replace U:Blk e9 j 123 ((h++[g]).map u32):=by rw[← (Qmm (r.trans (by omega)) (by omega):(h++Xl (a+1 -f) 0).set a g=h++[g]),UA];exact U
      refine sK j5 (rS fun y2 j7=>sMs E ?_);have o2:Xn e9 (fun b=>b=j) (some ⟨j,0,none⟩) (a+1) (a+1) (h++[g]):=Xn.of_blk U E (ZL F Qo) (by exact lq) Qo (by unfold Yc;omega);refine sO (Xc E Qae (Ya o2) E ?_);rintro _ y3 ⟨a1,a2,a3,f0,rfl,j8,a4,c9,p6⟩;have⟨p7,_,_⟩:=a4.lkm;refine sAs E (sK j7 (Xt (XL (.slice a1 a2 a3) results178 (XK E) ?_)));exact⟨a1,a2,a3,f0,E,Frm.mono (((((((b1.trans z).trans B).trans t).rx u).trans S).tr j6).xr j8) q4,Xn.sub a4 q5,QnP c9 (QnO W r (by omega) (by omega)) j9 k0 E,(by rw[c9];exact XJ _ _),(by omega)⟩
end Go.Proofs.YtnkfdkhjaklolaaGreatDoor
