/-
  Walks of package modular: remainders, inverses, the small primes.
-/
import Derived.Test.YtnkfdkhjaklolaaGreatDoorInt1
import Derived.Test.YtnkfdkhjaklolaaGreatDoorNat5
import Derived.Test.YtnkfdkhjaklolaaGreatDoorLibA
import Derived.Test.YtnkfdkhjaklolaaGreatDoorLibB
import Derived.Test.YtnkfdkhjaklolaaGreatDoorUni4
open List renaming append_nil→Wg,map_append→Uo,map_replicate→Uw,map_set→UA,replicate_zero→Wh
open Nat renaming mod_lt→UG
namespace Go.Proofs.YtnkfdkhjaklolaaGreatDoor
open Go.RowKit Go.Gx Tryz
open Go renaming wp_ret→Xt,wp_seq_k→Xs,wp_skip→Xk,wp_region_lit→Xr,wp_block→Xb,wp_exit→Xe
open List renaming replicate→Xl
variable{Aa:Option Addr}{Sa:Nat→Prop}{ca na xa xb xm:Nat}{da:List Nat}{ga:Bool}{w:World}
theorem Qal(bm:xm<4294967296)(hm:0<xm):Calls prog 248 #[.int .u32 xm] w (Ret fun v w'=> ∃(xr:Nat),v=(.int .u64 xr)∧Ext w w'∧xr<18446744073709551616∧(xr=xm)):=by
 refine enter func248 E ntmps248 E (rS fun c a=>sAi E (sK a (rS fun d b=>sMi E (sV (Qer ((xm:Int)) E E (by split<;>omega)) (sV (XY ((xm:Int)) underlying123 underlying75 E (Qbm Qo)) (sAi E (sK b (Xt (XL (.int .u64 xm) results248 (XK E) ?_)))))))));exact⟨xm,E,Frm.refl _ _,Qo,E⟩
theorem Qg6(ba:xa<4294967296)(bm:xm<4294967296)(hm:0<xm):Calls prog 249 #[.int .u32 xa,.int .u32 xm] w (Ret fun v w'=> ∃(xr:Nat),v=(.int .u32 xr)∧Ext w w'∧xr<4294967296∧(xr=(xm -xa % xm) % xm)):=by
 refine enter func249 E ntmps249 E (rS fun i b=>sAi E (sK b (rS fun j c=>sMi E (sO (Xc E QgA (Qal (xm:=xm) Qo Qo) E ?_)))));rintro _ k ⟨a,rfl,d,_,e⟩;refine sAi E (sK c (rS fun l f=>sMi E (sMi E (sV (XY ((xa:Int)) underlying123 underlying75 E (Qbm Qo)) (sMi E (sV (QbK (((xa % a:Nat):Int)) E E Qo (Qjd Qo Qo)) (sV (XQ (((a -xa % a:Nat):Int)) E E (Qbm ⟨by have g:=UG xa (show 0<a by omega);omega,by omega,by omega⟩)) (sMi E (sV (QbK ((((a -xa % a) % a:Nat):Int)) E E Qo (Qjd Qo Qo)) (sV (XY ((((a -xa % a) % a:Nat):Int)) underlying75 underlying123 E (Qju ⟨E,by omega,by have g:=UG ((a -xa % a)) (show 0<a by omega);omega⟩)) (sAi E (sK f (Xt (XL (.int .u32 ((((a -xa % a) % a:Nat):Int))) results249 (XK E) ?_))))))))))))));have h:=UG ((a -xa % a)) (show 0<a by omega);exact⟨(a -xa % a) % a,E,d,(by omega),(by rw[e])⟩
theorem Qlp(ba:xa<4294967296)(bb:xb<4294967296)(bm:xm<4294967296)(hm:0<xm):Calls prog 312 #[.int .u32 xa,.int .u32 xb,.int .u32 xm] w (Ret fun v w'=> ∃(xr:Nat),v=(.int .u32 xr)∧Ext w w'∧xr<4294967296∧(xr=(xa+xb) % xm)):=by
 refine enter func312 E ntmps312 E (rS fun g b=>sAi E (sK b (rS fun h c=>sMi E (sV (XY ((xa:Int)) underlying123 underlying75 E (Qbm Qo)) (sMi E (sV (XY ((xb:Int)) underlying123 underlying75 E (Qbm Qo)) (sV (XF (((xa+xb:Nat):Int)) E E (Qbm Qo)) (sMi E (sO (Xc E QgA (Qal (xm:=xm) Qo Qo) E ?_))))))))));rintro _ i ⟨a,rfl,d,_,e⟩;refine sV (QbK ((((xa+xb) % a:Nat):Int)) E E Qo (Qjd Qo Qo)) (sV (XY ((((xa+xb) % a:Nat):Int)) underlying75 underlying123 E (Qju ⟨E,by omega,by have j:=UG ((xa+xb)) (show 0<a by omega);omega⟩)) (sAi E (sK c (Xt (XL (.int .u32 ((((xa+xb) % a:Nat):Int))) results312 (XK E) ?_)))));have f:=UG ((xa+xb)) (show 0<a by omega);exact⟨(xa+xb) % a,E,d,(by omega),(by rw[e])⟩
theorem Qeu(ba:xa<4294967296)(bb:xb<4294967296)(bm:xm<4294967296)(hm:0<xm):Calls prog 291 #[.int .u32 xa,.int .u32 xb,.int .u32 xm] w (Ret fun v w'=> ∃(xr:Nat),v=(.int .u32 xr)∧Ext w w'∧xr<4294967296∧(xr=xa*xb % xm)):=by
 refine enter func291 E ntmps291 E (rS fun g b=>sAi E (sK b (rS fun h c=>sMi E (sV (XY ((xa:Int)) underlying123 underlying75 E (Qbm Qo)) (sMi E (sV (XY ((xb:Int)) underlying123 underlying75 E (Qbm Qo)) (sV (Qf3 (((xa*xb:Nat):Int)) E E (Qms (QcM Qo Qo))) (sMi E (sO (Xc E QgA (Qal (xm:=xm) Qo Qo) E ?_))))))))));rintro _ i ⟨a,rfl,d,_,e⟩;refine sV (QbK ((((xa*xb) % a:Nat):Int)) E E Qo (Qjd Qo Qo)) (sV (XY ((((xa*xb) % a:Nat):Int)) underlying75 underlying123 E (Qju ⟨E,by omega,by have j:=UG ((xa*xb)) (show 0<a by omega);omega⟩)) (sAi E (sK c (Xt (XL (.int .u32 ((((xa*xb) % a:Nat):Int))) results291 (XK E) ?_)))));have f:=UG ((xa*xb)) (show 0<a by omega);exact⟨(xa*xb) % a,E,d,(by omega),(by rw[e])⟩
theorem Qlq(ba:xa<4294967296)(bb:xb<4294967296)(bm:xm<4294967296)(hm:0<xm):Calls prog 292 #[.int .u32 xa,.int .u32 xb,.int .u32 xm] w (Ret fun v w'=> ∃(xr:Nat),v=(.int .u32 xr)∧Ext w w'∧xr<4294967296∧(xr=(xa+(xm -xb % xm) % xm) % xm)):=by
 refine enter func292 E ntmps292 E (rS fun k c=>sAi E (sK c (rS fun l d=>sMi E (sMi E (sMi E (sO (Xc E Qoi (Qg6 (xa:=xb) Qo (xm:=xm) Qo Qo) E ?_)))))));rintro _ m ⟨b,rfl,e,i,f⟩;refine sMi E (sO (Xc E QtW (Qlp (xa:=xa) Qo (xb:=b) Qo (xm:=xm) Qo Qo) E ?_));rintro _ n ⟨a,rfl,g,j,h⟩;refine sAi E (sK d (Xt (XL (.int .u32 a) results292 (XK E) ?_)));exact⟨a,E,e.trans g,(by omega),(by rw[h,f])⟩
theorem Qd8(ha:Xn w Sa Aa na ca da)(bm:xm<4294967296)(hna:na≤268435456)(hm:0<xm):Calls prog 195 #[Zb ga Aa na ca,.int .u32 xm] w (Ret fun v w'=> ∃(xr:Nat),v=(.int .u32 xr)∧Ext w w'∧xr<4294967296∧(xr=md xm (Xx ga da))):=by
 have⟨la,ka,ma⟩:=ha.lkm;replace ha:=ha.low;refine enter func195 E ntmps195 E (rS fun P x=>sO (Ys (Yb ga Aa na ca) E E fun Q R _ y _ z=>sAi E (sK x (Xs fun S A=>XA (fun _=>False) mixed fun T m _=>dV 0 E (fun _ _=>XZ 1 Zk E E) ?_))));have n:=z.ext m;refine dV 1 E (fun _ hf=>Xg Qam E (n.ext hf) E) (dMi 2 E E (dOk 3 E E (Xc E QgA (Qal (xm:=xm) Qo Qo) E ?_)));rintro _ I ⟨g,rfl,d,_,o⟩;refine⟨Frm.of_ext d,?_⟩;refine dV 4 E (fun _ _=>XY ((g:Int)) underlying75 underlying123 E (Qju ⟨E,by omega,by omega⟩)) ?_;have e:=(y.trans m).trans d;refine dOk 5 E E (Xc E Qoh (QcW (ha.ext e) (xd:=g) Qo Qo Qo) E ?_);rintro _ J ⟨h,i,j,B,a,k,rfl,b,C,D,c,F,_,_⟩;refine⟨Frm.of_ext b,?_⟩;refine dV 6 E (v:= .tuple #[.slice h i j,.int .u32 a,.bool k]) (fun _ _=>rfl) (dV 7 E (v:= .slice h i j) (fun _ _=>rfl) (dV 8 E (v:= .int .u32 a) (fun _ _=>rfl) (dV 9 E (v:= .bool k) (fun _ _=>rfl) (dAs 10 E E (dAi 11 E E (dAb 12 E E (XG (by kernel_rfl) (xM A (Xs fun K p=>rS fun L q=>sV (XZ 0 QaN E E) ?_)))))))));refine sV (Xg Qc0 E (n.ext (d.trans b)) E) (sK q (cB ga E ?_ ?_))
 ·intro f
  subst f;refine rS fun M r=>sMi E (sMi E (sO (Xc E Qoi (Qg6 (xa:=a) Qo (xm:=xm) Qo Qo) E ?_)));rintro _ N ⟨l,rfl,s,G,t⟩;refine sAi E (sK r (Xt (xR (XL (.int .u32 l) results195 (XK E) ?_))));exact⟨l,E,(e.trans b).trans s,(by omega),(by rw[QdD];rw[o] at c;exact Quy c (by omega) t)⟩
 ·intro f
  subst f;refine Xk (xM p (rS fun O u=>sMi E (sAi E (sK u (Xt (XL (.int .u32 a) results195 (XK E) ?_))))));exact⟨a,E,e.trans b,(by omega),(by rw[ZD];rw[o] at c;exact Quz c (by omega))⟩
theorem Qds(ba:xa<4294967296)(bm:xm<4294967296)(hm:0<xm)(hco:Nat.gcd xa xm=1):Calls prog 257 #[.int .u32 xa,.int .u32 xm] w (Ret fun v w'=> ∃(xr:Nat)(xo:_),v=(.tuple #[.int .u32 xr,.int .i64 (xo)])∧Ext w w'∧xr<4294967296∧(xo=0)∧(xr=QfQ xm xa)∧(xr<xm)):=by
 refine enter func257 E ntmps257 E (rS fun K1 u=>sAi E (sAi E (sK u (rS fun K2 z=>sMi E (sO (Xc E QgA (Qal (xm:=xm) Qo Qo) E ?_))))));rintro _ I ⟨a,rfl,A,J,B⟩;refine sV (XY ((a:Int)) underlying75 underlying2 E (QaZ Qo)) (sAi E (sK z (Xs fun K7 C=> ?_)));obtain rfl:xm=a:=B.symm;refine Xr (sMi E (sV (XY ((xa:Int)) underlying123 underlying2 E (QaZ Qo)) (sMi E (sV (QbK (((xa % xm:Nat):Int)) E E Qo (Qjd Qo Qo)) (sMi E (sAi E (sAi E (sK C (rS fun K8 D=>sAi E (sAi E (sK D (Xs fun K9 F=>Xb ?_))))))))))));refine Ym (fun m e w_=> ∃(r:Nat)(s:Nat)(x:Int)(y:Int),m=s∧e 6=(.int .i64 xm)∧e 7=(.int .i64 r)∧e 8=(.int .i64 s)∧e 9=(.int .i64 (x))∧e 10=(.int .i64 (y))∧Frm (fun b=>False) I w_∧(QkN xm xa r s x y)) ((xm)) ?_ ?_
 ·refine⟨xa % xm,xm,1,0,E,E,cI,cI,cI,cI,Frm.refl _ _,?_⟩
  ·exact QkN.start hm hco
 ·rintro M N O ⟨r,s,x,y,K,g,h,i,j,k,c,hI⟩
  obtain⟨P,rfl⟩:=Qjz g h i j k;have⟨hrm,hsm,hxm,hym⟩:r≤xm∧s≤xm∧x.natAbs≤xm∧y.natAbs≤xm:=⟨hI.rm,hI.sm,hI.bx,hI.by_⟩;refine Xs fun Q l=>rS fun R d=>sMi E ?_
  by_cases f:((s:Int))≠0
  ·refine sV (ZI true E E (dT f)) (sK d (cT E (Xk (xM l (Xb (rS fun S n=>sMi E (sMi E (sV (Qj6 (((r/s:Nat):Int)) E E Qo (Qly Qo Qo Qo)) ?_))))))))
   have T:r/s*s≤r:=Nat.div_mul_le_self r s;have hms:=UG r (show 0<s by omega);have hqb:=hI.qb (show 0<s by omega);have hnb:=hI.nb (show 0<s by omega);have hnx:=hI.nx;have hdm:r -r/s*s=r % s:=by have L:=Nat.div_add_mod r s;rw[Nat.mul_comm] at L;omega
   refine sAi E (sK n (rS fun U o=>sMi E (sMi E (sMi E (sMi E (sV (Qf3 (((r/s*s:Nat):Int)) E E (QaZ ⟨by rw[Int.natCast_mul],by omega,by omega⟩)) (sV (XQ (((r % s:Nat):Int)) E E (QaZ ⟨by omega,by omega,by omega⟩)) (sAi E (sAi E (sK o (Xr (sMi E (sMi E (sMi E (sMi E (sV (Qf3 (((r/s:Nat):Int)*y) E E (QaZ ⟨E,by omega,by omega⟩)) (sV (XQ (x -((r/s:Nat):Int)*y) E E (QaZ ⟨E,by omega,by omega⟩)) (sAi E (sAi E (XB (bN (again ((r % s)) (by omega) ⟨s,r % s,y,x -((r/s:Nat):Int)*y,E,E,cI,cI,cI,cI,c,?_⟩))))))))))))))))))))))
   ·exact hI.step Qo
  ·refine sV (ZI false E E (dF f)) (sK d (cF E (Xe (xE (xE (bE (xM F (Xs fun W p=>Xs fun X q=> ?_))))))))
   obtain rfl:s=0:=by omega
   have⟨Y,hxi⟩:=hI.done hm;have⟨G,Z,a0⟩:=Qu9 hm x;have hml:=Qln hm x;refine Xr (sMi E (sV (ZI false E E (dF Qo)) (sK q (cF E (Xk (xM p (rS fun a1 t=>sMi E (sMi E (sV (QbK (x.tmod (xm:Int)) E E Qo (E)) (sMi E (sV (XF (x.tmod (xm:Int)+xm) E E (QaZ ⟨E,by omega,by omega⟩)) (sMi E (sV (QbK (((md xm x:Nat):Int)) E E Qo (G)) (sV (XY (((md xm x:Nat):Int)) underlying2 underlying123 E (Qju ⟨E,by omega,by omega⟩)) (sAi E (sAi E (sK t (Xt (Qbl (.int .u32 (((md xm x:Nat):Int))) (.int .i64 (0)) results257 (XK E) (XK E) ?_)))))))))))))))))));exact⟨md xm x,0,E,A.trans c,Qo,E,hxi,hml⟩
end Go.Proofs.YtnkfdkhjaklolaaGreatDoor

namespace Go.Proofs.YtnkfdkhjaklolaaGreatDoor
open Go.RowKit Go.Gx Tryz
open Go renaming wp_ret→Xt,wp_seq_k→Xs,wp_skip→Xk,wp_region_lit→Xr,wp_block→Xb,wp_exit→Xe
open List renaming replicate→Xl
variable{Aa Af Ag:Option Addr}{Mf ca cf cg na nf ng xc xm:Nat}{Sa Sf Sg:Nat→Prop}{da df dg:List Nat}{lf:List RI}{w:World}
theorem Qak(ha:Xn w Sa Aa na ca da):Calls prog 204 #[.slice Aa na ca] w (Ret fun v w'=> ∃Ar nr cr dr,v=(.slice Ar nr cr)∧Ext w w'∧Xn w' (Sa) Ar nr cr dr∧(dr=Zw da)∧(nr≤na)):=by
 have⟨la,ka,ma⟩:=ha.lkm;refine enter func204 E ntmps204 E (rS fun G q=>sAs E (sK q (rS fun I r=>sMs E (sV (Xw underlying198 E) (sAi E (sK r (Xs fun J l=>Xb ?_)))))));refine Ym (fun m e w_=> ∃(k:Nat),m=k∧e 0=(.slice Aa na ca)∧e 3=(.int .i64 k)∧Frm (fun b=>False) w w_∧(k≤na)∧(∀j,k≤j→da.getD j 0=0)) ((na)) ?_ ?_
 ·refine⟨na,E,E,cI,Frm.refl _ _,?_,?_⟩
  ·omega
  ·exact Qbk Qo
 ·rintro K y L ⟨k,z,s,t,a,hk,hz⟩
  obtain⟨A,rfl⟩:=QxA s t;refine Xs fun B n=>rS fun C c=>sMi E ?_
  by_cases f:((k:Int))>0
  ·refine sV (Yu true E E (dT f)) (sMb E (sEv (v:= .slice Aa na ca) (E) E E (sEv (v:= .int .i64 k) (E) E E (sEv (v:= .int .i64 (((k:Int)) -1)) (XQ (((k:Int)) -1) E E wI) E E ?_))))
   have g:=ha.ext a;obtain⟨h,d,rfl⟩:=g.base Qo;refine sEv (v:= .pointer (some ⟨h,d+(k -1),none⟩)) (XU (k -1) underlying198 Xz E E (d+(k -1))) E E ?_;refine sEv (v:= .int .u32 (((da.getD (k -1) 0:Nat):Int))) (XR XV E (g.cell Qo)) E E ?_
   by_cases i:(((da.getD (k -1) 0:Nat):Int))=0
   ·refine sEv (v:= .bool true) (XD true E E (dT i)) E E (sV (v:= .bool true) (E) (sK c (cT E (Xk (xM n (Xb (Xr (sMi E (sV (XQ (((k:Int)) -1) E E wI) (sAi E (XB (bN (again ((k -1)) Qo ⟨k -1,E,E,cI,a,?_,?_⟩)))))))))))))
    ·omega
    ·exact QfI hz Qo
   ·refine sEv (v:= .bool false) (XD false E E (dF i)) E E (sV (v:= .bool false) (E) (sK c (cF E (Xe (xE (xE (bE (xM l (rS fun D o=>sMs E (sMi E ?_))))))))))
    have u:=g.take (m:=k) Qo;refine sV (YJ k underlying198 Xz E E Qo Qo) (sAs E (sK o (Xt (XL (.slice (some ⟨h,d,none⟩) k ca) results204 (XK E) ?_))));exact⟨some ⟨h,d,none⟩,k,ca,(da).take k,E,a,u,Qfc Qo hz Qo,Qo⟩
  ·refine sV (Yu false E E (dF f)) (sMb E (XH E E (XH E E (XH E E (XH E E (XH E E (XH E E (sV (v:= .bool false) (E) (sK c (cF E (Xe (xE (xE (bE (xM l (rS fun F p=>sMs E (sMi E ?_)))))))))))))))))
   have x:=(ha.ext a).take (m:=k) Qo;refine sV (YJ k underlying198 Xz E E Qo Qo) (sAs E (sK p (Xt (XL (.slice Aa k ca) results204 (XK E) ?_))));exact⟨Aa,k,ca,(da).take k,E,a,x,Qfc Qo hz Qo,Qo⟩
theorem QaB(hf:Xn w Sf Af nf cf df)(bm:xm<4294967296)(hnf:nf≤1048576)(hm:0<xm):Calls prog 197 #[.slice Af nf cf,.int .u32 xm] w (Ret fun v w'=> ∃Ar nr cr dr,v=(.slice Ar nr cr)∧Ext w w'∧Xn w' (fun b=>w.heap.size≤b) Ar nr cr dr∧(dr=Qqy xm df)∧(nr≤nf)∧(Qbg xm dr)):=by
 have⟨lf,kf,mf⟩:=hf.lkm;replace hf:=hf.low;refine enter func197 E ntmps197 E (rS fun K1 M=>sAs E (sK M (rS fun K2 N=>sMi E (sV (Qer ((xm:Int)) E E (by split<;>omega)) (sAi E (sK N (rS fun K3 O=>sMs E (sV (Xw underlying198 E) (sO (Qaw nf underlying198 Qai E cI cI Qo Qo fun a P Y r Z Q=> ?_))))))))));have t:Blk P a 123 (((Xl nf 0)).map u32):=by rw[Uw];exact Q
 refine sAs E (sK O (Xs fun a0 u=>rS fun a1 x=>sMs E (sV (Xw underlying198 E) (sMi E (sK x (Xb ?_))))));refine Ym (fun m e w_=> ∃(k:Nat)(L:List Nat),m=nf -k∧e 5=(.int .u32 xm)∧e 6=(.slice (some ⟨a,0,none⟩) nf nf)∧e 14=(.slice Af nf cf)∧e 15=(.int .i64 nf)∧e 16=(.int .i64 k)∧Frm (fun b=>b=a) P w_∧Blk w_ a 123 ((L++Xl (nf -k) 0).map u32)∧(k≤nf)∧(L.length=k)∧(L=(df.take k).map (· % xm))∧(∀d∈L,d<xm)) (nf -(0)) ?_ ?_
 ·refine⟨0,[],E,E,E,E,E,cI,Frm.refl _ _,?_,?_,?_,?_,?_⟩
  ·simpa using t
  ·omega
  ·rfl
  ·rfl
  ·simp
 ·rintro a2 a3 R ⟨k,L,X,y,z,A,B,C,c,j,hk,hLl,hL,hLt⟩
  obtain⟨a4,rfl⟩:=Qjz y z A B C;refine rS fun a5 l=> ?_
  by_cases n:((k:Int))<((nf:Int))
  ·refine sV (Xq true E E (dT n)) (sK l (Xs fun a6 D=>cT E (Xk (xM D (Xs fun a7 F=>Xb (rS fun a8 G=>sMi E ?_))))))
   have s:=hf.frmB (r.rx c) q3;obtain⟨a9,S,rfl⟩:=s.base Qo;refine sV (XU k underlying198 Xz E E (S+k)) ?_;refine sV (XR XV E (s.cell Qo)) (sAi E (sAi E (sK G (Xr (sMs E (sMi E (sMi E (sMi E (sV (QbK ((((df.getD k 0) % xm:Nat):Int)) E E Qo (Qjd Qo Qo)) (sV (XU k underlying198 Xz E E k) (sO (YH E E E Xz j (by exact lq) fun T I _ f=> ?_))))))))))));replace f:Blk T a 123 (((L++[(df.getD k 0) % xm])++Xl (nf -(k+1)) 0).map u32):=by rw[← (ZE hLl (by omega):(L++Xl (nf -k) 0).set k ((df.getD k 0) % xm)=(L++[(df.getD k 0) % xm])++Xl (nf -(k+1)) 0),UA];exact f
   refine XB (bN (xM F (Xr (sV (XF (((k:Int))+1) E E wI) (sMi E (XB (again (nf -(k+1)) Qo ⟨k+1,L++[(df.getD k 0) % xm],E,E,E,E,E,cI,c.trans I,?_,?_,?_,?_,?_⟩)))))))
   ·exact f
   ·omega
   ·simp [hLl]
   ·exact Qkk hL Qo (E)
   ·exact QeR hLt (UG _ Qo)
  ·refine sV (Xq false E E (dF n)) (sK l (Xs fun b0 _=>cF E (Xe (xE (xE (bE (xM u (rS fun b1 J=>sMs E ?_))))))))
   have U:Xn R (fun b=>b=a) (some ⟨a,0,none⟩) nf nf (L++Xl (nf -k) 0):=Xn.of_blk j E (QbM (Qf4 bm hLt)) (by exact lq) Qo (by unfold Yc;omega);refine sO (Xc E Qem (Qak U) E ?_);rintro _ b2 ⟨g,h,i,p,rfl,K,q,o,W⟩;refine sAs E (sK J (Xt (XL (.slice g h i) results197 (XK E) ?_)));exact⟨g,h,i,p,E,Frm.mono ((r.rx c).xr K) q4,Xn.sub q q5,(by rw[o,show nf -k=0 by omega,Wh,Wg,Qkj hL (by omega)];rfl),(by omega),(by rw[o];exact QbH (Qgn hLt (by omega)))⟩
theorem Qi0(hf:Xn w Sf Af nf cf df)(bc:xc<4294967296)(bm:xm<4294967296)(hnf:nf≤1048576)(hm:0<xm):Calls prog 258 #[.slice Af nf cf,.int .u32 xc,.int .u32 xm] w (Ret fun v w'=> ∃Ar nr cr dr,v=(.slice Ar nr cr)∧Ext w w'∧Xn w' (fun b=>w.heap.size≤b) Ar nr cr dr∧(dr=QwG xm df xc)∧(nr≤nf)∧(Qbg xm dr)):=by
 have⟨lf,kf,mf⟩:=hf.lkm;replace hf:=hf.low;refine enter func258 E ntmps258 E (rS fun K1 Q=>sAs E (sK Q (rS fun K2 R=>sMs E (sV (Xw underlying198 E) (sO (Qaw nf underlying198 Qai E cI cI Qo Qo fun f S a3 y a4 T=> ?_))))));have U:Blk S f 123 (((Xl nf 0)).map u32):=by rw[Uw];exact T
 refine sAs E (sK R (Xs fun a5 z=>rS fun a6 A=>sMs E (sV (Xw underlying198 E) (sMi E (sK A (Xb ?_))))));refine Ym (fun m e w_=> ∃(k:Nat)(L:List Nat),m=nf -k∧e 1=(.int .u32 xc)∧e 2=(.int .u32 xm)∧e 7=(.slice (some ⟨f,0,none⟩) nf nf)∧e 13=(.slice Af nf cf)∧e 14=(.int .i64 nf)∧e 15=(.int .i64 k)∧Frm (fun b=>b=f) S w_∧Blk w_ f 123 ((L++Xl (nf -k) 0).map u32)∧(k≤nf)∧(L.length=k)∧(L=(df.take k).map fun a=>a*xc % xm)∧(∀d∈L,d<xm)) (nf -(0)) ?_ ?_
 ·refine⟨0,[],E,E,E,E,E,E,cI,Frm.refl _ _,?_,?_,?_,?_,?_⟩
  ·simpa using U
  ·omega
  ·rfl
  ·rfl
  ·simp
 ·rintro a7 a8 W ⟨k,L,a1,B,C,D,F,G,I,g,n,hk,hLl,hL,hLt⟩
  obtain⟨a9,rfl⟩:=Qid B C D F G I;refine rS fun b0 o=> ?_
  by_cases p:((k:Int))<((nf:Int))
  ·refine sV (Xq true E E (dT p)) (sK o (Xs fun b1 J=>cT E (Xk (xM J (Xs fun b2 K=>Xb (rS fun b3 M=>sMi E ?_))))))
   have q:=hf.frmB (y.rx g) q3;obtain⟨b4,X,rfl⟩:=q.base Qo;refine sV (XU k underlying198 Xz E E (X+k)) ?_;have a2:=q.lt k;refine sV (XR XV E (q.cell Qo)) (sAi E (sAi E (sK M (Xr (sMs E (sMi E (sMi E (sMi E (sMi E (sO (Xc E Qk2 (Qeu (xa:=df.getD k 0) Qo (xb:=xc) Qo (xm:=xm) Qo Qo) E ?_)))))))))));rintro _ b5 ⟨c,rfl,r,_,s⟩;refine sV (XU k underlying198 Xz E E k) ?_;refine sO (YH E E E Xz (n.ext r) (by exact lq) fun Y N _ h=> ?_);replace h:Blk Y f 123 (((L++[c])++Xl (nf -(k+1)) 0).map u32):=by rw[← (ZE hLl (by omega):(L++Xl (nf -k) 0).set k c=(L++[c])++Xl (nf -(k+1)) 0),UA];exact h
   refine XB (bN (xM K (Xr (sV (XF (((k:Int))+1) E E wI) (sMi E (XB ?_))))));refine again (nf -(k+1)) Qo ⟨k+1,L++[c],E,E,E,E,E,E,cI,g.trans (r.rx N),?_,?_,?_,?_,?_⟩
   ·exact h
   ·omega
   ·simp [hLl]
   ·exact Qkk hL Qo (s)
   ·exact QeR hLt (by rw[s];exact UG _ (by omega))
  ·refine sV (Xq false E E (dF p)) (sK o (Xs fun b6 _=>cF E (Xe (xE (xE (bE (xM z (rS fun b7 O=>sMs E ?_))))))))
   have Z:Xn W (fun b=>b=f) (some ⟨f,0,none⟩) nf nf (L++Xl (nf -k) 0):=Xn.of_blk n E (QbM (Qf4 bm hLt)) (by exact lq) Qo (by unfold Yc;omega);refine sO (Xc E Qem (Qak Z) E ?_);rintro _ b8 ⟨i,j,l,u,rfl,P,x,t,a0⟩;refine sAs E (sK O (Xt (XL (.slice i j l) results258 (XK E) ?_)));exact⟨i,j,l,u,E,Frm.mono ((y.rx g).xr P) q4,Xn.sub x q5,(by rw[t,show nf -k=0 by omega,Wh,Wg,Qkj hL (by omega)];rfl),(by omega),(by rw[t];exact QbH (Qgn hLt (by omega)))⟩
theorem Qd7(hf:Xh w Sf Af nf cf lf Mf)(bm:xm<4294967296)(hnf:nf≤1048576)(hm:0<xm)(hMf:Mf≤268435456):Calls prog 155 #[.slice Af nf cf,.int .u32 xm] w (Ret fun v w'=> ∃Ar nr cr dr,v=(.slice Ar nr cr)∧Ext w w'∧Xn w' (fun b=>w.heap.size≤b) Ar nr cr dr∧(dr=QnK xm (zs lf))∧(nr≤nf)∧(Qbg xm dr)):=by
 have⟨kf,jf,mf⟩:=hf.lkm;replace hf:=hf.low;refine enter func155 E ntmps155 E (rS fun K1 a5=>sAs E (sK a5 (rS fun K2 a6=>sMs E (sV (Xw underlying25 E) (sO (Qaw nf underlying198 Qai E cI cI Qo Qo fun f w4 c4 G c5 a8=> ?_))))));have a9:Blk w4 f 123 (((Xl nf 0)).map u32):=by rw[Uw];exact a8
 refine sAs E (sK a6 (Xs fun c6 J=>rS fun c7 K=>sMs E (sV (Xw underlying25 E) (sMi E (sK K (Xb ?_))))));refine Ym (fun m e w_=> ∃(k:Nat)(L:List Nat),m=nf -k∧e 1=(.int .u32 xm)∧e 5=(.slice (some ⟨f,0,none⟩) nf nf)∧e 11=(.slice Af nf cf)∧e 12=(.int .i64 nf)∧e 13=(.int .i64 k)∧Frm (fun b=>b=f) w4 w_∧Blk w_ f 123 ((L++Xl (nf -k) 0).map u32)∧(k≤nf)∧(L.length=k)∧(L=(List.range k).map fun i=>md xm (co (zs lf) i))∧(∀d∈L,d<xm)) (nf -(0)) ?_ ?_
 ·refine⟨0,[],E,E,E,E,E,cI,Frm.refl _ _,?_,?_,?_,?_,?_⟩
  ·simpa using a9
  ·omega
  ·rfl
  ·rfl
  ·simp
 ·rintro c8 c9 b0 ⟨k,L,b7,M,N,O,P,Q,c,r,hk,hLl,hL,hLt⟩
  obtain⟨d0,rfl⟩:=Qjz M N O P Q;have b8:=c.size;refine rS fun d1 s=> ?_
  by_cases t:((k:Int))<((nf:Int))
  ·refine sV (Xq true E E (dT t)) (sK s (Xs fun d2 R=>cT E (Xk (xM R (Xs fun d3 S=>Xb (rS fun d4 T=>sMi E ?_))))))
   have I:=hf.frmB (G.rx c) q3;obtain⟨d5,b1,rfl⟩:=I.base Qo;refine sV (XU k underlying25 Xp E E (b1+(k*2))) ?_;obtain⟨g,h,j,l,b9,_,B,C,u,b5,_,_,U⟩:=I.at_ (i:=k) Qo;have⟨c0,_,_⟩:=u.lkm;refine sV (XO (Yb g h j l) Xo Xp E (Qcj B C)) (sO (Xj (Yb false none 0 0) XE E fun d6 d7 c1 W c2 X=>sAi E (sO (Xd (Yb g h j l) E E E Xp E X E fun d8 Y c3 Z=> ?_))));refine sK T (Xr (sMs E (sMi E (sV (Xa (Yb g h j l) Xo Xp E Z E) (sMi E ?_)))));have x:=W.rx Y;have b2:=u.frmB x q3;refine sO (Xc E Qob (Qd8 b2 (xm:=xm) Qo Qo Qo) E ?_);rintro _ d9 ⟨a,rfl,a0,_,y⟩;refine sV (XU k underlying198 Xz E E k) ?_;have z:=x.xr a0;have a1:=r.frm z q1;refine sO (YH E E E Xz a1 (by exact lq) fun b3 a2 _ n=> ?_);replace n:Blk b3 f 123 (((L++[a])++Xl (nf -(k+1)) 0).map u32):=by rw[← (ZE hLl (by omega):(L++Xl (nf -k) 0).set k a=(L++[a])++Xl (nf -(k+1)) 0),UA];exact n
   refine XB (bN (xM S (Xr (sV (XF (((k:Int))+1) E E wI) (sMi E (XB ?_))))));refine again (nf -(k+1)) Qo ⟨k+1,L++[a],E,E,E,E,E,cI,Frm.mono (c.tr (z.tr a2)) q4,?_,?_,?_,?_,?_⟩
   ·exact n
   ·omega
   ·simp [hLl]
   ·exact Qhe hL (by rw[y,U])
   ·exact QeR hLt (by rw[y];exact Qln (by omega) _)
  ·refine sV (Xq false E E (dF t)) (sK s (Xs fun e0 _=>cF E (Xe (xE (xE (bE (xM J (rS fun e1 a3=>sMs E ?_))))))))
   have b4:Xn b0 (fun b=>b=f) (some ⟨f,0,none⟩) nf nf (L++Xl (nf -k) 0):=Xn.of_blk r E (QbM (Qf4 bm hLt)) (by exact lq) Qo (by unfold Yc;omega);refine sO (Xc E Qem (Qak b4) E ?_);rintro _ e2 ⟨o,p,q,D,rfl,a4,F,A,b6⟩;refine sAs E (sK a3 (Xt (XL (.slice o p q) results155 (XK E) ?_)));exact⟨o,p,q,D,E,Frm.mono ((G.rx c).xr a4) q4,Xn.sub F q5,(by rw[A,show nf -k=0 by omega,Wh,Wg,hL,show k=nf by omega,QmC (Za _|>.trans (by omega))];rfl),(by omega),(by rw[A];exact QbH (Qgn hLt (by omega)))⟩
theorem QhC(hf:Xn w Sf Af nf cf df)(bm:xm<4294967296)(hm:0<xm):Calls prog 205 #[.slice Af nf cf,.int .u32 xm] w (Ret fun v w'=> ∃xr,v=(.int .i64 (xr))∧Ext w w'∧(xr=((Qqy xm df).length:Int) -1)∧(-1≤xr∧xr<nf)):=by
 have⟨lf,kf,mf⟩:=hf.lkm;replace hf:=hf.low;refine enter func205 E ntmps205 E (rS fun G p=>sAi E (sK p (rS fun I q=>sMi E (sV (Qer ((xm:Int)) E E (by split<;>omega)) (sAi E (sK q (rS fun J r=>sMs E (sV (Xw underlying198 E) (sAi E (sK r (Xs fun K g=>Xb ?_)))))))))));refine Ym (fun m e w_=> ∃(k:Nat),m=k∧e 0=(.slice Af nf cf)∧e 5=(.int .u32 xm)∧e 6=(.int .i64 k)∧Frm (fun b=>False) w w_∧(k≤nf)∧(∀j,k≤j→(df.map (· % xm)).getD j 0=0)) ((nf)) ?_ ?_
 ·refine⟨nf,E,E,E,cI,Frm.refl _ _,?_,?_⟩
  ·omega
  ·exact Qbk (by rw[List.length_map];omega)
 ·rintro L z M ⟨k,y,s,t,u,a,hk,hz⟩
  obtain⟨A,rfl⟩:=Qqe s t u;refine Xs fun B l=>rS fun C c=>sMi E ?_
  by_cases d:((k:Int))>0
  ·refine sV (Yu true E E (dT d)) (sMb E (sEv (v:= .slice Af nf cf) (E) E E (sEv (v:= .int .i64 k) (E) E E (sEv (v:= .int .i64 (((k:Int)) -1)) (XQ (((k:Int)) -1) E E wI) E E ?_))))
   have h:=hf.ext a;obtain⟨x,i,rfl⟩:=h.base Qo;refine sEv (v:= .pointer (some ⟨x,i+(k -1),none⟩)) (XU (k -1) underlying198 Xz E E (i+(k -1))) E E ?_;refine sEv (v:= .int .u32 (((df.getD (k -1) 0:Nat):Int))) (XR XV E (h.cell Qo)) E E (sEv (v:= .int .u32 xm) (E) E E (sEv (v:= .int .u32 ((((df.getD (k -1) 0) % xm:Nat):Int))) (QbK ((((df.getD (k -1) 0) % xm:Nat):Int)) E E Qo (Qjd Qo Qo)) E E ?_))
   by_cases f:((((df.getD (k -1) 0) % xm:Nat):Int))=0
   ·refine sEv (v:= .bool true) (XD true E E (dT f)) E E (sV (v:= .bool true) (E) (sK c (cT E (Xk (xM l (Xb (Xr (sMi E (sV (XQ (((k:Int)) -1) E E wI) (sAi E (XB (bN (again ((k -1)) Qo ⟨k -1,E,E,E,cI,a,?_,?_⟩)))))))))))))
    ·omega
    ·exact QqS hz Qo
   ·refine sEv (v:= .bool false) (XD false E E (dF f)) E E (sV (v:= .bool false) (E) (sK c (cF E (Xe (xE (xE (bE (xM g (rS fun D n=>sMi E (sV (XQ (((k:Int)) -1) E E wI) (sAi E (sK n (Xt (XL (.int .i64 (((k:Int)) -1)) results205 (XK E) ?_))))))))))))))
    exact⟨((k:Int)) -1,E,a,(by rw[QoV (by omega) hz (by omega)]),(by omega)⟩
  ·refine sV (Yu false E E (dF d)) (sMb E (XH E E (XH E E (XH E E (XH E E (XH E E (XH E E (XH E E (XH E E (sV (v:= .bool false) (E) (sK c (cF E (Xe (xE (xE (bE (xM g (rS fun F o=>sMi E (sV (XQ (((k:Int)) -1) E E wI) (sAi E (sK o (Xt (XL (.int .i64 (((k:Int)) -1)) results205 (XK E) ?_)))))))))))))))))))))))
   exact⟨((k:Int)) -1,E,a,(by rw[QoV (by omega) hz (by omega)]),(by omega)⟩
theorem Qlo(hf:Xn w Sf Af nf cf df)(hg:Xn w Sg Ag ng cg dg)(bm:xm<4294967296)(hnf:nf≤1048576)(hng:ng≤1048576)(hm:0<xm):Calls prog 254 #[.slice Af nf cf,.slice Ag ng cg,.int .u32 xm] w (Ret fun v w'=> ∃Ar nr cr dr,v=(.slice Ar nr cr)∧Ext w w'∧Xn w' (fun b=>w.heap.size≤b) Ar nr cr dr∧(dr=QxB xm df dg)∧(nr≤max nf ng)∧(Qbg xm dr)):=by
 have⟨lf,kf,mf⟩:=hf.lkm;replace hf:=hf.low;have⟨lg,kg,mg⟩:=hg.lkm;replace hg:=hg.low;refine enter func254 E ntmps254 E (rS fun K1 a0=>sAs E (sK a0 (rS fun K2 a1=>sMs E (sV (Xw underlying198 E) (sMs E (sV (Xw underlying198 E) (sV (Qer (((max nf ng:Nat):Int)) E E (by split<;>omega)) (sO (Qaw (max nf ng) underlying198 Qai E cI cI Qo Qo fun c w4 b5 r b6 a2=> ?_)))))))));have a3:Blk w4 c 123 (((Xl (max nf ng) 0)).map u32):=by rw[Uw];exact a2
 refine sAs E (sK a1 (rS fun b7 I=>sMs E (sMs E ?_)));obtain⟨X,hXe⟩: ∃X,X=df++Xl (max nf ng -nf) 0:=⟨_,E⟩;have hXt: ∀d∈X,d<BS:=(by rw[hXe];exact QbM hf.2);have hXg: ∀i,X.getD i 0=df.getD i 0:=(by intro i;rw[hXe];exact QuL _ _ _);have hXl:X.length=max nf ng:=(by rw[hXe];simp;omega);refine sO (QhG underlying198 Xz E E (hf.ext r).1 (Qba _) a3 Qo (by exact lq) fun G s b0 g=> ?_);replace g:Blk G c 123 ((X).map u32):=by rw[← (by rw[hXe];simp :(Xl (max nf ng) 0).take 0++df++(Xl (max nf ng) 0).drop (0+nf)=X),Uo,Uo,List.map_take,List.map_drop];exact g
 rw[YM];refine sK I (Xs fun b8 J=>rS fun b9 K=>sMs E (sV (Xw underlying198 E) (sMi E (sK K (Xb ?_)))));refine Ym (fun m e w_=> ∃(k:Nat)(L:List Nat),m=ng -k∧e 1=(.slice Ag ng cg)∧e 2=(.int .u32 xm)∧e 7=(.slice (some ⟨c,0,none⟩) (max nf ng) (max nf ng))∧e 19=(.int .i64 ng)∧e 20=(.int .i64 k)∧Frm (fun b=>b=c) G w_∧Blk w_ c 123 ((L++X.drop k).map u32)∧(k≤ng)∧(L.length=k)∧(∀i,i<k→L.getD i 0=(fun i=>md xm (((df.getD i 0:Nat):Int) -(dg.getD i 0:Nat))) i)∧(∀d∈L,d<xm)) (ng -(0)) ?_ ?_
 ·refine⟨0,[],E,E,E,E,E,cI,Frm.refl _ _,?_,?_,?_,?_,?_⟩
  ·exact g
  ·omega
  ·rfl
  ·intro i hi;omega
  ·simp
 ·rintro c0 c1 a4 ⟨k,L,b1,M,O,P,Q,R,f,t,hk,hLl,hL,hLt⟩
  obtain⟨c2,rfl⟩:=Qjz M O P Q R;have b2:=f.size;refine rS fun c3 u=> ?_
  by_cases x:((k:Int))<((ng:Int))
  ·refine sV (Xq true E E (dT x)) (sK u (Xs fun c4 S=>cT E (Xk (xM S (Xs fun c5 T=>Xb (rS fun c6 U=>sMi E (sAi E (sK U (XA (fun b=>b=c) mixed fun c7 h _=>dMs 0 E E (dMi 1 E E (dMs 2 E E (dMi 3 E E (dV 4 E (fun _ _=>XU k underlying198 Xz E E k) (dMs 6 E E (dMi 7 E E ?_)))))))))))))))
   have y:=hg.frmB (((r.rx s).trans f).xr h) q3;obtain⟨c8,a5,rfl⟩:=y.base Qo;refine dV 8 E (fun _ _=>XU k underlying198 Xz E E (a5+k)) ?_;have b3:=y.lt k;refine dV 9 E (fun _ hf=>XR XV E ((y.frm hf q2).cell Qo)) (dMi 10 E E ?_);have z:=t.ext h;have b4:=getD_lt (ds:=L++X.drop k) (i:=k) (Qpr (Qf4 bm hLt) hXt);refine dOk 5 E E (oEv (v:= .int .u32 ((((L++X.drop k).getD k 0:Nat):Int))) (XR XV E (z.dig (by exact lq))) E ⟨Frm.refl _ _,dOk 11 E E (Xc E QtU (Qlq (xa:=(L++X.drop k).getD k 0) Qo (xb:=dg.getD k 0) Qo (xm:=xm) Qo Qo) E ?_)⟩);rintro _ c9 ⟨a,rfl,j,_,A⟩;refine⟨Frm.of_ext j,?_⟩;refine dV 12 E (fun _ _=>XU k underlying198 Xz E E k) ?_;refine dOk 13 E E (YH E E E Xz (z.ext j) (by exact lq) fun a6 B _ l=> ?_);replace l:Blk a6 c 123 (((L++[a])++X.drop (k+1)).map u32):=by rw[← (Qrn hLl (by omega):(L++X.drop k).set k a=(L++[a])++X.drop (k+1)),UA];exact l
   refine⟨B,XG (by kernel_rfl) (bN (xM T (Xr (sV (XF (((k:Int))+1) E E wI) (sMi E (XB ?_))))))⟩;refine again (ng -(k+1)) Qo ⟨k+1,L++[a],E,E,E,E,E,cI,f.trans ((h.trans j).rx B),?_,?_,?_,?_,?_⟩
   ·exact l
   ·omega
   ·simp [hLl]
   ·exact Qo7 hLl hL (by rw[A,Qrm hLl,hXg];exact Qwp (by omega) _ _)
   ·exact QeR hLt (by rw[A];exact UG _ (by omega))
  ·refine sV (Xq false E E (dF x)) (sK u (Xs fun d0 _=>cF E (Xe (xE (xE (bE (xM J (rS fun d1 W=>sMs E (sMi E ?_)))))))))
   have a7:Xn a4 (fun b=>b=c) (some ⟨c,0,none⟩) (max nf ng) (max nf ng) (L++X.drop k):=Xn.of_blk t E (Qpr (Qf4 bm hLt) hXt) (by exact lq) Qo (by unfold Yc;omega);refine sO (Xc E Qgz (QaB a7 (xm:=xm) Qo Qo Qo) E ?_);rintro _ d2 ⟨o,p,q,C,rfl,Y,D,Z,a8,F⟩;refine sAs E (sK W (Xt (XL (.slice o p q) results254 (XK E) ?_)));exact⟨o,p,q,C,E,Frm.mono (((r.rx s).trans f).xr Y) q4,Xn.sub D q5,(by rw[Z,show k=dg.length by omega];exact QrY (n:=0) (N:=max nf ng) (by omega) hXg hXl (by omega) (by omega) fun i hi=>hL i (by omega)),(by omega),F⟩
set_option maxHeartbeats 1000000 in
theorem Qet(hf:Xn w Sf Af nf cf df)(hg:Xn w Sg Ag ng cg dg)(bm:xm<4294967296)(hnf:nf≤1048576)(hng:ng≤1048576)(hm:0<xm):Calls prog 209 #[.slice Af nf cf,.slice Ag ng cg,.int .u32 xm] w (Ret fun v w'=> ∃Ar nr cr dr,v=(.slice Ar nr cr)∧Ext w w'∧Xn w' (fun b=>w.heap.size≤b) Ar nr cr dr∧(dr=Qw1 xm df dg)∧(nr≤nf+ng -1)∧(Qbg xm dr)):=by
 have⟨lf,kf,mf⟩:=hf.lkm;replace hf:=hf.low;have⟨lg,kg,mg⟩:=hg.lkm;replace hg:=hg.low;refine enter func209 E ntmps209 E (rS fun K1 e2=>sAs E (sK e2 (rS fun K2 e3=>sMs E (sMi E (sO (Xc E Qgz (QaB hf (xm:=xm) Qo Qo Qo) E ?_))))));rintro _ w4 ⟨a5,c,J,f,rfl,t,K,L,e9,_⟩;have g8:=t.size;have⟨f0,f1,f2⟩:=K.lkm;refine sMs E (sMi E ?_);refine sO (Xc E Qgz (QaB (hg.ext t) (xm:=xm) Qo Qo Qo) E ?_);rintro _ g9 ⟨n,a,p,g,rfl,l,M,N,f3,_⟩;have f4:=l.size;have⟨f5,f6,f7⟩:=M.lkm;refine sAs E (sAs E (sK e3 (Xs fun h0 a6=>rS fun h1 A=>sMs E (sV (Xw underlying198 E) ?_))))
 by_cases O:((c:Int))=0
 ·refine sV (XD true E E (dT O)) (sMb E (XH E E (XH E E (XH E E (sV (v:= .bool true) (E) (sK A (cT E (rS fun h2 a7=>sAs E (sK a7 (Xt (xR (XL (.slice none 0 0) results209 (XK E) ?_))))))))))))
  exact⟨none,0,0,[],E,t.trans l,Xn.nil,Qmr L N Qo,Qo,Qbg.nil⟩
 ·refine sV (XD false E E (dF O)) (sMb E (sEv (v:= .slice n a p) (E) E E (sEv (v:= .int .i64 a) (Xw underlying198 E) E E ?_)))
  by_cases P:((a:Int))=0
  ·refine sEv (v:= .bool true) (XD true E E (dT P)) E E (sV (v:= .bool true) (E) (sK A (cT E (rS fun h3 a8=>sAs E (sK a8 (Xt (xR (XL (.slice none 0 0) results209 (XK E) ?_))))))))
   exact⟨none,0,0,[],E,t.trans l,Xn.nil,Qmr L N Qo,Qo,Qbg.nil⟩
  ·refine sEv (v:= .bool false) (XD false E E (dF P)) E E (sV (v:= .bool false) (E) (sK A (cF E (Xk (xM a6 (rS fun h4 a9=>sMi E (sV (Qer ((xm:Int)) E E (by split<;>omega)) (sV (XY ((xm:Int)) underlying123 underlying75 E (Qbm Qo)) (sAi E (sK a9 (rS fun h5 b0=>sMs E (sV (Xw underlying198 E) (sMs E (sV (Xw underlying198 E) (sV (XF (((c:Int))+((a:Int))) E E wI) (sV (XQ ((((c:Int))+((a:Int))) -1) E E wI) (sO (Qaw ((c+a) -1) underlying198 Qai E cI cI Qo Qo fun h a2 f8 B f9 b1=> ?_))))))))))))))))))
   have b2:Blk a2 h 123 (((Xl ((c+a) -1) 0)).map u32):=by rw[Uw];exact b1
   refine sAs E (sK b0 (Xs fun h6 b3=>rS fun h7 b4=>sMs E (sV (Xw underlying198 E) (sMi E (sK b4 (Xb ?_))))));refine Ym (fun m e w_=> ∃(i:Nat)(o:List Nat),m=c -i∧e 1=(.slice n a p)∧e 7=(.int .u64 xm)∧e 8=(.slice (some ⟨h,0,none⟩) ((c+a) -1) ((c+a) -1))∧e 37=(.slice a5 c J)∧e 38=(.int .i64 c)∧e 39=(.int .i64 i)∧Frm (fun b=>b=h) a2 w_∧Blk w_ h 123 (o.map u32)∧(i≤c)∧(o.length=c+a -1)∧(∀d∈o,d<xm)∧(∀j,o.getD j 0=md xm (Qjy (zl f) (zl g) i 0 j))) (c -(0)) ?_ ?_
   ·refine⟨0,Xl (c+a -1) 0,E,E,E,E,E,E,cI,Frm.refl _ _,?_,?_,?_,?_,?_⟩
    ·exact b2
    ·omega
    ·simp
    ·intro d hd;rw[List.eq_of_mem_replicate hd];omega
    ·exact QpB _
   ·rintro h8 h9 a3 ⟨i,o,g0,b5,b6,b7,b8,b9,c0,r,Q,hi,hl,hot,ho⟩
    obtain⟨i0,rfl⟩:=Qid b5 b6 b7 b8 b9 c0;refine rS fun i1 R=> ?_
    by_cases S:((i:Int))<((c:Int))
    ·refine sV (Xq true E E (dT S)) (sK R (Xs fun i2 c1=>cT E (Xk (xM c1 (Xs fun i3 c2=>Xb (rS fun i4 c3=>sMi E ?_))))))
     have T:=K.frmB ((l.trans B).rx r) q3;obtain⟨e4,a4,rfl⟩:=T.base Qo;refine sV (XU i underlying198 Xz E E (a4+i)) ?_;have g1:=T.lt i;refine sV (XR XV E (T.cell Qo)) (sAi E (sAi E (sK c3 (rS fun i5 c4=>sMs E (sV (Xw underlying198 E) (sMi E (sK c4 (Xb ?_))))))));refine Ym (fun m e w_=> ∃(k:Nat)(q:List Nat),m=a -k∧e 1=(.slice n a p)∧e 7=(.int .u64 xm)∧e 8=(.slice (some ⟨h,0,none⟩) ((c+a) -1) ((c+a) -1))∧e 9=(.int .i64 i)∧e 10=(.int .u32 (((f.getD i 0:Nat):Int)))∧e 37=(.slice (some ⟨e4,a4,none⟩) c J)∧e 38=(.int .i64 c)∧e 39=(.int .i64 i)∧e 44=(.slice n a p)∧e 45=(.int .i64 a)∧e 46=(.int .i64 k)∧Frm (fun b=>b=h) a3 w_∧Blk w_ h 123 (q.map u32)∧(k≤a)∧(q.length=c+a -1)∧(∀d∈q,d<xm)∧(∀j,q.getD j 0=md xm (Qjy (zl f) (zl g) i k j))) (a -(0)) ?_ ?_
     ·refine⟨0,o,E,E,E,E,E,E,E,E,E,E,E,cI,Frm.refl _ _,?_,?_,?_,?_,?_⟩
      ·exact Q
      ·omega
      ·omega
      ·exact hot
      ·exact ho
     ·rintro i6 i7 i8 ⟨k,q,g2,c5,c6,c7,c8,c9,d0,d1,d2,d3,d4,d5,C,U,hk,hlq,hqt,hq⟩
      obtain⟨i9,rfl⟩:=Qqd c5 c6 c7 c8 c9 d0 d1 d2 d3 d4 d5;refine rS fun j0 W=> ?_
      by_cases X:((k:Int))<((a:Int))
      ·refine sV (Xq true E E (dT X)) (sK W (Xs fun j1 d6=>cT E (Xk (xM d6 (Xs fun j2 d7=>Xb (rS fun j3 d8=>sMi E ?_))))))
       have Y:=M.frmB ((B.rx r).trans C) q3;obtain⟨j4,d9,rfl⟩:=Y.base Qo;refine sV (XU k underlying198 Xz E E (d9+k)) ?_;have e7:=Y.lt k;refine sV (XR XV E (Y.cell Qo)) (sAi E (sAi E (sK d8 (XA (fun b=>b=h) mixed fun g3 D _=>dMs 0 E E (dMi 1 E E (dMi 2 E E (dV 3 E (fun _ _=>XF (((i:Int))+((k:Int))) E E wI) (dMs 4 E E (dMi 5 E E (dMi 6 E E (dV 7 E (fun _ _=>XF (((i:Int))+((k:Int))) E E wI) (dV 8 E (fun _ _=>XU (i+k) underlying198 Xz E E (i+k)) (dMi 11 E E (dV 12 E (fun _ _=>XY (((f.getD i 0:Nat):Int)) underlying123 underlying75 E (Qbm Qo)) (dMi 13 E E (dV 14 E (fun _ _=>XY (((g.getD k 0:Nat):Int)) underlying123 underlying75 E (Qbm Qo)) (dV 15 E (fun _ _=>Qf3 ((((f.getD i 0)*(g.getD k 0):Nat):Int)) E E (Qms (QcM Qo Qo))) ?_)))))))))))))))));refine dMi 16 E E (dV 17 E (fun _ _=>QbK (((((f.getD i 0)*(g.getD k 0)) % xm:Nat):Int)) E E Qo (Qjd Qo Qo)) ?_);have j5:=UG ((f.getD i 0)*(g.getD k 0)) (show 0<xm by omega);refine dMi 19 E E ?_;have F:=U.ext D;have e8:=getD_lt (ds:=q) (i:=i+k) (Qf4 bm hqt);refine dOk 9 E E (oEv (v:= .int .u32 (((q.getD (i+k) 0:Nat):Int))) (XR XV E (F.dig (by exact lq))) E ⟨Frm.refl _ _,dV 10 E (fun _ _=>XY (((q.getD (i+k) 0:Nat):Int)) underlying123 underlying75 E (Qbm Qo)) (dV 18 E (fun _ _=>XF ((((q.getD (i+k) 0)+(((f.getD i 0)*(g.getD k 0)) % xm):Nat):Int)) E E (Qbm Qo)) (dV 20 E (fun _ _=>QbK (((((q.getD (i+k) 0)+(((f.getD i 0)*(g.getD k 0)) % xm)) % xm:Nat):Int)) E E Qo (Qjd Qo Qo)) ?_))⟩);have j6:=UG (((q.getD (i+k) 0)+(((f.getD i 0)*(g.getD k 0)) % xm))) (show 0<xm by omega);refine dV 21 E (fun _ _=>XY (((((q.getD (i+k) 0)+(((f.getD i 0)*(g.getD k 0)) % xm)) % xm:Nat):Int)) underlying75 underlying123 E (Qju ⟨E,by omega,by omega⟩)) (dV 22 E (fun _ _=>XU (i+k) underlying198 Xz E E (i+k)) (dOk 23 E E (YH E E E Xz F (by exact lq) fun e0 G _ s=> ?_)));replace s:Blk e0 h 123 ((q.set (i+k) (((q.getD (i+k) 0)+(((f.getD i 0)*(g.getD k 0)) % xm)) % xm)).map u32):=by rw[UA];exact s
       refine⟨G,XG (by kernel_rfl) (bN (xM d7 (Xr (sV (XF (((k:Int))+1) E E wI) (sMi E (XB ?_))))))⟩;refine again (a -(k+1)) Qo ⟨k+1,q.set (i+k) (((q.getD (i+k) 0)+(((f.getD i 0)*(g.getD k 0)) % xm)) % xm),E,E,E,E,E,E,E,E,E,E,E,cI,C.trans (D.rx G),?_,?_,?_,?_,?_⟩
       ·exact s
       ·omega
       ·simp;omega
       ·exact Qps hqt (UG _ Qo)
       ·exact Qpz Qo hq Qo E (QoH _ _) (QoH _ _)
      ·refine sV (Xq false E E (dF X)) (sK W (Xs fun g4 _=>cF E (Xe (xE (xE (bE (bN (xM c2 (Xr (sV (XF (((i:Int))+1) E E wI) (sMi E (XB (again (c -(i+1)) Qo ⟨i+1,q,E,E,E,E,E,E,cI,r.trans C,?_,?_,?_,?_,?_⟩)))))))))))))
       ·exact U
       ·omega
       ·omega
       ·exact hqt
       ·exact QpA (by rw[Qfg,show g.length=k by omega];exact hq)
    ·refine sV (Xq false E E (dF S)) (sK R (Xs fun g5 _=>cF E (Xe (xE (xE (bE (xM b3 (rS fun g6 a0=>sMs E ?_))))))))
     have e1:Xn a3 (fun b=>b=h) (some ⟨h,0,none⟩) ((c+a) -1) ((c+a) -1) (o):=Xn.of_blk Q E (Qf4 bm hot) (by exact lq) Qo (by unfold Yc;omega);refine sO (Xc E Qem (Qak e1) E ?_);rintro _ g7 ⟨u,x,y,Z,rfl,a1,z,I,e5⟩;have⟨e6,_,_⟩:=z.lkm;refine sAs E (sK a0 (Xt (XL (.slice u x y) results209 (XK E) ?_)));exact⟨u,x,y,Z,E,Frm.mono ((((t.trans l).trans B).rx r).xr a1) q4,Xn.sub z q5,(by rw[I];unfold Qw1;rw[←L,←N];exact Qrq ho (by rw[Qfg];omega) (by rw[Qfg,Qfg];omega) (by rw[Qfg];omega) (by rw[Qfg];omega)),(by omega),(by rw[I];exact QbH hot)⟩
end Go.Proofs.YtnkfdkhjaklolaaGreatDoor
