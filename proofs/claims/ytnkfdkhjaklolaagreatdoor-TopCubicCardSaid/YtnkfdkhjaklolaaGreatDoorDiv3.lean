/-
  Walks of package division: quotients of integers, greatest common divisors.
-/
import Derived.Test.YtnkfdkhjaklolaaGreatDoorDiv2
import Derived.Test.YtnkfdkhjaklolaaGreatDoorInt1
open List renaming eq_nil_of_length_eq_zero→Ua
open Nat renaming gcd→UK
namespace Go.Proofs.YtnkfdkhjaklolaaGreatDoor
open Go.RowKit Go.Gx Tryz
open Go renaming wp_ret→Xt,wp_seq_k→Xs,wp_skip→Xk,wp_region_lit→Xr,wp_block→Xb,wp_exit→Xe
variable{Aa Ab:Option Addr}{Sa Sb:Nat→Prop}{ca cb na nb:Nat}{da db:List Nat}{ga gb:Bool}{w:World}
theorem Qdj(ha:Xn w Sa Aa na ca da):Calls prog 186 #[Zb ga Aa na ca] w (Ret fun v w'=> ∃gr,v=(.bool gr)∧Ext w w'∧(gr=decide (Xx ga da=0))):=by
 replace ha:=ha.low;refine enter func186 E ntmps186 E (rS fun i d=>sO (Ys (Yb ga Aa na ca) E E fun j k _ a _ e=>sAb E (sK d (rS fun l f=>sV (Xa (Yb ga Aa na ca) Xo Xp E e E) ?_))));refine sO (Xc E QdM (Yy (ha.ext a)) E ?_);rintro _ h ⟨g,rfl,b,c⟩;refine sV (XD (decide (Xx ga da=0)) E E (Qx3 c)) (sAb E (sK f (Xt (XL (.bool (decide (Xx ga da=0))) results186 (XK E) ?_))));exact⟨decide (Xx ga da=0),E,a.trans b,E⟩
theorem Qaf(ha:Xn w Sa Aa na ca da)(hb:Xn w Sb Ab nb cb db)(hna:na≤137438953472)(hnb:nb≤137438953472)(hb0:Xx gb db≠0):Calls prog 145 #[Zb ga Aa na ca,Zb gb Ab nb cb] w (Ret fun v w'=> ∃gq Aq nq cq dq gr Ar nr cr dr xe,v=(.tuple #[Zb gq Aq nq cq,Zb gr Ar nr cr,.int .i64 (xe)])∧Ext w w'∧Xn w' (fun b=>w.heap.size≤b) Aq nq cq dq∧Xn w' (fun b=>w.heap.size≤b) Ar nr cr dr∧(Xx gq dq=(Xx ga da).tdiv (Xx gb db))∧(Xx gr dr=(Xx ga da).tmod (Xx gb db))∧(Qay gq dq)∧(Qay gr dr)∧(xe=0)∧(nq≤na+1)∧(nr≤nb)):=by
 have⟨la,ka,ma⟩:=ha.lkm;replace ha:=ha.low;have⟨lb,kb,mb⟩:=hb.lkm;replace hb:=hb.low;refine enter func145 E ntmps145 E (rS fun K1 b2=>sO (Ys (Yb ga Aa na ca) E E fun g2 w3 e0 b3 e1 b4=>sO (Ys (Yb gb Ab nb cb) E E fun g8 w9 c9 I d0 Y=>sO (Xj (Yb false none 0 0) XE E fun b5 e2 d1 s d2 Z=>sO (Xj (Yb false none 0 0) XE E fun b6 e3 d3 r d4 a0=>sAi E (sK b2 (Xs fun e4 a1=>rS fun e5 a2=> ?_)))))));have J:=Y.ext (s.trans r);refine sV (Xa (Yb gb Ab nb cb) Xo Xp E J E) ?_;have K:=((b3.trans I).trans s).trans r;have X:=hb.ext K;refine sO (Xc E Qn9 (Qdj X) E ?_);rintro _ e6 ⟨R,rfl,a,a3⟩;have d5:=a.size;obtain rfl:R=false:=by rw[a3];exact decide_eq_false hb0
 refine sK a2 (cF E (Xk (xM a1 (Xs fun e7 a4=> ?_))));have d6:0<val db:=by have h:=XI gb db;omega
 refine Xr (sV (XZ 1 Zk E E) ?_);have L:=b4.ext (((I.trans s).trans r).trans a);refine sV (Xg Qam E L E) (sV (XZ 1 Zk E E) ?_);have M:=J.ext a;refine sV (Xg Qam E M E) ?_;have N:=K.trans a;refine sO (Xc E QkV (QbJ (ha.ext N) (X.ext a) Qo Qo Qo) E ?_);rintro _ e8 ⟨t,u,x,c1,y,z,A,c2,rfl,n,B,C,O,D,_,_,b7,b8⟩;have d7:=n.size;have⟨c3,_,_⟩:=B.lkm;have⟨c4,_,_⟩:=C.lkm;refine sV (v:= .tuple #[.slice t u x,.slice y z A]) (E) (sV (v:= .slice t u x) (E) (sV (v:= .slice y z A) (E) (sAs E (sAs E (sK a4 (Xs fun e9 a5=>XA (fun b=>b=b5∨b=b6) mixed fun f0 c d8=>dV 0 E (fun _ _=>XZ 0 QaN E E) ?_))))));have P:=n.trans c;have Q:=L.ext P;refine dV 1 E (fun _ hf=>Xg Qc0 E (Q.frm hf q1) E) (dV 2 E (fun _ _=>XZ 0 QaN E E) ?_);refine dV 3 E (fun _ hf=>Xg Qc0 E ((M.ext P).frm hf q1) E) (dV 4 E (fun _ _=>Qsz _ underlying4 E E E) (dMs 5 E E (dV 7 E (fun _ _=>XZ 0 QaN E E) (dV 8 E (fun _ hf=>Xg Qc0 E (Q.frm hf q1) E) (dMs 9 E E ?_)))));refine dOk 6 E E (Xc E QfL (ZM (B.ext c) Qo) E ?_);rintro _ f1 ⟨e,f,g,i,S,rfl,d,F,a6,T,c5⟩;refine⟨Frm.of_ext d,?_⟩;have d9:=d.size;have⟨c6,_,_⟩:=F.lkm;refine dOk 10 E E (Xc E QfL (ZM (C.ext (c.trans d)) Qo) E ?_);rintro _ f2 ⟨j,k,l,m,U,rfl,o,G,a7,W,c7⟩;refine⟨Frm.of_ext o,?_⟩;have⟨c8,_,_⟩:=G.lkm;refine dOk 11 E E (Xd (Yb e f g i) E E E Xp E (Z.ext (((((r.trans a).trans n).trans c).trans d).trans o)) E fun f3 p _ a8=> ?_);refine⟨p.mono q4,?_⟩;have a9:=a0.frm (((((a.trans n).trans c).trans d).trans o).rx p) q1;refine dOk 12 E E (Xd (Yb j k l m) E E E Xp E a9 E fun f4 q _ b0=> ?_);refine⟨q.mono q4,dAi 13 E E (XG (by kernel_rfl) (xM a5 (Xt ?_)))⟩;have b1:=a8.frm q q1;refine Qnv (Zb e f g i) (Zb j k l m) (.int .i64 (0)) results145 (YE (Yb e f g i) Xo Xp E b1) (YE (Yb j k l m) Xo Xp E b0) (XK E) ?_;have b9:=F.frmB ((o.rx p).tr q) q3;have c0:=G.frmB (p.tr q) q3;exact⟨e,f,g,i,S,j,k,l,m,U,0,E,Frm.mono ((((((N.trans n).trans c).trans d).trans o).rx p).tr q) q4,Xn.sub b9 q5,Xn.sub c0 q5,(by rw[a6];exact QuQ O D),(by rw[a7];exact QuS O D),T,W,E,(by omega),(by omega)⟩
theorem Qdi(ha:Xn w Sa Aa na ca da)(hb:Xn w Sb Ab nb cb db)(hna:na≤68719476736)(hnb:nb≤68719476736):Calls prog 146 #[Zb ga Aa na ca,Zb gb Ab nb cb] w (Ret fun v w'=> ∃gr Ar nr cr dr,v=(Zb gr Ar nr cr)∧Ext w w'∧Xn w' (fun b=>w.heap.size≤b) Ar nr cr dr∧(Xx gr dr=(UK (val da) (val db):Int))∧(Qay gr dr)∧(nr≤na+nb+2)):=by
 have⟨la,ka,ma⟩:=ha.lkm;replace ha:=ha.low;have⟨lb,kb,mb⟩:=hb.lkm;replace hb:=hb.low;refine enter func146 E ntmps146 E (rS fun K1 i4=>sO (Ys (Yb ga Aa na ca) E E fun g2 w3 o3 i5 o4 i6=>sO (Ys (Yb gb Ab nb cb) E E fun g8 w9 l7 b2 l8 g1=>sO (Xj (Yb false none 0 0) XE E fun g0 o5 l9 T m0 U=>sK i4 (Xs fun o6 g3=>XA (fun _=>False) mixed fun o7 j m1=>dV 0 E (fun _ _=>XZ 1 Zk E E) ?_)))));refine dV 1 E (fun _ hf=>Xg Qam E ((i6.ext ((b2.trans T).trans j)).ext hf) E) (dV 3 E (fun _ _=>XZ 1 Zk E E) ?_);refine dV 4 E (fun _ hf=>Xg Qam E ((g1.ext (T.trans j)).ext hf) E) ?_;have b3:=((i5.trans b2).trans T).trans j;refine dOk 2 E E (Xc E QfK (Zm (ha.ext b3) Qo) E ?_);rintro _ o8 ⟨d1,d2,d3,d4,rfl,k,X,g4,k3⟩;refine⟨Frm.of_ext k,?_⟩;have m2:=k.size;have⟨k4,_,_⟩:=X.lkm;have C:=b3.trans k;refine dOk 5 E E (Xc E QfK (Zm (hb.ext C) Qo) E ?_);rintro _ i7 ⟨d5,d6,d7,Y,rfl,a,Z,b4,k5⟩;refine⟨Frm.of_ext a,?_⟩;have m3:=a.size;have⟨k6,_,_⟩:=Z.lkm;refine dAs 6 E E (dAs 7 E E (XG (by kernel_rfl) (xM g3 (Xs fun o9 g5=>Xb ?_))));refine Ym (fun m e w_=> ∃(Ax:Option Addr)(nx:Nat)(cx:Nat)(dx:List Nat)(Ay:Option Addr)(ny:Nat)(cy:Nat)(dy:List Nat),m=val dy∧e 4=(.pointer (some ⟨g0,0,none⟩))∧e 5=(.slice Ax nx cx)∧e 6=(.slice Ay ny cy)∧Frm (fun b=>False) i7 w_∧(nx≤na+nb)∧(ny≤na+nb)∧(Xn w_ (fun b=>w.heap.size≤b) Ax nx cx dx)∧(Xn w_ (fun b=>w.heap.size≤b) Ay ny cy dy)∧(Canon isZ dy)∧(UK (val dx) (val dy)=UK (val da) (val db))) (val (Y)) ?_ ?_
 ·refine⟨d1,d2,d3,d4,d5,d6,d7,Y,E,E,E,E,Frm.refl _ _,?_,?_,?_,?_,?_,?_⟩
  ·omega
  ·omega
  ·exact Xn.sub (X.ext a) q5
  ·exact Xn.sub Z q5
  ·rw[b4];exact XJ _ _
  ·rw[g4,b4,XX,XX]
 ·rintro p0 p1 p2 ⟨Ax,nx,cx,dx,Ay,ny,cy,dy,m4,g6,g7,g9,c,hnx,hny,hX,hY,hcy,hG⟩
  obtain⟨p3,rfl⟩:=Qqe g6 g7 g9;have m5:=c.size;have⟨lx,kx,mx⟩:=hX.lkm;have⟨ly,ky,my⟩:=hY.lkm;refine Xs fun p4 b5=>rS fun p5 W=>sMs E (sV (Xw underlying28 E) ?_)
  by_cases b6:((nx:Int))>2
  ·refine sV (Yu true E E (dT b6)) (sMb E (XH E E (XH E E (XH E E (sV (v:= .bool true) (E) (sK W (cT E (Xk (xM b5 (Xb (Xs fun p6 h0=>rS fun p7 b7=>sMs E (sV (Xw underlying28 E) ?_))))))))))))
   by_cases b8:((ny:Int))=0
   ·refine sV (XD true E E (dT b8)) (sK b7 (cT E (rS fun p8 h1=>sMs E (sO (Xc E QfL (ZM hX Qo) E ?_)))))
    rintro _ p9 ⟨l,n,o,p,d8,rfl,b9,a0,h2,d9,k7⟩;have⟨k8,_,_⟩:=a0.lkm;refine sO (Xd (Yb l n o p) E E E Xp E (U.ext ((((j.trans k).trans a).trans c).trans b9)) E fun q0 c0 _ h3=> ?_);refine sK h1 (Xt (xR (bR (xR (bR (xR (XL (Zb l n o p) results146 (YE (Yb l n o p) Xo Xp E h3) ?_)))))));have i8:=a0.frmB c0 q3;exact⟨l,n,o,p,d8,E,Frm.mono ((((C.trans a).trans c).trans b9).rx c0) q4,Xn.sub i8 q5,(by rw[h2,ZD,QiR hG (by rw[show dy=[] from Ua (by omega)];rfl)]),d9,(by omega)⟩
   ·refine sV (XD false E E (dF b8)) (sK b7 (cF E (Xk (xM h0 (Xs fun q1 h4=> ?_)))))
    have hvy:=QjL hcy ly Qo;refine Xr (sMs E (sMs E (sO (Xc E QkV (QbJ hX hY Qo Qo Qo) E ?_))));rintro _ q2 ⟨a1,a2,a3,k9,D,F,G,a4,rfl,c1,l0,a5,h5,e0,_,c2,_,i9⟩;have⟨l1,_,_⟩:=a5.lkm;refine sV (v:= .tuple #[.slice a1 a2 a3,.slice D F G]) (E) (sV (v:= .slice a1 a2 a3) (E) (sV (v:= .slice D F G) (E) (sAs E (sAs E (sK h4 (Xr (sMs E (sMs E (sAs E (sAs E (XB (bN ?_))))))))))));refine again (val (a4)) Qo ⟨Ay,ny,cy,dy,D,F,G,a4,E,E,E,E,c.trans c1,?_,?_,?_,?_,?_,?_⟩
    ·omega
    ·omega
    ·exact Xn.sub (hY.ext c1) q5
    ·exact Xn.sub a5 q5
    ·exact c2
    ·exact Qmd hG h5 e0
  ·refine sV (Yu false E E (dF b6)) (sMb E (sEv (v:= .slice Ay ny cy) (E) E E (sEv (v:= .int .i64 ny) (Xw underlying28 E) E E ?_)))
   by_cases c3:((ny:Int))>2
   ·refine sEv (v:= .bool true) (Yu true E E (dT c3)) E E (sV (v:= .bool true) (E) (sK W (cT E (Xk (xM b5 (Xb (Xs fun q6 h6=>rS fun q7 c4=>sMs E (sV (Xw underlying28 E) ?_))))))))
    by_cases c5:((ny:Int))=0
    ·refine sV (XD true E E (dT c5)) (sK c4 (cT E (rS fun q8 h7=>sMs E (sO (Xc E QfL (ZM hX Qo) E ?_)))))
     rintro _ q9 ⟨q,r,s,t,e1,rfl,c6,e2,h8,e3,_⟩;refine sO (Xd (Yb q r s t) E E E Xp E (U.ext ((((j.trans k).trans a).trans c).trans c6)) E fun r0 c7 _ h9=> ?_);refine sK h7 (Xt (xR (bR (xR (bR (xR (XL (Zb q r s t) results146 (YE (Yb q r s t) Xo Xp E h9) ?_)))))));have i0:=e2.frmB c7 q3;exact⟨q,r,s,t,e1,E,Frm.mono ((((C.trans a).trans c).trans c6).rx c7) q4,Xn.sub i0 q5,(by rw[h8,ZD,QiR hG (by rw[show dy=[] from Ua (by omega)];rfl)]),e3,(by omega)⟩
    ·refine sV (XD false E E (dF c5)) (sK c4 (cF E (Xk (xM h6 (Xs fun m6 e4=> ?_)))))
     have hvy:=QjL hcy ly Qo;refine Xr (sMs E (sMs E (sO (Xc E QkV (QbJ hX hY Qo Qo Qo) E ?_))));rintro _ m7 ⟨K,L,M,j0,y,z,A,N,rfl,a6,j1,O,e5,c8,_,b1,_,i3⟩;have⟨j2,_,_⟩:=O.lkm;refine sV (v:= .tuple #[.slice K L M,.slice y z A]) (E) (sV (v:= .slice K L M) (E) (sV (v:= .slice y z A) (E) (sAs E (sAs E (sK e4 (Xr (sMs E (sMs E (sAs E (sAs E (XB (bN ?_))))))))))));refine again (val (N)) Qo ⟨Ay,ny,cy,dy,y,z,A,N,E,E,E,E,c.trans a6,?_,?_,?_,?_,?_,?_⟩
     ·omega
     ·omega
     ·exact Xn.sub (hY.ext a6) q5
     ·exact Xn.sub O q5
     ·exact b1
     ·exact Qmd hG e5 c8
   ·refine sEv (v:= .bool false) (Yu false E E (dF c3)) E E (sV (v:= .bool false) (E) (sK W (cF E (Xe (xE (xE (bE (xM g5 (rS fun m8 e6=>sMs E (sO (Xc E Qoa (Qd9 hX) E ?_)))))))))))
    rintro _ m9 ⟨B,P,rfl,u,j3,e7⟩;have l2:=u.size;refine sV (v:= .tuple #[.int .u64 B,.bool P]) (E) (sV (v:= .int .u64 B) (E) (sV (v:= .bool P) (E) (sAi E (sAb E (sK e6 (rS fun n0 e8=>sMs E ?_))))));refine sO (Xc E Qoa (Qd9 (hY.ext u)) E ?_);rintro _ i1 ⟨d,Q,rfl,I,j4,e9⟩;have l3:=I.size;refine sV (v:= .tuple #[.int .u64 d,.bool Q]) (E) (sV (v:= .int .u64 d) (E) (sV (v:= .bool Q) (E) (sAi E (sAb E (sK e8 (Xs fun n1 f0=>Xb ?_))))));refine Ym (fun m e w_=> ∃(um:Nat)(un:Nat),m=un∧e 4=(.pointer (some ⟨g0,0,none⟩))∧e 9=(.int .u64 um)∧e 11=(.int .u64 un)∧Frm (fun b=>False) i1 w_∧(um<18446744073709551616)∧(un<18446744073709551616)∧(UK um un=UK (val da) (val db))) ((d)) ?_ ?_
    ·refine⟨B,d,E,E,cI,cI,Frm.refl _ _,?_,?_,?_⟩
     ·omega
     ·omega
     ·rw[e7 (by omega),e9 (by omega)];exact hG
    ·rintro n2 n3 n4 ⟨um,un,l4,f1,f2,f3,x,hum,hun,hU⟩
     obtain⟨n5,rfl⟩:=Qqe f1 f2 f3;have l5:=x.size;refine Xs fun n6 f4=>rS fun n7 a7=>sMi E ?_
     by_cases a8:((un:Int))≠0
     ·refine sV (ZI true E E (dT a8)) (sK a7 (cT E (Xk (xM f4 (Xb (XA (fun _=>False) mixed fun n8 f5 _=>dMi 0 E E (dMi 1 E E (dMi 2 E E ?_))))))))
      have hml:=Nat.mod_lt um (show 0<un by omega);refine dV 3 E (fun _ _=>QbK (((um % un:Nat):Int)) E E Qo (Qjd Qo Qo)) (dAi 4 E E (dAi 5 E E (XG (by kernel_rfl) (bN (again ((um % un)) Qo ⟨un,um % un,E,E,cI,cI,x.trans f5,?_,?_,?_⟩)))))
      ·omega
      ·exact Nat.lt_of_le_of_lt (Nat.mod_le _ _) hum
      ·exact Qup hU
     ·refine sV (ZI false E E (dF a8)) (sK a7 (cF E (Xe (xE (xE (bE (xM f0 (rS fun n9 f6=>sMi E (sO (Xc E QjF (Qcp (x1:=um) Qo) E ?_))))))))))
      rintro _ o0 ⟨j5,j6,j7,j8,rfl,J,R,f7,_,j9⟩;have l6:=J.size;have⟨k0,_,_⟩:=R.lkm;refine sO (Xc E QfL (ZM R Qo) E ?_);rintro _ o1 ⟨f,g,h,i,c9,rfl,a9,S,f8,d0,k1⟩;have⟨k2,_,_⟩:=S.lkm;refine sO (Xd (Yb f g h i) E E E Xp E (U.ext ((((((((j.trans k).trans a).trans c).trans u).trans I).trans x).trans J).trans a9)) E fun o2 b0 _ f9=> ?_);refine sK f6 (Xt (XL (Zb f g h i) results146 (YE (Yb f g h i) Xo Xp E f9) ?_));have i2:=S.frmB b0 q3;exact⟨f,g,h,i,c9,E,Frm.mono ((((((((C.trans a).trans c).trans u).trans I).trans x).trans J).trans a9).rx b0) q4,Xn.sub i2 q5,(by rw[f8,ZD,f7,QiR hU (by omega)]),d0,(by omega)⟩
end Go.Proofs.YtnkfdkhjaklolaaGreatDoor
