/-
  Walks of package unipoly: trim, sums, products, comparison.
-/
import Derived.Test.YtnkfdkhjaklolaaGreatDoorInt1
import Derived.Test.YtnkfdkhjaklolaaGreatDoorLibA
open List renaming append_nil→Wg,length_cons→Um,length_nil→Uv,range→UV,replicate_zero→Wh
namespace Go.Proofs.YtnkfdkhjaklolaaGreatDoor
open Go.RowKit Go.Gx Tryz
open Go renaming wp_seq_k→Xs,wp_block→Xb,wp_skip→Xk,wp_region_lit→Xr,wp_exit→Xe,wp_ret→Xt
open List renaming replicate→Xl
variable{Aa Af Ag:Option Addr}{Ma Mf Mg ca cf cg na nf ng:Nat}{Sa Sf Sg:Nat→Prop}{la lf lg:List RI}{w:World}
theorem YY(ha:Xh w Sa Aa na ca la Ma):Calls prog 14 #[.slice Aa na ca] w (Ret fun v w'=> ∃Ar nr cr lr,v=(.slice Ar nr cr)∧Ext w w'∧Xh w' (Sa) Ar nr cr lr (Ma)∧(lr=trimB RI.isZ la)∧(nr≤na)):=by
 have⟨ka,ja,ma⟩:=ha.lkm;refine enter func14 E ntmps14 E (rS fun W F=>sAs E (sK F (rS fun X G=>sMs E (sV (Xw underlying25 E) (sAi E (sK G (Xs fun Y z=>Xb ?_)))))));refine Ym (fun m e w_=> ∃(k:Nat),m=k∧e 0=(.slice Aa na ca)∧e 3=(.int .i64 k)∧Frm (fun b=>False) w w_∧(k≤na)∧(∀j,k≤j→(zs la).getD j 0=0)) ((na)) ?_ ?_
 ·refine⟨na,E,E,cI,Frm.refl _ _,?_,?_⟩
  ·omega
  ·exact Qhv (by simp;omega)
 ·rintro Z N w5 ⟨k,O,I,J,c,hk,hz⟩
  obtain⟨P,rfl⟩:=QxA I J;refine Xs fun Q A=>rS fun R d=>sMi E ?_
  by_cases h:((k:Int))>0
  ·refine sV (Yu true E E (dT h)) (sMb E (sEv (v:= .slice Aa na ca) (E) E E (sEv (v:= .int .i64 k) (E) E E (sEv (v:= .int .i64 (((k:Int)) -1)) (XQ (((k:Int)) -1) E E wI) E E ?_))))
   have l:=ha.ext c;obtain⟨n,g,rfl⟩:=l.base Qo;refine sEv (v:= .pointer (some ⟨n,g+((k -1)*2),none⟩)) (XU (k -1) underlying25 Xp E E (g+((k -1)*2))) E E ?_;obtain⟨o,p,q,r,M,_,u,x,B,_,_,_,s⟩:=l.at_ (i:=k -1) Qo;refine sEv (v:=Zb o p q r) (XO (Yb o p q r) Xo Xp E (Qcj u x)) E E (sOp E (Xc E QdM (Yy B) E ?_));rintro _ S ⟨y,rfl,f,t⟩
   by_cases a:y=0
   ·refine sEv (v:= .bool true) (XD true E E (dT a)) E E ?_
    have hzz:=(Qe7 t s).1 a;refine sV (v:= .bool true) (E) (sK d (cT E (Xk (xM A (Xb (Xr (sMi E (sV (XQ (((k:Int)) -1) E E wI) (sAi E (XB (bN (again ((k -1)) Qo ⟨k -1,E,E,cI,c.trans f,?_,?_⟩))))))))))))
    ·omega
    ·exact QlN hz hzz
   ·refine sEv (v:= .bool false) (XD false E E (dF a)) E E ?_
    have hzz:=fun hh=>a ((Qe7 t s).2 hh);refine sV (v:= .bool false) (E) (sK d (cF E (Xe (xE (xE (bE (xM z (rS fun T C=>sMs E (sMi E ?_)))))))));have K:=(l.ext f).take (m:=k) Qo;refine sV (YJ k underlying25 Xp E E Qo Qo) (sAs E (sK C (Xt (XL (.slice (some ⟨n,g,none⟩) k ca) results14 (XK E) ?_))));exact⟨some ⟨n,g,none⟩,k,ca,(la).take k,E,c.trans f,Xh.le K Qo,QmS Qo hz (by first |omega| exact .inr hzz),Qo⟩
  ·refine sV (Yu false E E (dF h)) (sMb E (XH E E (XH E E (XH E E (XH E E (XH E E (XH E E (XH E E (sV (v:= .bool false) (E) (sK d (cF E (Xe (xE (xE (bE (xM z (rS fun U D=>sMs E (sMi E ?_))))))))))))))))))
   have L:=(ha.ext c).take (m:=k) Qo;refine sV (YJ k underlying25 Xp E E Qo Qo) (sAs E (sK D (Xt (XL (.slice Aa k ca) results14 (XK E) ?_))));exact⟨Aa,k,ca,(la).take k,E,c,Xh.le L Qo,QmS Qo hz (by first |omega| exact .inr hzz),Qo⟩
theorem QeC(hf:Xh w Sf Af nf cf lf Mf)(hg:Xh w Sg Ag ng cg lg Mg)(hnf:nf≤1048576)(hng:ng≤1048576)(hMf:Mf≤1073741824)(hMg:Mg≤1073741824):Calls prog 151 #[.slice Af nf cf,.slice Ag ng cg,Zb false none 0 0,.func (.func 115) #[] #[]] w (Ret fun v w'=> ∃Ar nr cr lr,v=(.slice Ar nr cr)∧Ext w w'∧Xh w' (fun b=>w.heap.size≤b) Ar nr cr lr (Mf+Mg+1)∧(zs lr=Qfx (zs lf) (zs lg))∧(nr=max nf ng)∧(ZB lr)):=by
 have⟨kf,jf,mf⟩:=hf.lkm;replace hf:=hf.low;have⟨kg,jg,mg⟩:=hg.lkm;replace hg:=hg.low;refine enter func151 E ntmps151 E (rS fun K1 m4=>sO (Ys (Yb false none 0 0) E E fun g2 w3 r5 d2 r6 m5=>sAs E (sK m4 (rS fun K8 m6=>sMs E (sV (Xw underlying25 E) (sMs E (sV (Xw underlying25 E) (sV (Qer (((max nf ng:Nat):Int)) E E (QxW)) (sO (Qea (max nf ng) underlying25 QgT cI cI Qo Qo fun O i3 o6 R o7 i7=> ?_))))))))));have i8:Blk i3 O 30 (Ye (Xl (max nf ng) RI.zero)):=i7;refine sAs E (sK m6 (Xs fun r7 i9=>rS fun r8 j0=>sMs E (sV (Xw underlying25 E) (sMi E (sK j0 (Xb ?_))))));refine Ym (fun m e w_=> ∃(k:Nat)(L:List RI),m=max nf ng -k∧e 0=(.slice Af nf cf)∧e 1=(.slice Ag ng cg)∧e 3=(.func (.func 115) #[] #[])∧e 6=(.pointer (some ⟨g2,0,none⟩))∧e 9=(.slice (some ⟨O,0,none⟩) (max nf ng) (max nf ng))∧e 20=(.int .i64 (((max nf ng:Nat):Int)))∧e 21=(.int .i64 k)∧Frm (fun b=>b=O) i3 w_∧Blk w_ O 30 (Ye (L++Xl (max nf ng -k) RI.zero))∧(k≤max nf ng)∧(L.length=k)∧(YC w_ (fun b=>O<b) (Mf+Mg+1) L)∧(zs L=(UV k).map fun i=>co (zs lf) i -co (zs lg) i)∧(ZB L)) (max nf ng -(0)) ?_ ?_
 ·refine⟨0,[],E,E,E,E,E,E,E,cI,Frm.refl _ _,?_,?_,?_,?_,?_,?_⟩
  ·simpa using i8
  ·omega
  ·rfl
  ·exact YC.nil
  ·rfl
  ·exact ZB.nil
 ·rintro r9 s0 i4 ⟨k,L,o8,j1,j2,j3,j4,j5,j6,j7,z,Q,hk,hL,hA,hz,hC⟩
  obtain⟨s1,rfl⟩:=Qu1 j1 j2 j3 j4 j5 j6 j7;have o9:=z.size;refine rS fun s2 d3=> ?_
  by_cases d4:((k:Int))<(((max nf ng:Nat):Int))
  ·refine sV (Xq true E E (dT d4)) (sK d3 (Xs fun s3 j8=>cT E (Xk (xM j8 (Xs fun s4 T=>Xb (rS fun s5 j9=>sMi E (sAi E (sK j9 (Xs fun s6 k0=>XA (fun b=>i4.heap.size≤b) mixed fun s7 G p0=> ?_)))))))))
   have d5:=m5.frm ((R.rx z).xr G) q1;refine dV 0 E (fun _ hf=>Xa (Yb false none 0 0) Xo Xp E (d5.frm hf q1) E) (dV 1 E (fun _ hf=>Xa (Yb false none 0 0) Xo Xp E (d5.frm hf q1) E) (QwQ (fun k=>bif Nat.beq k 2 then(11,30,(Yb false none 0 0)) else(12,30,(Yb false none 0 0))) 2 3 (QhQ E E XE E) (QhQ E E XE E) E fun m7=>Qqq m7 #[true,true,true,true,false,false] (by kernel_rfl) fun s8 s9 t0 P p1 p2 n8 d6 k1 _ _=> ?_));have p3:=d6.lt;refine dOk 4 E E (Xd (Yb false none 0 0) E E E Xp E d6 E fun t1 A p4 b0=> ?_);refine⟨A.mono q4,?_⟩;have k2:=k1.frm A q1;refine dOk 5 E E (Xd (Yb false none 0 0) E E E Xp E k2 E fun t2 a p5 U=> ?_);refine⟨a.mono q4,XG (by kernel_rfl) (xM k0 (Xs fun t3 d7=>rS fun t4 d8=>sMi E (sMs E (sV (Xw underlying25 E) ?_))))⟩
   by_cases d9:((k:Int))<((nf:Int))
   ·refine sV (Xq true E E (dT d9)) (sK d8 (cT E (Xr (sMs E (sMi E ?_)))))
    have e0:=(((((d2.trans R).rx z).xr G).xr P).tr A).tr a;have i5:=hf.frmB e0 q3;obtain⟨t5,m8,rfl⟩:=i5.base Qo;refine sV (XU k underlying25 Xp E E (m8+(k*2))) ?_;obtain⟨W,X,Y,Z,p6,_,f7,f8,b1,n9,_,_,e1⟩:=i5.at_ (i:=k) Qo;have⟨p7,_,_⟩:=b1.lkm;refine sV (XO (Yb W X Y Z) Xo Xp E (Qcj f7 f8)) ?_;have k3:=b0.frm a q1;refine sO (Xd (Yb W X Y Z) E E E Xp E k3 E fun t6 I p8 e2=> ?_);refine sK d7 (Xs fun t7 e3=>rS fun t8 e4=>sMi E (sMs E (sV (Xw underlying25 E) ?_)))
    by_cases e5:((k:Int))<((ng:Int))
    ·refine sV (Xq true E E (dT e5)) (sK e4 (cT E (Xr (sMs E (sMi E ?_)))))
     have i6:=hg.frmB (e0.tr I) q3;obtain⟨t9,m9,rfl⟩:=i6.base Qo;refine sV (XU k underlying25 Xp E E (m9+(k*2))) ?_;obtain⟨b2,b3,b4,b5,p9,_,f9,g0,e6,o0,_,_,k4⟩:=i6.at_ (i:=k) Qo;have⟨q0,_,_⟩:=e6.lkm;refine sV (XO (Yb b2 b3 b4 b5) Xo Xp E (Qcj f9 g0)) ?_;have k5:=U.frm I q1;refine sO (Xd (Yb b2 b3 b4 b5) E E E Xp E k5 E fun u0 a0 o1 g1=> ?_);refine sK e3 (Xr (sMs E (sMi E (sV (v:= .func (.func 115) #[] #[]) (E) ?_))));have g3:=e2.frm a0 q1;refine sV (Xa (Yb W X Y Z) Xo Xp E g3 E) (sV (Xa (Yb b2 b3 b4 b5) Xo Xp E g1 E) ?_);have k6:=b1.frmB (I.tr a0) q3;have k7:=e6.frmB a0 q3;refine sO (Xc E Qbh (Ze k6 k7 Qo Qo) E ?_);rintro _ q2 ⟨c,d,f,g,B,rfl,g4,e7,g5,e8,n0⟩;refine sV (XU k underlying25 Xp E E (k*2)) ?_;have b6:=(((((G.trans P).rx A).tr a).tr I).tr a0).xr g4;have g6:=Q.frm b6 q1;refine sO (YK (Yb c d f g) E E E Xp E g6 (by rw[Yo];simp only[Um,Uv];exact lq) fun k8 b7 _ J=> ?_);replace J:=(YD (l:=L++Xl (max nf ng -k) RI.zero) (i:=k) ⟨c,d,f,g,B⟩ (by exact lq))▸J;replace J:Blk k8 O 30 (Ye ((L++[⟨c,d,f,g,B⟩])++Xl (max nf ng -(k+1)) RI.zero)):=(QaA hL Qo:(L++Xl (max nf ng -k) RI.zero).set k ⟨c,d,f,g,B⟩=(L++[⟨c,d,f,g,B⟩])++Xl (max nf ng -(k+1)) RI.zero)▸J;refine XB (bN (xM T (Xr (sV (XF (((k:Int))+1) E E wI) (sMi E (XB ?_))))));have b8:=b6.tr b7;have k9:=hA.frmB b8 q3;have l0:=e7.frmB b7 q3;refine again (max nf ng -(k+1)) Qo ⟨k+1,L++[⟨c,d,f,g,B⟩],E,E,E,E,E,E,E,cI,Frm.mono (z.tr b8) q4,?_,?_,?_,?_,?_,?_⟩
     ·exact J
     ·omega
     ·simp [hL]
     ·exact YC.snoc k9 (Xn.sub l0 q5) (by(try dsimp only);omega)
     ·exact QeE hz (by show Xx _ _=_;rw[g5];exact Qw0 e1 k4)
     ·exact ZB.snoc hC e8
    ·refine sV (Xq false E E (dF e5)) ?_
     have e9:Xx false []=co (zs lg) k:=by rw[Qb4,Qb9 (by simp;omega)]
     refine sK e4 (cF E (Xk (xM e3 (Xr (sMs E (sMi E (sV (v:= .func (.func 115) #[] #[]) (E) (sV (Xa (Yb W X Y Z) Xo Xp E e2 E) ?_))))))));have g7:=U.frm I q1;refine sV (Xa (Yb false none 0 0) Xo Xp E g7 E) ?_;have l1:=b1.frmB I q3;refine sO (Xc E Qbh (Ze l1 (Xn.nil (S:=fun _=>True)) Qo Qo) E ?_);rintro _ q6 ⟨h,j,n,o,C,rfl,g8,a6,h0,f0,n1⟩;have⟨n2,_,_⟩:=a6.lkm;refine sV (XU k underlying25 Xp E E (k*2)) ?_;have b9:=((((G.trans P).rx A).tr a).tr I).xr g8;have h1:=Q.frm b9 q1;refine sO (YK (Yb h j n o) E E E Xp E h1 (by rw[Yo];simp only[Um,Uv];exact lq) fun l2 c0 _ K=> ?_);replace K:=(YD (l:=L++Xl (max nf ng -k) RI.zero) (i:=k) ⟨h,j,n,o,C⟩ (by exact lq))▸K;replace K:Blk l2 O 30 (Ye ((L++[⟨h,j,n,o,C⟩])++Xl (max nf ng -(k+1)) RI.zero)):=(QaA hL Qo:(L++Xl (max nf ng -k) RI.zero).set k ⟨h,j,n,o,C⟩=(L++[⟨h,j,n,o,C⟩])++Xl (max nf ng -(k+1)) RI.zero)▸K;refine XB (bN (xM T (Xr (sV (XF (((k:Int))+1) E E wI) (sMi E (XB ?_))))));have c1:=b9.tr c0;have l3:=hA.frmB c1 q3;have l4:=a6.frmB c0 q3;refine again (max nf ng -(k+1)) Qo ⟨k+1,L++[⟨h,j,n,o,C⟩],E,E,E,E,E,E,E,cI,Frm.mono (z.tr c1) q4,?_,?_,?_,?_,?_,?_⟩
     ·exact K
     ·omega
     ·simp [hL]
     ·exact YC.snoc l3 (Xn.sub l4 q5) (by(try dsimp only);omega)
     ·exact QeE hz (by show Xx _ _=_;rw[h0];exact Qw0 e1 e9)
     ·exact ZB.snoc hC f0
   ·refine sV (Xq false E E (dF d9)) ?_
    have a7:Xx false []=co (zs lf) k:=by rw[Qb4,Qb9 (by simp;omega)]
    refine sK d8 (cF E (Xk (xM d7 (Xs fun q7 c2=>rS fun q8 c3=>sMi E (sMs E (sV (Xw underlying25 E) ?_))))))
    by_cases c4:((k:Int))<((ng:Int))
    ·refine sV (Xq true E E (dT c4)) (sK c3 (cT E (Xr (sMs E (sMi E ?_)))))
     have f1:=hg.frmB ((((((d2.trans R).rx z).xr G).xr P).tr A).tr a) q3;obtain⟨q9,l5,rfl⟩:=f1.base Qo;refine sV (XU k underlying25 Xp E E (l5+(k*2))) ?_;obtain⟨a1,a2,a3,a4,o2,_,f2,f3,c5,n3,_,_,h2⟩:=f1.at_ (i:=k) Qo;have⟨o3,_,_⟩:=c5.lkm;refine sV (XO (Yb a1 a2 a3 a4) Xo Xp E (Qcj f2 f3)) (sO (Xd (Yb a1 a2 a3 a4) E E E Xp E U E fun r0 a5 o4 h3=> ?_));refine sK c2 (Xr (sMs E (sMi E (sV (v:= .func (.func 115) #[] #[]) (E) ?_))));have h4:=b0.frm (a.trans a5) q1;refine sV (Xa (Yb false none 0 0) Xo Xp E h4 E) (sV (Xa (Yb a1 a2 a3 a4) Xo Xp E h3 E) ?_);have l6:=c5.frmB a5 q3;refine sO (Xc E Qbh (Ze (Xn.nil (S:=fun _=>True)) l6 Qo Qo) E ?_);rintro _ r1 ⟨p,q,r,s,D,rfl,h5,a8,h6,f4,n4⟩;have⟨n5,_,_⟩:=a8.lkm;refine sV (XU k underlying25 Xp E E (k*2)) ?_;have c6:=((((G.trans P).rx A).tr a).tr a5).xr h5;have h7:=Q.frm c6 q1;refine sO (YK (Yb p q r s) E E E Xp E h7 (by rw[Yo];simp only[Um,Uv];exact lq) fun l7 c7 _ M=> ?_);replace M:=(YD (l:=L++Xl (max nf ng -k) RI.zero) (i:=k) ⟨p,q,r,s,D⟩ (by exact lq))▸M;replace M:Blk l7 O 30 (Ye ((L++[⟨p,q,r,s,D⟩])++Xl (max nf ng -(k+1)) RI.zero)):=(QaA hL Qo:(L++Xl (max nf ng -k) RI.zero).set k ⟨p,q,r,s,D⟩=(L++[⟨p,q,r,s,D⟩])++Xl (max nf ng -(k+1)) RI.zero)▸M;refine XB (bN (xM T (Xr (sV (XF (((k:Int))+1) E E wI) (sMi E (XB ?_))))));have c8:=c6.tr c7;have l8:=hA.frmB c8 q3;have l9:=a8.frmB c7 q3;refine again (max nf ng -(k+1)) Qo ⟨k+1,L++[⟨p,q,r,s,D⟩],E,E,E,E,E,E,E,cI,Frm.mono (z.tr c8) q4,?_,?_,?_,?_,?_,?_⟩
     ·exact M
     ·omega
     ·simp [hL]
     ·exact YC.snoc l8 (Xn.sub l9 q5) (by(try dsimp only);omega)
     ·exact QeE hz (by show Xx _ _=_;rw[h6];exact Qw0 a7 h2)
     ·exact ZB.snoc hC f4
    ·refine sV (Xq false E E (dF c4)) ?_
     have f5:Xx false []=co (zs lg) k:=by rw[Qb4,Qb9 (by simp;omega)]
     refine sK c3 (cF E (Xk (xM c2 (Xr (sMs E (sMi E (sV (v:= .func (.func 115) #[] #[]) (E) ?_)))))));have h8:=b0.frm a q1;refine sV (Xa (Yb false none 0 0) Xo Xp E h8 E) (sV (Xa (Yb false none 0 0) Xo Xp E U E) (sO (Xc E Qbh (Ze (Xn.nil (S:=fun _=>True)) (Xn.nil (S:=fun _=>True)) Qo Qo) E ?_)));rintro _ r2 ⟨t,u,x,y,F,rfl,h9,a9,i0,f6,n6⟩;have⟨n7,_,_⟩:=a9.lkm;refine sV (XU k underlying25 Xp E E (k*2)) ?_;have c9:=(((G.trans P).rx A).tr a).xr h9;have i1:=Q.frm c9 q1;refine sO (YK (Yb t u x y) E E E Xp E i1 (by rw[Yo];simp only[Um,Uv];exact lq) fun m0 d0 _ N=> ?_);replace N:=(YD (l:=L++Xl (max nf ng -k) RI.zero) (i:=k) ⟨t,u,x,y,F⟩ (by exact lq))▸N;replace N:Blk m0 O 30 (Ye ((L++[⟨t,u,x,y,F⟩])++Xl (max nf ng -(k+1)) RI.zero)):=(QaA hL Qo:(L++Xl (max nf ng -k) RI.zero).set k ⟨t,u,x,y,F⟩=(L++[⟨t,u,x,y,F⟩])++Xl (max nf ng -(k+1)) RI.zero)▸N;refine XB (bN (xM T (Xr (sV (XF (((k:Int))+1) E E wI) (sMi E (XB ?_))))));have d1:=c9.tr d0;have m1:=hA.frmB d1 q3;have m2:=a9.frmB d0 q3;refine again (max nf ng -(k+1)) Qo ⟨k+1,L++[⟨t,u,x,y,F⟩],E,E,E,E,E,E,E,cI,Frm.mono (z.tr d1) q4,?_,?_,?_,?_,?_,?_⟩
     ·exact N
     ·omega
     ·simp [hL]
     ·exact YC.snoc m1 (Xn.sub m2 q5) (by(try dsimp only);omega)
     ·exact QeE hz (by show Xx _ _=_;rw[i0];exact Qw0 a7 f5)
     ·exact ZB.snoc hC f6
  ·refine sV (Xq false E E (dF d4)) (sK d3 (Xs fun r3 _=>cF E (Xe (xE (xE (bE (xM i9 (rS fun r4 i2=>sMs E (sAs E (sK i2 (Xt (XL (.slice (some ⟨O,0,none⟩) (max nf ng) (max nf ng)) results151 (XK E) ?_))))))))))))
   have m3:Xh i4 (fun b=>O≤b) (some ⟨O,0,none⟩) (max nf ng) (max nf ng) (L++Xl (max nf ng -k) RI.zero) (Mf+Mg+1):=Xh.of_blk Q (YC.app (YC.sub hA q5) (YC.zeros _)) (by(try dsimp only);omega) (by exact lq) (by omega) (by unfold Yc;omega);exact⟨some ⟨O,0,none⟩,max nf ng,max nf ng,L++Xl (max nf ng -k) RI.zero,E,Frm.mono ((d2.trans R).rx z) q4,Xh.le (Xh.sub m3 q5) (by omega),(by rw[show max nf ng -k=0 by omega,Wh,Wg,hz];unfold Qfx;congr 2;simp;omega),E,ZB.app hC (ZB.zeros _)⟩
end Go.Proofs.YtnkfdkhjaklolaaGreatDoor

namespace Go.Proofs.YtnkfdkhjaklolaaGreatDoor
open Go.RowKit Go.Gx Tryz
open Go renaming wp_seq_k→Xs,wp_block→Xb,wp_skip→Xk,wp_region_lit→Xr,wp_exit→Xe,wp_ret→Xt
open List renaming replicate→Xl
variable{Af Ag:Option Addr}{Mf Mg cf cg nf ng:Nat}{Sf Sg:Nat→Prop}{lf lg:List RI}{w:World}
set_option maxHeartbeats 1000000 in
theorem Qgg(hf:Xh w Sf Af nf cf lf Mf)(hg:Xh w Sg Ag ng cg lg Mg)(hnf:nf≤1048576)(hng:ng≤1048576)(hMf:Mf≤1073741824)(hMg:Mg≤1073741824):Calls prog 271 #[.slice Af nf cf,.slice Ag ng cg,Zb false none 0 0,.func (.func 125) #[] #[],.func (.func 61) #[] #[]] w (Ret fun v w'=> ∃Ar nr cr lr,v=(.slice Ar nr cr)∧Ext w w'∧Xh w' (fun b=>w.heap.size≤b) Ar nr cr lr (Mf+Mg+nf+1)∧(zs lr=ZR (zs lf) (zs lg))∧(nr≤nf+ng)∧(ZB lr)):=by
 have⟨kf,jf,mf⟩:=hf.lkm;replace hf:=hf.low;have⟨kg,jg,mg⟩:=hg.lkm;replace hg:=hg.low;refine enter func271 E ntmps271 E (rS fun K1 i7=>sO (Ys (Yb false none 0 0) E E fun g2 w3 n8 M n9 i9=>sAs E (sK i7 (Xs fun K8 j0=>rS fun K9 Y=>sMs E (sV (Xw underlying25 E) ?_)))))
 by_cases Z:((nf:Int))=0
 ·refine sV (XD true E E (dT Z)) (sMb E (XH E E (XH E E (XH E E (sV (v:= .bool true) (E) (sK Y (cT E (rS fun o0 e2=>sAs E (sK e2 (Xt (xR (XL (.slice none 0 0) results271 (XK E) ?_))))))))))))
  exact⟨none,0,0,[],E,M,Xh.nil,(by unfold ZR;rw[if_pos (by simp only[Za];omega)];rfl),(by omega),ZB.nil⟩
 ·refine sV (XD false E E (dF Z)) (sMb E (sEv (v:= .slice Ag ng cg) (E) E E (sEv (v:= .int .i64 ng) (Xw underlying25 E) E E ?_)))
  by_cases a0:((ng:Int))=0
  ·refine sEv (v:= .bool true) (XD true E E (dT a0)) E E (sV (v:= .bool true) (E) (sK Y (cT E (rS fun o1 e3=>sAs E (sK e3 (Xt (xR (XL (.slice none 0 0) results271 (XK E) ?_))))))))
   exact⟨none,0,0,[],E,M,Xh.nil,(by unfold ZR;rw[if_pos (by simp only[Za];omega)];rfl),(by omega),ZB.nil⟩
  ·refine sEv (v:= .bool false) (XD false E E (dF a0)) E E (sV (v:= .bool false) (E) (sK Y (cF E (Xk (xM j0 (rS fun o2 e4=>sMs E (sV (Xw underlying25 E) (sMs E (sV (Xw underlying25 E) (sV (XF (((nf:Int))+((ng:Int))) E E wI) (sV (XQ ((((nf:Int))+((ng:Int))) -1) E E wI) (sO (Qea (nf+ng -1) underlying25 QgT cI cI Qo Qo fun a e1 l8 J l9 e5=> ?_)))))))))))))
   have e6:Blk e1 a 30 (Ye (Xl (nf+ng -1) RI.zero)):=e5;refine sAs E (sK e4 (Xs fun o3 e7=>rS fun o4 e8=>sMs E (sV (Xw underlying25 E) (sMi E (sK e8 (Xb ?_))))));refine Ym (fun m e w_=> ∃(k:Nat)(L:List RI),m=(nf+ng -1) -k∧e 0=(.slice Af nf cf)∧e 1=(.slice Ag ng cg)∧e 3=(.func (.func 125) #[] #[])∧e 4=(.func (.func 61) #[] #[])∧e 7=(.pointer (some ⟨g2,0,none⟩))∧e 11=(.slice (some ⟨a,0,none⟩) (nf+ng -1) (nf+ng -1))∧e 31=(.int .i64 (((nf+ng -1:Nat):Int)))∧e 32=(.int .i64 k)∧Frm (fun b=>b=a) e1 w_∧Blk w_ a 30 (Ye (L++Xl ((nf+ng -1) -k) RI.zero))∧(k≤(nf+ng -1))∧(L.length=k)∧(YC w_ (fun b=>a<b) (Mf+Mg+nf+1) L)∧(zs L=(UV k).map fun k=>conv (zs lf) (zs lg) k)∧(ZB L)) ((nf+ng -1) -(0)) ?_ ?_
   ·refine⟨0,[],E,E,E,E,E,E,E,E,cI,Frm.refl _ _,?_,?_,?_,?_,?_,?_⟩
    ·simpa using e6
    ·omega
    ·rfl
    ·exact YC.nil
    ·rfl
    ·exact ZB.nil
   ·rintro o5 o6 j1 ⟨k,L,m0,e9,f0,f1,f2,f3,f4,f5,f6,g,a1,hk,hL,hA,hz,hC⟩
    obtain⟨o7,rfl⟩:=QsU e9 f0 f1 f2 f3 f4 f5 f6;have m1:=g.size;refine rS fun o8 a2=> ?_
    by_cases a3:((k:Int))<(((nf+ng -1:Nat):Int))
    ·refine sV (Xq true E E (dT a3)) (sK a2 (Xs fun o9 f7=>cT E (Xk (xM f7 (Xs fun p0 f8=>Xb (rS fun p1 f9=>sMi E (sAi E (sK f9 (rS fun p2 g0=> ?_)))))))))
     have g1:=i9.frm (J.rx g) q1;refine sV (Xa (Yb false none 0 0) Xo Xp E g1 E) (sO (Xj (Yb false none 0 0) XE E fun N p3 m2 a4 m3 g3=>sO (Xd (Yb false none 0 0) E E E Xp E g3 E fun j2 a5 m4 g4=> ?_)));refine sK g0 (Xs fun p4 g5=>rS fun p5 g6=>sMi E (sMs E (sV (Xw underlying25 E) (sV (XQ (((k:Int)) -((ng:Int))) E E wI) (sV (XF ((((k:Int)) -((ng:Int)))+1) E E wI) (sV (Qer (((k+1 -ng:Nat):Int)) E E (by split<;>omega)) (sAi E (sK g6 (Xb ?_)))))))));refine Ym (fun m e w_=> ∃(i:Nat)(gs:Bool)(As:Option Addr)(ns:Nat)(cs:Nat)(ds:List Nat),m=k+1 -i∧e 0=(.slice Af nf cf)∧e 1=(.slice Ag ng cg)∧e 3=(.func (.func 125) #[] #[])∧e 4=(.func (.func 61) #[] #[])∧e 7=(.pointer (some ⟨g2,0,none⟩))∧e 11=(.slice (some ⟨a,0,none⟩) (nf+ng -1) (nf+ng -1))∧e 12=(.int .i64 k)∧e 13=(.pointer (some ⟨N,0,none⟩))∧e 14=(.int .i64 i)∧e 31=(.int .i64 (((nf+ng -1:Nat):Int)))∧e 32=(.int .i64 k)∧Frm (fun b=>b=N) j2 w_∧Blk w_ N 30 ([.bool gs,.slice As ns cs])∧(i≤k+1)∧(ns≤Mf+Mg+i)∧(Xn w_ (fun b=>a<b) As ns cs ds)∧(Xx gs ds=QaG (fun t=>co (zs lf) t*co (zs lg) (k -t)) i)∧(Qay gs ds)∧(i≤nf∨i=k+1 -ng)∧(k+1 -ng≤i)) (k+1 -(k+1 -ng)) ?_ ?_
     ·refine⟨k+1 -ng,false,none,0,0,[],E,E,E,E,E,E,E,E,E,cI,E,E,Frm.refl _ _,?_,?_,?_,?_,?_,?_,?_,?_⟩
      ·exact g4
      ·omega
      ·omega
      ·exact Xn.nil
      ·rw[Qb4];exact Qt5 (by simp only[Za];omega)
      ·exact Qay.zero
      ·omega
      ·omega
     ·rintro p6 p7 p8 ⟨i,gs,As,ns,cs,ds,m5,g7,g8,g9,h0,h1,h2,h3,h4,h5,h6,h7,h,K,hi,hnn,hN,hs,hcs,hin,hlo⟩
      obtain⟨p9,rfl⟩:=Qqd g7 g8 g9 h0 h1 h2 h3 h4 h5 h6 h7;have m6:=h.size;have⟨lsN,lsC,lsM⟩:=hN.lkm;refine Xs fun q0 h8=>rS fun q2 a6=>sMi E (sMi E (sMs E (sV (Xw underlying25 E) (sV (XQ (((nf:Int)) -1) E E wI) (sV (Quk (((min k (nf -1):Nat):Int)) E E (by split<;>omega)) ?_)))))
      by_cases a7:((i:Int))≤(((min k (nf -1):Nat):Int))
      ·refine sV (QaM true E E (dT a7)) (sK a6 (cT E (Xk (xM h8 (Xs fun q6 a8=>Xb (XA (fun b=>b=N) mixed fun m7 d l1=>dV 0 E (v:= .func (.func 125) #[] #[]) (fun _ _=>rfl) (dV 2 E (v:= .func (.func 61) #[] #[]) (fun _ _=>rfl) (dMs 3 E E (dMi 4 E E ?_)))))))))
       have O:=(((((M.trans J).rx g).xr a4).tr a5).tr h).xr d;have a9:=hf.frmB O q3;obtain⟨m8,h9,rfl⟩:=a9.base Qo;refine dV 5 E (fun _ _=>XU i underlying25 Xp E E (h9+(i*2))) ?_;obtain⟨c5,c6,c7,c8,l2,_,b0,b1,j,j3,b2,b3,P⟩:=a9.at_ (i:=i) Qo;have⟨l3,_,_⟩:=j.lkm;refine dV 6 E (fun _ hf=>XO (Yb c5 c6 c7 c8) Xo Xp E (QdZ b0 b1 hf b3 (by(try dsimp only at b2⊢);omega))) (dMs 7 E E (dMi 8 E E (dMi 9 E E (dV 10 E (fun _ _=>XQ (((k:Int)) -((i:Int))) E E wI) ?_))));have b4:=hg.frmB O q3;obtain⟨m9,i0,rfl⟩:=b4.base Qo;refine dV 11 E (fun _ _=>XU (k -i) underlying25 Xp E E (i0+((k -i)*2))) ?_;obtain⟨c9,d0,d1,d2,l4,_,b5,b6,n,j4,b7,b8,Q⟩:=b4.at_ (i:=k -i) Qo;have⟨l5,_,_⟩:=n.lkm;refine dV 12 E (fun _ hf=>XO (Yb c9 d0 d1 d2) Xo Xp E (QdZ b5 b6 hf b8 (by(try dsimp only at b7⊢);omega))) (QdN 1 13 (by kernel_rfl) ?_ ?_)
       ·have R:=K.ext d
        refine dWp (i:=1) E E (oEv (v:=Zb gs As ns cs) (Xa (Yb gs As ns cs) Xo Xp E R E) E ⟨Frm.refl _ _,dOk 13 E E (Xc E Zg (XM j n Qo) E ?_)⟩);rintro _ n0 ⟨j5,j6,j7,j8,j9,rfl,f,x,d3,_,k0⟩;refine⟨Frm.of_ext f,?_⟩;have l6:=f.size;have⟨k1,_,_⟩:=x.lkm;have S:=d.trans f;refine dOk 14 E E (Xc E Qa1 (YT (hN.ext S) x Qo Qo) E ?_);rintro _ n1 ⟨y,z,A,B,b9,rfl,o,c0,d4,c1,k2⟩;refine⟨Frm.of_ext o,?_⟩;refine dOk 15 E E (Xd (Yb y z A B) E E E Xp E (R.ext (f.trans o)) E fun n2 p _ d5=> ?_);refine⟨p,XG (by kernel_rfl) (bN (xM a8 (Xr (sMi E (sV (XF (((i:Int))+1) E E wI) (sAi E (XB ?_)))))))⟩;have i1:=c0.frmB p q3;refine again (k+1 -(i+1)) Qo ⟨i+1,y,z,A,B,b9,E,E,E,E,E,E,E,E,E,cI,E,E,h.trans ((S.trans o).rx p),?_,?_,?_,?_,?_,?_,?_,?_⟩
        ·exact d5
        ·omega
        ·omega
        ·exact Xn.sub i1 q5
        ·rw[Qbe,d4,hs,d3];exact QxJ E (QxK P Q)
        ·exact c1
        ·omega
        ·omega
       ·refine dWp (i:=13) E E (Xc E Zg (XM j n Qo) E ?_)
        rintro _ n3 ⟨k3,k4,k5,k6,k7,rfl,q,C,d6,_,k8⟩;refine⟨Frm.of_ext q,?_⟩;have l7:=q.size;have⟨k9,_,_⟩:=C.lkm;have r:=d.trans q;have T:=K.ext r;refine dOk 1 E E (oEv (v:=Zb gs As ns cs) (Xa (Yb gs As ns cs) Xo Xp E T E) E ⟨Frm.refl _ _,?_⟩);refine dOk 14 E E (Xc E Qa1 (YT (hN.ext r) C Qo Qo) E ?_);rintro _ n4 ⟨D,F,G,I,c2,rfl,s,c3,d7,c4,l0⟩;refine⟨Frm.of_ext s,?_⟩;refine dOk 15 E E (Xd (Yb D F G I) E E E Xp E (T.ext s) E fun n5 u _ d8=> ?_);refine⟨u,XG (by kernel_rfl) (bN (xM a8 (Xr (sMi E (sV (XF (((i:Int))+1) E E wI) (sAi E (XB ?_)))))))⟩;have i2:=c3.frmB u q3;refine again (k+1 -(i+1)) Qo ⟨i+1,D,F,G,I,c2,E,E,E,E,E,E,E,E,E,cI,E,E,h.trans ((r.trans s).rx u),?_,?_,?_,?_,?_,?_,?_,?_⟩
        ·exact d8
        ·omega
        ·omega
        ·exact Xn.sub i2 q5
        ·rw[Qbe,d7,hs,d6];exact QxJ E (QxK P Q)
        ·exact c4
        ·omega
        ·omega
      ·refine sV (QaM false E E (dF a7)) (sK a6 (cF E (Xe (xE (xE (bE (xM g5 (Xr (sMs E (sMi E (sV (Xa (Yb gs As ns cs) Xo Xp E K E) (sV (XU k underlying25 Xp E E (k*2)) ?_))))))))))))
       have U:=(a4.rx a5).trans h;have d9:=a1.frm U q1;refine sO (YK (Yb gs As ns cs) E E E Xp E d9 (by rw[Yo];simp only[Um,Uv];exact lq) fun i3 W _ c=> ?_);replace c:=(YD (l:=L++Xl ((nf+ng -1) -k) RI.zero) (i:=k) ⟨gs,As,ns,cs,ds⟩ (by exact lq))▸c;replace c:Blk i3 a 30 (Ye ((L++[⟨gs,As,ns,cs,ds⟩])++Xl ((nf+ng -1) -(k+1)) RI.zero)):=(QaA hL Qo:(L++Xl ((nf+ng -1) -k) RI.zero).set k ⟨gs,As,ns,cs,ds⟩=(L++[⟨gs,As,ns,cs,ds⟩])++Xl ((nf+ng -1) -(k+1)) RI.zero)▸c;refine XB (bN (xM f8 (Xr (sV (XF (((k:Int))+1) E E wI) (sMi E (XB ?_))))));have X:=U.tr W;have i4:=hA.frmB X q3;have i5:=hN.frmB W q3;refine again ((nf+ng -1) -(k+1)) Qo ⟨k+1,L++[⟨gs,As,ns,cs,ds⟩],E,E,E,E,E,E,E,E,cI,Frm.mono (g.tr X) q4,?_,?_,?_,?_,?_,?_⟩
       ·exact c
       ·omega
       ·simp [hL]
       ·exact YC.snoc i4 (Xn.sub i5 q5) (by(try dsimp only);omega)
       ·exact QeE hz (by show Xx _ _=_;exact QqM hs (by omega) (by simp only[Za];omega))
       ·exact ZB.snoc hC hcs
    ·refine sV (Xq false E E (dF a3)) (sK a2 (Xs fun n6 _=>cF E (Xe (xE (xE (bE (xM e7 (rS fun n7 e0=>sMs E (sAs E (sK e0 (Xt (XL (.slice (some ⟨a,0,none⟩) (nf+ng -1) (nf+ng -1)) results271 (XK E) ?_))))))))))))
     have i6:Xh j1 (fun b=>a≤b) (some ⟨a,0,none⟩) (nf+ng -1) (nf+ng -1) (L++Xl ((nf+ng -1) -k) RI.zero) (Mf+Mg+nf+1):=Xh.of_blk a1 (YC.app (YC.sub hA q5) (YC.zeros _)) (by(try dsimp only);omega) (by exact lq) (by omega) (by unfold Yc;omega);exact⟨some ⟨a,0,none⟩,nf+ng -1,nf+ng -1,L++Xl ((nf+ng -1) -k) RI.zero,E,Frm.mono ((M.trans J).rx g) q4,Xh.le (Xh.sub i6 q5) (by omega),(by rw[show(nf+ng -1) -k=0 by omega,Wh,Wg,hz];exact QrE (by simp only[Za];omega) (by simp only[Za];omega) (by simp only[Za];omega)),(by omega),ZB.app hC (ZB.zeros _)⟩
theorem QeA(hf:Xh w Sf Af nf cf lf Mf)(hg:Xh w Sg Ag ng cg lg Mg)(hnf:nf≤1048576)(hng:ng≤1048576)(hMf:Mf≤1073741824)(hMg:Mg≤1073741824):Calls prog 215 #[.slice Af nf cf,.slice Ag ng cg] w (Ret fun v w'=> ∃Ar nr cr lr,v=(.slice Ar nr cr)∧Ext w w'∧Xh w' (fun b=>w.heap.size≤b) Ar nr cr lr (Mf+Mg+nf+1)∧(zs lr=Xi (ZR (zs lf) (zs lg)))∧(nr≤nf+ng)∧(ZB lr)):=by
 have⟨kf,jf,mf⟩:=hf.lkm;replace hf:=hf.low;have⟨kg,jg,mg⟩:=hg.lkm;replace hg:=hg.low;refine enter func215 E ntmps215 E (rS fun N n=>sAs E (sK n (rS fun O o=>sMs E (sO (Xc E Qc9 (YY hf) E ?_)))));rintro _ P ⟨t,u,x,y,rfl,g,h,p,z⟩;have K:=g.size;have⟨A,_,_⟩:=h.lkm;refine sMs E ?_;refine sO (Xc E Qc9 (YY (hg.ext g)) E ?_);rintro _ L ⟨B,C,D,F,rfl,a,i,q,G⟩;have I:=a.size;have⟨J,_,_⟩:=i.lkm;refine sV (v:=Zb false none 0 0) (evK (by kernel_rfl)) ?_;refine sO (Xc E QtQ (Qgg (h.ext a) i Qo Qo Qo Qo) E ?_);rintro _ M ⟨c,d,e,j,rfl,l,f,m,r,k⟩;have⟨s,_,_⟩:=f.lkm;refine sAs E (sK o (Xt (XL (.slice c d e) results215 (XK E) ?_)));exact⟨c,d,e,j,E,(g.trans a).trans l,Xh.le (Xh.sub f q5) (by omega),(by rw[m,p,q,QaH,QaH,Qrt]),(by omega),k⟩
theorem Qht(hf:Xh w Sf Af nf cf lf Mf)(hg:Xh w Sg Ag ng cg lg Mg)(hnf:nf≤1048576)(hng:ng≤1048576)(hMf:Mf≤1073741824)(hMg:Mg≤1073741824):Calls prog 106 #[.slice Af nf cf,.slice Ag ng cg] w (Ret fun v w'=> ∃Ar nr cr lr,v=(.slice Ar nr cr)∧Ext w w'∧Xh w' (fun b=>w.heap.size≤b) Ar nr cr lr (Mf+Mg+1)∧(zs lr=Xi (Qfx (zs lf) (zs lg)))∧(nr≤max nf ng)∧(ZB lr)):=by
 replace hf:=hf.low;replace hg:=hg.low;refine enter func106 E ntmps106 E (rS fun y k=>sAs E (sK k (rS fun z l=>sMs E (sMs E (sV (v:=Zb false none 0 0) (evK (by kernel_rfl)) (sO (Xc E Qti (QeC hf hg Qo Qo Qo Qo) E ?_)))))));rintro _ A ⟨o,p,q,r,rfl,m,a,n,s,h⟩;have⟨t,_,_⟩:=a.lkm;refine sO (Xc E Qc9 (YY a) E ?_);rintro _ B ⟨c,d,e,i,rfl,j,f,g,u⟩;have⟨x,_,_⟩:=f.lkm;refine sAs E (sK l (Xt (XL (.slice c d e) results106 (XK E) ?_)));exact⟨c,d,e,i,E,m.trans j,Xh.le (Xh.sub f q5) (by omega),(by rw[g,QaH,n]),(by omega),(by rw[g];exact h.trim)⟩
end Go.Proofs.YtnkfdkhjaklolaaGreatDoor

namespace Go.Proofs.YtnkfdkhjaklolaaGreatDoor
open Go.RowKit Go.Gx Tryz
open Go renaming wp_seq_k→Xs,wp_block→Xb,wp_skip→Xk,wp_region_lit→Xr,wp_exit→Xe,wp_ret→Xt
open List renaming replicate→Xl
variable{Aa:Option Addr}{Sa:Nat→Prop}{ca na:Nat}{w:World}{xa:List Int}
theorem Qcx(ha:QaW w Sa Aa na ca xa)(hna:na≤1048576):Calls prog 5 #[.slice Aa na ca] w (Ret fun v w'=> ∃Ar nr cr lr,v=(.slice Ar nr cr)∧Ext w w'∧Xh w' (fun b=>w.heap.size≤b) Ar nr cr lr (2)∧(zs lr=Xi xa)∧(nr≤na)∧(ZB lr)):=by
 have⟨la,ka,ma⟩:=ha.lkm;replace ha:=ha.low;refine enter func5 E ntmps5 E (rS fun K1 W=>sAs E (sK W (rS fun K2 X=>sMs E (sV (Xw underlying45 E) (sO (Qea na underlying25 QgT cI cI Qo Qo fun n Y b2 G b3 Z=> ?_))))));have a0:Blk Y n 30 (Ye (Xl na RI.zero)):=Z;refine sAs E (sK X (Xs fun b4 I=>rS fun b5 J=>sMs E (sV (Xw underlying45 E) (sMi E (sK J (Xb ?_))))));refine Ym (fun m e w_=> ∃(k:Nat)(L:List RI),m=na -k∧e 3=(.slice (some ⟨n,0,none⟩) na na)∧e 9=(.slice Aa na ca)∧e 10=(.int .i64 na)∧e 11=(.int .i64 k)∧Frm (fun b=>b=n) Y w_∧Blk w_ n 30 (Ye (L++Xl (na -k) RI.zero))∧(k≤na)∧(L.length=k)∧(YC w_ (fun b=>n<b) 2 L)∧(zs L=(UV k).map fun i=>xa.getD i 0)∧(ZB L)) (na -(0)) ?_ ?_
 ·refine⟨0,[],E,E,E,E,cI,Frm.refl _ _,?_,?_,?_,?_,?_,?_⟩
  ·simpa using a0
  ·omega
  ·rfl
  ·exact YC.nil
  ·rfl
  ·exact ZB.nil
 ·rintro b6 b7 a1 ⟨k,L,a9,K,M,N,O,j,r,hk,hL,hA,hz,hC⟩
  obtain⟨b8,rfl⟩:=QsT K M N O;have b0:=j.size;refine rS fun b9 s=> ?_
  by_cases t:((k:Int))<((na:Int))
  ·refine sV (Xq true E E (dT t)) (sK s (Xs fun c0 P=>cT E (Xk (xM P (Xs fun c1 Q=>Xb (rS fun c2 R=>sMi E ?_))))))
   have u:=ha.frmB (G.rx j) q3;obtain⟨c3,a2,rfl⟩:=u.base Qo;refine sV (XU k underlying45 sz2 E E (a2+k)) ?_;have b1:=u.rng k;refine sV (XR Qx0 E (u.cell Qo)) (sAi E (sAi E (sK R (Xr (sMs E (sMi E (sMi E (sO (Xc E Qaz (Yv Qo) E ?_)))))))));rintro _ c4 ⟨a,c,d,f,g,rfl,x,B,S,C,a7⟩;refine sV (XU k underlying25 Xp E E (k*2)) ?_;refine sO (YK (Yb a c d f) E E E Xp E (r.ext x) (by rw[Yo];simp only[Um,Uv];exact lq) fun a3 y _ h=> ?_);replace h:=(YD (l:=L++Xl (na -k) RI.zero) (i:=k) ⟨a,c,d,f,g⟩ (by exact lq))▸h;replace h:Blk a3 n 30 (Ye ((L++[⟨a,c,d,f,g⟩])++Xl (na -(k+1)) RI.zero)):=(QaA hL Qo:(L++Xl (na -k) RI.zero).set k ⟨a,c,d,f,g⟩=(L++[⟨a,c,d,f,g⟩])++Xl (na -(k+1)) RI.zero)▸h;refine XB (bN (xM Q (Xr (sV (XF (((k:Int))+1) E E wI) (sMi E (XB ?_))))));have z:=x.rx y;have a4:=hA.frmB z q3;have a5:=B.frmB y q3;refine again (na -(k+1)) Qo ⟨k+1,L++[⟨a,c,d,f,g⟩],E,E,E,E,cI,j.trans z,?_,?_,?_,?_,?_,?_⟩
   ·exact h
   ·omega
   ·simp [hL]
   ·exact YC.snoc a4 (Xn.sub a5 q5) (by(try dsimp only);omega)
   ·exact QeE hz S
   ·exact ZB.snoc hC C
  ·refine sV (Xq false E E (dF t)) (sK s (Xs fun c5 _=>cF E (Xe (xE (xE (bE (xM I (rS fun c6 T=>sMs E ?_))))))))
   have a6:Xh a1 (fun b=>n≤b) (some ⟨n,0,none⟩) na na (L++Xl (na -k) RI.zero) (2):=Xh.of_blk r (YC.app (YC.sub hA q5) (YC.zeros _)) (by(try dsimp only);omega) (by exact lq) (by omega) (by unfold Yc;omega);refine sO (Xc E Qc9 (YY a6) E ?_);rintro _ c7 ⟨o,p,q,D,rfl,U,F,A,a8⟩;refine sAs E (sK T (Xt (XL (.slice o p q) results5 (XK E) ?_)));exact⟨o,p,q,D,E,Frm.mono ((G.rx j).xr U) q4,Xh.le (Xh.sub F q5) (by omega),(by rw[A,QaH,show na -k=0 by omega,Wh,Wg,hz,show k=xa.length by omega,QhB]),(by omega),(by rw[A];exact(ZB.app hC (ZB.zeros _)).trim)⟩
end Go.Proofs.YtnkfdkhjaklolaaGreatDoor
