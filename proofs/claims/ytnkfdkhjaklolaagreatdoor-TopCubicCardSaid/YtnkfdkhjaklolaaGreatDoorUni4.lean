/-
  Walks of package unipoly: multiples, derivatives, powers.
-/
import Derived.Test.YtnkfdkhjaklolaaGreatDoorUni1
import Derived.Test.YtnkfdkhjaklolaaGreatDoorLibA
open List renaming length_cons→Um,length_nil→Uv
namespace Go.Proofs.YtnkfdkhjaklolaaGreatDoor
open Go.RowKit Go.Gx Tryz
open Go renaming wp_ret→Xt,wp_seq_k→Xs,wp_block→Xb,wp_skip→Xk,wp_region_lit→Xr,wp_exit→Xe
open List renaming replicate→Xl
variable{Aa Ac Af:Option Addr}{Mf ca cc cf na nc nf pc:Nat}{Sa Sc Sf:Nat→Prop}{da dc:List Nat}{ga gc:Bool}{lf:List RI}{w:World}{xn:Int}
theorem QhN(ha:Xn w Sa Aa na ca da)(Bc:Blk w pc 30 [.bool gc,.slice Ac nc cc])(hc:Xn w Sc Ac nc cc dc)(hna:na+nc≤1099511627776):Calls prog 150 #[Zb ga Aa na ca,.pointer (some ⟨pc,0,none⟩)] w (Ret fun v w'=> ∃gr Ar nr cr dr,v=(Zb gr Ar nr cr)∧Ext w w'∧Xn w' (fun b=>w.heap.size≤b) Ar nr cr dr∧(Xx gr dr=Xx gc dc*Xx ga da)∧(Qay gr dr)∧(nr≤na+nc)):=by
 have⟨la,ka,ma⟩:=ha.lkm;replace ha:=ha.low;have⟨lc,kc,mc⟩:=hc.lkm;replace hc:=hc.low;refine enter func150 E ntmps150 E (rS fun G q=>sO (Ys (Yb ga Aa na ca) E E fun I J A r B s=>sO (Xj (Yb false none 0 0) XE E fun K L y h z m=>sK q (rS fun C n=> ?_))));have f:=r.trans h;refine sV (Xa (Yb gc Ac nc cc) Xo Xp E (Bc.ext f) E) ?_;refine sV (Xa (Yb ga Aa na ca) Xo Xp E (s.ext h) E) ?_;refine sO (Xc E Zg (XM (hc.ext f) (ha.ext f) Qo) E ?_);rintro _ D ⟨a,c,d,e,k,rfl,i,g,o,l,u⟩;have⟨x,_,_⟩:=g.lkm;refine sO (Xd (Yb a c d e) E E E Xp E (m.ext i) E fun F j _ p=> ?_);refine sK n (Xt (XL (Zb a c d e) results150 (YE (Yb a c d e) Xo Xp E p) ?_));have t:=g.frmB j q3;exact⟨a,c,d,e,k,E,Frm.mono ((f.trans i).rx j) q4,Xn.sub t q5,o,l,Qo⟩
theorem Qcy(hf:Xh w Sf Af nf cf lf Mf)(hnf:nf≤1048576)(hMf:Mf≤1073741824):Calls prog 127 #[.slice Af nf cf,.func (.func 41) #[] #[]] w (Ret fun v w'=> ∃(qr nr:Nat)(lr:_),v=(.slice (some ⟨qr,0,none⟩) nr nr)∧Ext w w'∧(fun b=>w.heap.size≤b) qr∧Blk w' qr 30 (Ye lr)∧YC w' (fun b=>qr<b) (Mf) lr∧lr.length=nr∧nr≤9223372036854775807∧(zs lr=(zs lf).map fun x=>x)∧(nr=nf)∧(ZB lr)):=by
 have⟨kf,jf,mf⟩:=hf.lkm;replace hf:=hf.low;refine enter func127 E ntmps127 E (rS fun K1 a6=>sAs E (sK a6 (rS fun K2 a7=>sMs E (sV (Xw underlying25 E) (sO (Qea nf underlying25 QgT cI cI Qo Qo fun n w4 c6 J c7 a9=> ?_))))));have b0:Blk w4 n 30 (Ye (Xl nf RI.zero)):=a9;refine sAs E (sK a7 (Xs fun c8 M=>rS fun c9 N=>sMs E (sV (Xw underlying25 E) (sMi E (sK N (Xb ?_))))));refine Ym (fun m e w_=> ∃(k:Nat)(L:List RI),m=nf -k∧e 1=(.func (.func 41) #[] #[])∧e 5=(.slice (some ⟨n,0,none⟩) nf nf)∧e 11=(.slice Af nf cf)∧e 12=(.int .i64 nf)∧e 13=(.int .i64 k)∧Frm (fun b=>b=n) w4 w_∧Blk w_ n 30 (Ye (L++Xl (nf -k) RI.zero))∧(k≤nf)∧(L.length=k)∧(YC w_ (fun b=>n<b) (Mf) L)∧(zs L=((zs lf).take k).map fun x=>x)∧(ZB L)) (nf -(0)) ?_ ?_
 ·refine⟨0,[],E,E,E,E,E,cI,Frm.refl _ _,?_,?_,?_,?_,?_,?_⟩
  ·simpa using b0
  ·omega
  ·rfl
  ·exact YC.nil
  ·simp
  ·exact ZB.nil
 ·rintro d0 d1 d2 ⟨k,L,b9,O,P,Q,R,S,j,t,hk,hL,hA,hz,hC⟩
  obtain⟨d3,rfl⟩:=Qjz O P Q R S;have c0:=j.size;refine rS fun d4 u=> ?_
  by_cases y:((k:Int))<((nf:Int))
  ·refine sV (Xq true E E (dT y)) (sK u (Xs fun d5 T=>cT E (Xk (xM T (Xs fun d6 U=>Xb (rS fun d7 W=>sMi E ?_))))))
   have K:=hf.frmB (J.rx j) q3;obtain⟨d8,b1,rfl⟩:=K.base Qo;refine sV (XU k underlying25 Xp E E (b1+(k*2))) ?_;obtain⟨o,p,q,r,c1,_,F,G,z,b6,_,_,X⟩:=K.at_ (i:=k) Qo;have⟨c2,_,_⟩:=z.lkm;refine sV (XO (Yb o p q r) Xo Xp E (Qcj F G)) (sO (Xj (Yb false none 0 0) XE E fun d9 e0 c3 Y c4 Z=>sAi E (sO (Xd (Yb o p q r) E E E Xp E Z E fun e1 a0 c5 a1=> ?_))));refine sK W (Xr (sMs E (sMi E (sV (v:= .func (.func 41) #[] #[]) (E) (sV (Xa (Yb o p q r) Xo Xp E a1 E) ?_)))));have A:=Y.rx a0;have b2:=z.frmB A q3;refine sO (Xc E QfJ (Zl b2 Qo) E ?_);rintro _ e2 ⟨a,c,d,f,g,rfl,a2,s,a3,I,b7⟩;have⟨b8,_,_⟩:=s.lkm;refine sV (XU k underlying25 Xp E E (k*2)) ?_;have B:=A.xr a2;have a4:=t.frm B q1;refine sO (YK (Yb a c d f) E E E Xp E a4 (by rw[Yo];simp only[Um,Uv];exact lq) fun b3 C _ h=> ?_);replace h:=(YD (l:=L++Xl (nf -k) RI.zero) (i:=k) ⟨a,c,d,f,g⟩ (by exact lq))▸h;replace h:Blk b3 n 30 (Ye ((L++[⟨a,c,d,f,g⟩])++Xl (nf -(k+1)) RI.zero)):=(QaA hL Qo:(L++Xl (nf -k) RI.zero).set k ⟨a,c,d,f,g⟩=(L++[⟨a,c,d,f,g⟩])++Xl (nf -(k+1)) RI.zero)▸h;refine XB (bN (xM U (Xr (sV (XF (((k:Int))+1) E E wI) (sMi E (XB ?_))))));have D:=B.tr C;have b4:=hA.frmB D q3;have b5:=s.frmB C q3;refine again (nf -(k+1)) Qo ⟨k+1,L++[⟨a,c,d,f,g⟩],E,E,E,E,E,cI,Frm.mono (j.tr D) q4,?_,?_,?_,?_,?_,?_⟩
   ·exact h
   ·omega
   ·simp [hL]
   ·exact YC.snoc b4 (Xn.sub b5 q5) (by(try dsimp only);omega)
   ·exact QiZ hz (by omega) (by show Xx _ _=_;rw[a3,X])
   ·exact ZB.snoc hC I
  ·refine sV (Xq false E E (dF y)) (sK u (Xs fun e3 _=>cF E (Xe (xE (xE (bE (xM M (rS fun e4 a5=>sMs E (sAs E (sK a5 (Xt (XL (.slice (some ⟨n,0,none⟩) nf nf) results127 (XK E) ?_))))))))))))
   exact⟨n,nf,L++Xl (nf -k) RI.zero,E,Frm.mono (J.rx j) q4,(by show _≤_;omega),t,YC.le (YC.app (YC.sub hA q5) (YC.zeros _)) Qo,(by exact lq),Qo,Qlk hz Qo Qo,Qo,ZB.app hC (ZB.zeros _)⟩
theorem QdB(hf:Xh w Sf Af nf cf lf Mf)(hnf:nf≤1048576)(hMf:Mf≤1073741824):Calls prog 127 #[.slice Af nf cf,.func (.func 66) #[] #[]] w (Ret fun v w'=> ∃Ar nr cr lr,v=(.slice Ar nr cr)∧Ext w w'∧Xh w' (fun b=>w.heap.size≤b) Ar nr cr lr (Mf)∧(zs lr=(zs lf).map fun x=> -x)∧(nr=nf)∧(ZB lr)):=by
 have⟨kf,jf,mf⟩:=hf.lkm;replace hf:=hf.low;refine enter func127 E ntmps127 E (rS fun K1 a6=>sAs E (sK a6 (rS fun K2 a7=>sMs E (sV (Xw underlying25 E) (sO (Qea nf underlying25 QgT cI cI Qo Qo fun j w4 c8 J c9 a9=> ?_))))));have b0:Blk w4 j 30 (Ye (Xl nf RI.zero)):=a9;refine sAs E (sK a7 (Xs fun d0 M=>rS fun d1 N=>sMs E (sV (Xw underlying25 E) (sMi E (sK N (Xb ?_))))));refine Ym (fun m e w_=> ∃(k:Nat)(L:List RI),m=nf -k∧e 1=(.func (.func 66) #[] #[])∧e 5=(.slice (some ⟨j,0,none⟩) nf nf)∧e 11=(.slice Af nf cf)∧e 12=(.int .i64 nf)∧e 13=(.int .i64 k)∧Frm (fun b=>b=j) w4 w_∧Blk w_ j 30 (Ye (L++Xl (nf -k) RI.zero))∧(k≤nf)∧(L.length=k)∧(YC w_ (fun b=>j<b) (Mf) L)∧(zs L=((zs lf).take k).map fun x=> -x)∧(ZB L)) (nf -(0)) ?_ ?_
 ·refine⟨0,[],E,E,E,E,E,cI,Frm.refl _ _,?_,?_,?_,?_,?_,?_⟩
  ·simpa using b0
  ·omega
  ·rfl
  ·exact YC.nil
  ·simp
  ·exact ZB.nil
 ·rintro d2 d3 b1 ⟨k,L,c1,O,P,Q,R,S,n,t,hk,hL,hA,hz,hC⟩
  obtain⟨d4,rfl⟩:=Qjz O P Q R S;have c2:=n.size;refine rS fun d5 u=> ?_
  by_cases y:((k:Int))<((nf:Int))
  ·refine sV (Xq true E E (dT y)) (sK u (Xs fun d6 T=>cT E (Xk (xM T (Xs fun d7 U=>Xb (rS fun d8 W=>sMi E ?_))))))
   have K:=hf.frmB (J.rx n) q3;obtain⟨d9,b2,rfl⟩:=K.base Qo;refine sV (XU k underlying25 Xp E E (b2+(k*2))) ?_;obtain⟨o,p,q,r,c3,_,F,G,z,b8,_,_,X⟩:=K.at_ (i:=k) Qo;have⟨c4,_,_⟩:=z.lkm;refine sV (XO (Yb o p q r) Xo Xp E (Qcj F G)) (sO (Xj (Yb false none 0 0) XE E fun e0 e1 c5 Y c6 Z=>sAi E (sO (Xd (Yb o p q r) E E E Xp E Z E fun e2 a0 c7 a1=> ?_))));refine sK W (Xr (sMs E (sMi E (sV (v:= .func (.func 66) #[] #[]) (E) (sV (Xa (Yb o p q r) Xo Xp E a1 E) ?_)))));have A:=Y.rx a0;have b3:=z.frmB A q3;refine sO (Xc E QhU (Qa5 b3 Qo) E ?_);rintro _ e3 ⟨a,c,d,f,g,rfl,a2,s,a3,I,b9⟩;have⟨c0,_,_⟩:=s.lkm;refine sV (XU k underlying25 Xp E E (k*2)) ?_;have B:=A.xr a2;have a4:=t.frm B q1;refine sO (YK (Yb a c d f) E E E Xp E a4 (by rw[Yo];simp only[Um,Uv];exact lq) fun b4 C _ h=> ?_);replace h:=(YD (l:=L++Xl (nf -k) RI.zero) (i:=k) ⟨a,c,d,f,g⟩ (by exact lq))▸h;replace h:Blk b4 j 30 (Ye ((L++[⟨a,c,d,f,g⟩])++Xl (nf -(k+1)) RI.zero)):=(QaA hL Qo:(L++Xl (nf -k) RI.zero).set k ⟨a,c,d,f,g⟩=(L++[⟨a,c,d,f,g⟩])++Xl (nf -(k+1)) RI.zero)▸h;refine XB (bN (xM U (Xr (sV (XF (((k:Int))+1) E E wI) (sMi E (XB ?_))))));have D:=B.tr C;have b5:=hA.frmB D q3;have b6:=s.frmB C q3;refine again (nf -(k+1)) Qo ⟨k+1,L++[⟨a,c,d,f,g⟩],E,E,E,E,E,cI,Frm.mono (n.tr D) q4,?_,?_,?_,?_,?_,?_⟩
   ·exact h
   ·omega
   ·simp [hL]
   ·exact YC.snoc b5 (Xn.sub b6 q5) (by(try dsimp only);omega)
   ·exact QiZ hz (by omega) (by show Xx _ _=_;rw[a3,X])
   ·exact ZB.snoc hC I
  ·refine sV (Xq false E E (dF y)) (sK u (Xs fun e4 _=>cF E (Xe (xE (xE (bE (xM M (rS fun e5 a5=>sMs E (sAs E (sK a5 (Xt (XL (.slice (some ⟨j,0,none⟩) nf nf) results127 (XK E) ?_))))))))))))
   have b7:Xh b1 (fun b=>j≤b) (some ⟨j,0,none⟩) nf nf (L++Xl (nf -k) RI.zero) (Mf):=Xh.of_blk t (YC.app (YC.sub hA q5) (YC.zeros _)) (by(try dsimp only);omega) (by exact lq) (by omega) (by unfold Yc;omega);exact⟨some ⟨j,0,none⟩,nf,nf,L++Xl (nf -k) RI.zero,E,Frm.mono (J.rx n) q4,Xh.le (Xh.sub b7 q5) Qo,Qlk hz Qo Qo,Qo,ZB.app hC (ZB.zeros _)⟩
theorem QcS(hf:Xh w Sf Af nf cf lf Mf)(Bc:Blk w pc 30 [.bool gc,.slice Ac nc cc])(hc:Xn w Sc Ac nc cc dc)(hnf:nf≤1048576)(hMf:Mf≤1073741824)(hnc:nc≤1073741824):Calls prog 127 #[.slice Af nf cf,.func (.func 150) #[] #[.pointer (some ⟨pc,0,none⟩)]] w (Ret fun v w'=> ∃Ar nr cr lr,v=(.slice Ar nr cr)∧Ext w w'∧Xh w' (fun b=>w.heap.size≤b) Ar nr cr lr (Mf+nc)∧(zs lr=(zs lf).map fun x=>Xx gc dc*x)∧(nr=nf)∧(ZB lr)):=by
 have⟨kf,jf,mf⟩:=hf.lkm;replace hf:=hf.low;have⟨lc,kc,mc⟩:=hc.lkm;replace hc:=hc.low;have ltc:=Bc.lt;refine enter func127 E ntmps127 E (rS fun K1 a9=>sAs E (sK a9 (rS fun K2 b0=>sMs E (sV (Xw underlying25 E) (sO (Qea nf underlying25 QgT cI cI Qo Qo fun j w4 d2 O d3 b2=> ?_))))));have b3:Blk w4 j 30 (Ye (Xl nf RI.zero)):=b2;refine sAs E (sK b0 (Xs fun d4 Q=>rS fun d5 R=>sMs E (sV (Xw underlying25 E) (sMi E (sK R (Xb ?_))))));refine Ym (fun m e w_=> ∃(k:Nat)(L:List RI),m=nf -k∧e 1=(.func (.func 150) #[] #[.pointer (some ⟨pc,0,none⟩)])∧e 5=(.slice (some ⟨j,0,none⟩) nf nf)∧e 11=(.slice Af nf cf)∧e 12=(.int .i64 nf)∧e 13=(.int .i64 k)∧Frm (fun b=>b=j) w4 w_∧Blk w_ j 30 (Ye (L++Xl (nf -k) RI.zero))∧(k≤nf)∧(L.length=k)∧(YC w_ (fun b=>j<b) (Mf+nc) L)∧(zs L=((zs lf).take k).map fun x=>Xx gc dc*x)∧(ZB L)) (nf -(0)) ?_ ?_
 ·refine⟨0,[],E,E,E,E,E,cI,Frm.refl _ _,?_,?_,?_,?_,?_,?_⟩
  ·simpa using b3
  ·omega
  ·rfl
  ·exact YC.nil
  ·simp
  ·exact ZB.nil
 ·rintro d6 d7 b4 ⟨k,L,c5,S,T,U,W,X,n,t,hk,hL,hA,hz,hC⟩
  obtain⟨d8,rfl⟩:=Qjz S T U W X;have c6:=n.size;refine rS fun d9 u=> ?_
  by_cases y:((k:Int))<((nf:Int))
  ·refine sV (Xq true E E (dT y)) (sK u (Xs fun e0 Y=>cT E (Xk (xM Y (Xs fun e1 Z=>Xb (rS fun e2 a0=>sMi E ?_))))))
   have z:=O.rx n;have P:=hf.frmB z q3;obtain⟨e3,b5,rfl⟩:=P.base Qo;refine sV (XU k underlying25 Xp E E (b5+(k*2))) ?_;obtain⟨o,p,q,r,c7,_,K,M,A,c2,_,_,a1⟩:=P.at_ (i:=k) Qo;have⟨c8,_,_⟩:=A.lkm;refine sV (XO (Yb o p q r) Xo Xp E (Qcj K M)) (sO (Xj (Yb false none 0 0) XE E fun e4 e5 c9 B d0 a2=>sAi E (sO (Xd (Yb o p q r) E E E Xp E a2 E fun e6 C d1 a3=> ?_))));refine sK a0 (Xr (sMs E (sMi E (sV (v:= .func (.func 150) #[] #[.pointer (some ⟨pc,0,none⟩)]) (E) (sV (Xa (Yb o p q r) Xo Xp E a3 E) ?_)))));have D:=B.rx C;have b6:=A.frmB D q3;have F:=(z.xr B).tr C;have a4:=Bc.frm F q1;have b7:=hc.frmB F q3;refine sO (Xc E Qth (QhN b6 a4 b7 Qo) E ?_);rintro _ e7 ⟨a,c,d,f,g,rfl,a5,s,a6,N,c3⟩;have⟨c4,_,_⟩:=s.lkm;refine sV (XU k underlying25 Xp E E (k*2)) ?_;have G:=D.xr a5;have a7:=t.frm G q1;refine sO (YK (Yb a c d f) E E E Xp E a7 (by rw[Yo];simp only[Um,Uv];exact lq) fun b8 I _ h=> ?_);replace h:=(YD (l:=L++Xl (nf -k) RI.zero) (i:=k) ⟨a,c,d,f,g⟩ (by exact lq))▸h;replace h:Blk b8 j 30 (Ye ((L++[⟨a,c,d,f,g⟩])++Xl (nf -(k+1)) RI.zero)):=(QaA hL Qo:(L++Xl (nf -k) RI.zero).set k ⟨a,c,d,f,g⟩=(L++[⟨a,c,d,f,g⟩])++Xl (nf -(k+1)) RI.zero)▸h;refine XB (bN (xM Z (Xr (sV (XF (((k:Int))+1) E E wI) (sMi E (XB ?_))))));have J:=G.tr I;have b9:=hA.frmB J q3;have c0:=s.frmB I q3;refine again (nf -(k+1)) Qo ⟨k+1,L++[⟨a,c,d,f,g⟩],E,E,E,E,E,cI,Frm.mono (n.tr J) q4,?_,?_,?_,?_,?_,?_⟩
   ·exact h
   ·omega
   ·simp [hL]
   ·exact YC.snoc b9 (Xn.sub c0 q5) (by(try dsimp only);omega)
   ·exact QiZ hz (by omega) (by show Xx _ _=_;rw[a6,a1])
   ·exact ZB.snoc hC N
  ·refine sV (Xq false E E (dF y)) (sK u (Xs fun e8 _=>cF E (Xe (xE (xE (bE (xM Q (rS fun e9 a8=>sMs E (sAs E (sK a8 (Xt (XL (.slice (some ⟨j,0,none⟩) nf nf) results127 (XK E) ?_))))))))))))
   have c1:Xh b4 (fun b=>j≤b) (some ⟨j,0,none⟩) nf nf (L++Xl (nf -k) RI.zero) (Mf+nc):=Xh.of_blk t (YC.app (YC.sub hA q5) (YC.zeros _)) (by(try dsimp only);omega) (by exact lq) (by omega) (by unfold Yc;omega);exact⟨some ⟨j,0,none⟩,nf,nf,L++Xl (nf -k) RI.zero,E,Frm.mono (O.rx n) q4,Xh.le (Xh.sub c1 q5) Qo,Qlk hz Qo Qo,Qo,ZB.app hC (ZB.zeros _)⟩
theorem YF(hf:Xh w Sf Af nf cf lf Mf)(hnf:nf≤1048576)(hMf:Mf≤1073741824):Calls prog 68 #[.slice Af nf cf] w (Ret fun v w'=> ∃(qr nr:Nat)(lr:_),v=(.slice (some ⟨qr,0,none⟩) nr nr)∧Ext w w'∧(fun b=>w.heap.size≤b) qr∧Blk w' qr 30 (Ye lr)∧YC w' (fun b=>qr<b) (Mf) lr∧lr.length=nr∧nr≤9223372036854775807∧(zs lr=Xi (zs lf))∧(nr≤nf)∧(ZB lr)):=by
 have⟨kf,jf,mf⟩:=hf.lkm;replace hf:=hf.low;refine enter func68 E ntmps68 E (rS fun B k=>sAs E (sK k (rS fun C l=>sMs E (sO (Xc E Qc9 (YY hf) E ?_)))));rintro _ D ⟨p,q,r,s,rfl,f,c,m,t⟩;have A:=f.size;have⟨u,_,_⟩:=c.lkm;refine sO (Xc E QkQ (Qcy c Qo Qo) E ?_);rintro _ F ⟨d,a,g,rfl,h,o,i,e,x,y,n,z,j⟩;refine sAs E (sK l (Xt (XL (.slice (some ⟨d,0,none⟩) a a) results68 (XK E) ?_)));exact⟨d,a,g,E,f.trans h,(by show _≤_;omega),i,YC.le (YC.sub e q5) (by omega),(by exact lq),(by omega),(by rw[n,m,QaH,Qux]),(by omega),j⟩
theorem QeB(hf:Xh w Sf Af nf cf lf Mf)(hnf:nf≤1048576)(hMf:Mf≤1073741824):Calls prog 143 #[.slice Af nf cf] w (Ret fun v w'=> ∃Ar nr cr lr,v=(.slice Ar nr cr)∧Ext w w'∧Xh w' (fun b=>w.heap.size≤b) Ar nr cr lr (Mf)∧(zs lr=Xi (Zh (zs lf) (-1)))∧(nr≤nf)∧(ZB lr)):=by
 have⟨kf,jf,mf⟩:=hf.lkm;replace hf:=hf.low;refine enter func143 E ntmps143 E (rS fun z k=>sAs E (sK k (rS fun A l=>sMs E (sO (Xc E Qc9 (YY hf) E ?_)))));rintro _ B ⟨o,p,q,r,rfl,g,a,m,s⟩;have y:=g.size;have⟨t,_,_⟩:=a.lkm;refine sO (Xc E QkQ (QdB a Qo Qo) E ?_);rintro _ C ⟨c,d,e,h,rfl,i,f,n,u,j⟩;have⟨x,_,_⟩:=f.lkm;refine sAs E (sK l (Xt (XL (.slice c d e) results143 (XK E) ?_)));exact⟨c,d,e,h,E,g.trans i,Xh.le (Xh.sub f q5) (by omega),(by rw[n,m,QaH,Qkm];exact Qi1 _),(by omega),j⟩
theorem Qjt(hf:Xh w Sf Af nf cf lf Mf)(hc:Xn w Sc Ac nc cc dc)(hnf:nf≤1048576)(hMf:Mf≤1073741824)(hnc:nc≤1073741824):Calls prog 105 #[.slice Af nf cf,Zb gc Ac nc cc] w (Ret fun v w'=> ∃Ar nr cr lr,v=(.slice Ar nr cr)∧Ext w w'∧Xh w' (fun b=>w.heap.size≤b) Ar nr cr lr (Mf+nc)∧(zs lr=Xi (Zh (zs lf) (Xx gc dc)))∧(nr≤nf)∧(ZB lr)):=by
 have⟨kf,jf,mf⟩:=hf.lkm;replace hf:=hf.low;replace hc:=hc.low;refine enter func105 E ntmps105 E (rS fun G n=>sO (Ys (Yb gc Ac nc cc) E E fun A I B g C o=>sAs E (sK n (rS fun J p=>sMs E (sV (v:= .func (.func 150) #[] #[.pointer (some ⟨A,0,none⟩)]) (evK (by kernel_rfl)) ?_)))));refine sO (Xc E QkQ (QcS (hf.ext g) o (hc.ext g) Qo Qo Qo) E ?_);rintro _ D ⟨q,r,s,t,rfl,k,a,l,u,i⟩;have⟨x,_,_⟩:=a.lkm;refine sO (Xc E Qc9 (YY a) E ?_);rintro _ F ⟨c,d,e,j,rfl,m,f,h,y⟩;have⟨z,_,_⟩:=f.lkm;refine sAs E (sK p (Xt (XL (.slice c d e) results105 (XK E) ?_)));exact⟨c,d,e,j,E,(g.trans k).trans m,Xh.le (Xh.sub f q5) (by omega),(by rw[h,QaH,l,Qny]),(by omega),(by rw[h];exact i.trim)⟩
theorem XW(hf:Xh w Sf Af nf cf lf Mf)(hnf:nf≤1048576)(hMf:Mf≤1073741824):Calls prog 22 #[.slice Af nf cf] w (Ret fun v w'=> ∃xr,v=(.int .i64 (xr))∧Ext w w'∧(xr=((Xi (zs lf)).length:Int) -1)):=by
 replace hf:=hf.low;refine enter func22 E ntmps22 E (rS fun m c=>sAi E (sK c (rS fun n d=>sMs E (sO (Xc E Qc9 (YY hf) E ?_)))));rintro _ o ⟨g,a,h,i,rfl,e,b,f,_⟩;have⟨j,k,l⟩:=b.lkm;refine sV (Xw underlying25 E) (sV (XQ (((a:Int)) -1) E E wI) (sAi E (sK d (Xt (XL (.int .i64 (((a:Int)) -1)) results22 (XK E) ?_)))));exact⟨((a:Int)) -1,E,e,(by rw[←QaH,←f,Za];omega)⟩
theorem YR(hf:Xh w Sf Af nf cf lf Mf)(hnf:nf≤1048576)(hMf:Mf≤1073741824):Calls prog 99 #[.slice Af nf cf] w (Ret fun v w'=> ∃gr Ar nr cr dr,v=(Zb gr Ar nr cr)∧Ext w w'∧Xn w' (fun b=>w.heap.size≤b) Ar nr cr dr∧(Xx gr dr=coI (Xi (zs lf)) (((Xi (zs lf)).length:Int) -1))∧(Qay gr dr)∧(nr≤Mf)):=by
 replace hf:=hf.low;refine enter func99 E ntmps99 E (rS fun K1 N=>sO (Xj (Yb false none 0 0) XE E fun g2 w3 a3 k a4 y=>sK N (rS fun K8 O=>sMs E ?_)));refine sO (Xc E Qc9 (YY (hf.ext k)) E ?_);rintro _ a5 ⟨R,a,S,T,rfl,g,h,l,_⟩;have a0:=g.size;have⟨r,U,W⟩:=h.lkm;refine sAs E (sK O (Xs fun a6 z=>rS fun a7 m=>sMs E (sV (Xw underlying25 E) ?_)))
 by_cases n:((a:Int))=0
 ·refine sV (XD true E E (dT n)) (sK m (cT E (rS fun a8 A=>sV (v:=Zb false none 0 0) (evK (by kernel_rfl)) ?_)))
  refine sO (Xd (Yb false none 0 0) E E E Xp E (y.ext g) E fun a9 B _ C=> ?_);refine sK A (Xt (xR (XL (Zb false none 0 0) results99 (YE (Yb false none 0 0) Xo Xp E C) ?_)));exact⟨false,none,0,0,[],E,Frm.mono ((k.trans g).rx B) q4,Xn.nil,(by rw[Qb4];exact Qk7 (.inl (by rw[←QaH,←l,Za];omega))),Qay.zero,(by omega)⟩
 ·refine sV (XD false E E (dF n)) (sK m (cF E (Xk (xM z (rS fun b0 D=>sMs E (sMs E (sV (Xw underlying25 E) (sV (XQ (((a:Int)) -1) E E wI) ?_))))))))
  obtain⟨b1,P,rfl⟩:=h.base Qo;refine sV (XU (a -1) underlying25 Xp E E (P+((a -1)*2))) ?_;obtain⟨F,G,I,J,a1,_,s,t,o,X,_,_,K⟩:=h.at_ (i:=a -1) Qo;have⟨a2,_,_⟩:=o.lkm;refine sV (XO (Yb F G I J) Xo Xp E (Qcj s t)) (sO (Xc E QfJ (Zl o Qo) E ?_));rintro _ b2 ⟨c,d,e,f,u,rfl,p,j,L,x,Y⟩;have⟨Z,_,_⟩:=j.lkm;refine sO (Xd (Yb c d e f) E E E Xp E (y.ext (g.trans p)) E fun b3 q _ M=> ?_);refine sK D (Xt (XL (Zb c d e f) results99 (YE (Yb c d e f) Xo Xp E M) ?_));have Q:=j.frmB q q3;exact⟨c,d,e,f,u,E,Frm.mono (((k.trans g).trans p).rx q) q4,Xn.sub Q q5,(by rw[L,K,←QaH,←l,Za,r,show((a:Int) -1)=((a -1:Nat):Int) by omega,QgG]),x,(by omega)⟩
theorem ZH(hf:Xh w Sf Af nf cf lf Mf)(hnf:nf≤1048576)(hMf:Mf≤1073741824):Calls prog 44 #[.slice Af nf cf] w (Ret fun v w'=> ∃Ar nr cr lr,v=(.slice Ar nr cr)∧Ext w w'∧Xh w' (fun b=>w.heap.size≤b) Ar nr cr lr (Mf+2)∧(zs lr=Xi (YI (zs lf)))∧(nr≤nf)∧(ZB lr)):=by
 have⟨kf,jf,mf⟩:=hf.lkm;replace hf:=hf.low;refine enter func44 E ntmps44 E (rS fun K1 b8=>sAs E (sK b8 (rS fun K2 b9=>sMs E (sO (Xc E Qc9 (YY hf) E ?_)))));rintro _ w4 ⟨U,a,W,t,rfl,u,x,Q,d9⟩;have f1:=u.size;have⟨e0,e1,e2⟩:=x.lkm;refine sAs E (sK b9 (Xs fun K8 c0=>rS fun K9 R=>sMs E (sV (Xw underlying25 E) ?_)))
 by_cases y:((a:Int))=0
 ·refine sV (XD true E E (dT y)) (sK R (cT E (rS fun f2 X=>sAs E (sK X (Xt (xR (XL (.slice none 0 0) results44 (XK E) ?_)))))))
  exact⟨none,0,0,[],E,u,Xh.nil,(by rw[←Qh2,←QaH,←Q,show t=[] from List.eq_nil_of_length_eq_zero (by omega)];rfl),(by omega),ZB.nil⟩
 ·refine sV (XD false E E (dF y)) (sK R (cF E (Xk (xM c0 (rS fun f3 Y=>sMs E (sV (Xw underlying25 E) (sV (XQ (((a:Int)) -1) E E wI) (sO (Qea (a -1) underlying25 QgT cI cI Qo Qo fun c S e3 z e4 Z=> ?_)))))))))
  have a0:Blk S c 30 (Ye (Xl (a -1) RI.zero)):=Z;refine sAs E (sK Y (Xs fun f4 a1=>rS fun f5 a2=>sMs E (sV (Xw underlying25 E) (sMi E (sK a2 (Xb ?_))))));refine Ym (fun m e w_=> ∃(k:Nat)(L:List RI),m=(a -1) -k∧e 0=(.slice U a W)∧e 3=(.slice (some ⟨c,0,none⟩) (a -1) (a -1))∧e 15=(.int .i64 (((a -1:Nat):Int)))∧e 16=(.int .i64 k)∧Frm (fun b=>b=c) S w_∧Blk w_ c 30 (Ye (L++Xl ((a -1) -k) RI.zero))∧(k≤a -1)∧(L.length=k)∧(YC w_ (fun b=>c<b) (Mf+2) L)∧(zs L=(List.range k).map fun i=>co (zs t) (i+1)*((i+1:Nat):Int))∧(ZB L)) ((a -1) -(0)) ?_ ?_
  ·refine⟨0,[],E,E,E,E,cI,Frm.refl _ _,?_,?_,?_,?_,?_,?_⟩
   ·simpa using a0
   ·omega
   ·rfl
   ·exact YC.nil
   ·simp
   ·exact ZB.nil
  ·rintro f6 f7 c1 ⟨k,L,e5,a3,a4,a5,a6,o,A,hk,hL,hA,hz,hC⟩
   obtain⟨f8,rfl⟩:=QsT a3 a4 a5 a6;have e6:=o.size;refine rS fun f9 B=> ?_
   by_cases C:((k:Int))<(((a -1:Nat):Int))
   ·refine sV (Xq true E E (dT C)) (sK B (Xs fun g0 a7=>cT E (Xk (xM a7 (Xs fun g1 a8=>Xb (rS fun g2 a9=>sMi E (sAi E (sK a9 (XA (fun b=>b=c) mixed fun g3 D e7=>dMs 0 E E (dMi 1 E E (dMs 2 E E (dMi 3 E E (dV 4 E (fun _ _=>XF (((k:Int))+1) E E wI) ?_)))))))))))))
    have T:=x.frmB ((z.rx o).xr D) q3;obtain⟨g4,c2,rfl⟩:=T.base Qo;refine dV 5 E (fun _ _=>XU (k+1) underlying25 Xp E E (c2+((k+1)*2))) ?_;obtain⟨b0,b1,b2,b3,e8,_,K,M,F,c7,N,O,b4⟩:=T.at_ (i:=k+1) Qo;have⟨e9,_,_⟩:=F.lkm;refine dV 6 E (fun _ hf=>XO (Yb b0 b1 b2 b3) Xo Xp E (QdZ K M hf O (by(try dsimp only at N⊢);omega))) (dMi 7 E E (dV 8 E (fun _ _=>XF (((k:Int))+1) E E wI) (dOk 9 E E (Xc E Qaz (Yv (by omega)) E ?_))));rintro _ g5 ⟨c8,c9,d0,d1,d2,rfl,p,r,b5,_,d3⟩;refine⟨Frm.of_ext p,?_⟩;have f0:=p.size;have⟨d4,d5,d6⟩:=r.lkm;refine dOk 10 E E (Xc E Zg (XM (F.ext p) r Qo) E ?_);rintro _ g6 ⟨d,f,g,h,j,rfl,G,s,b6,P,d7⟩;refine⟨Frm.of_ext G,?_⟩;have⟨d8,_,_⟩:=s.lkm;refine dV 11 E (fun _ _=>XU k underlying25 Xp E E (k*2)) ?_;have I:=(D.trans p).trans G;refine dOk 12 E E (YK (Yb d f g h) E E E Xp E (A.ext I) (by rw[Yo];simp only[Um,Uv];exact lq) fun c3 q _ n=> ?_);replace n:=(YD (l:=L++Xl ((a -1) -k) RI.zero) (i:=k) ⟨d,f,g,h,j⟩ (by exact lq))▸n;replace n:Blk c3 c 30 (Ye ((L++[⟨d,f,g,h,j⟩])++Xl ((a -1) -(k+1)) RI.zero)):=(QaA hL Qo:(L++Xl ((a -1) -k) RI.zero).set k ⟨d,f,g,h,j⟩=(L++[⟨d,f,g,h,j⟩])++Xl ((a -1) -(k+1)) RI.zero)▸n;refine⟨q,XG (by kernel_rfl) (bN (xM a8 (Xr (sV (XF (((k:Int))+1) E E wI) (sMi E (XB ?_))))))⟩;have J:=I.rx q;have c4:=hA.frmB J q3;have c5:=s.frmB q q3;refine again ((a -1) -(k+1)) Qo ⟨k+1,L++[⟨d,f,g,h,j⟩],E,E,E,E,cI,o.trans J,?_,?_,?_,?_,?_,?_⟩
    ·exact n
    ·omega
    ·simp [hL]
    ·exact YC.snoc c4 (Xn.sub c5 q5) (by(try dsimp only);omega)
    ·exact QeE hz (by show Xx _ _=_;rw[b6,b4,b5];rfl)
    ·exact ZB.snoc hC P
   ·refine sV (Xq false E E (dF C)) (sK B (Xs fun g7 _=>cF E (Xe (xE (xE (bE (xM a1 (rS fun g8 b7=>sMs E (sAs E (sK b7 (Xt (XL (.slice (some ⟨c,0,none⟩) (a -1) (a -1)) results44 (XK E) ?_))))))))))))
    have c6:Xh c1 (fun b=>c≤b) (some ⟨c,0,none⟩) (a -1) (a -1) (L++Xl ((a -1) -k) RI.zero) (Mf+2):=Xh.of_blk A (YC.app (YC.sub hA q5) (YC.zeros _)) (by(try dsimp only);omega) (by exact lq) (by omega) (by unfold Yc;omega);exact⟨some ⟨c,0,none⟩,a -1,a -1,L++Xl ((a -1) -k) RI.zero,E,Frm.mono ((u.trans z).rx o) q4,Xh.le (Xh.sub c6 q5) (by omega),(by rw[show a -1 -k=0 by omega,List.replicate_zero,List.append_nil,hz,←Qh2,←QaH,←Q];unfold YI;congr 2;rw[Za];omega),(by omega),ZB.app hC (ZB.zeros _)⟩
set_option maxHeartbeats 2000000 in
theorem QlL(hf:Xh w Sf Af nf cf lf Mf)(hnf:nf≤64)(hMf:Mf≤65536)(hxn:xn≤127):Calls prog 160 #[.slice Af nf cf,.int .i64 (xn)] w (Ret fun v w'=> ∃Ar nr cr lr,v=(.slice Ar nr cr)∧Ext w w'∧Xh w' (fun b=>w.heap.size≤b) Ar nr cr lr (33554432)∧(zs lr=Xi (QdJ (zs lf) xn.toNat))∧(nr≤16384)∧(ZB lr)):=by
 have⟨kf,jf,mf⟩:=hf.lkm;replace hf:=hf.low;refine enter func160 E ntmps160 E (rS fun K1 c3=>sAs E (sK c3 (rS fun K2 c4=>sO (XT [.int .i64 (1)] [[.int .i64 (1)]] underlying45 Qwc E E E E E fun g3 w4 e5 c6 e6 B=> ?_))));replace B:Blk w4 g3 2 [.int .i64 (1)]:=B;refine sO (Xc E Qos (Qcx (QaW.of_blk (S:=fun b=>b=g3) (n:=1) (c:=1) (xs:=[1]) B E (by decide) E (Nat.le_refl _) (by decide)) Qo) E ?_);rintro _ e7 ⟨a6,a7,a8,a9,rfl,C,b0,a3,e0,b1⟩;have e1:=C.size;refine sMs E ?_;have D:=c6.trans C;refine sO (Xc E Qdb (YF (hf.ext D) Qo Qo) E ?_);rintro _ a4 ⟨h,f,k,rfl,F,c7,l,G,d0,d1,b2,d2,_⟩;have c8:=l.lt;refine sAs E (sAs E (sK c4 (Xs fun e8 b3=>Xb ?_)));have c9:Xh a4 (fun b=>h≤b) (some ⟨h,0,none⟩) f f (k) ((Mf)):=Xh.of_blk l (YC.sub G q5) (by(try dsimp only);omega) (by exact lq) (by omega) (by unfold Yc;omega);refine Ym (fun m e w_=> ∃(y:Int)(u:Nat)(a:Nat)(b:Nat)(Ar:Option Addr)(nR:Nat)(cr:Nat)(lR:List RI)(As:Option Addr)(nS:Nat)(cs:Nat)(lS:List RI),m=u∧e 1=(.int .i64 (y))∧e 5=(.slice Ar nR cr)∧e 6=(.slice As nS cs)∧Frm (fun b=>False) a4 w_∧(u=y.toNat)∧(QnH u a b)∧(nR≤64*a+1)∧(nS≤64*b)∧(Xh w_ (fun b=>w.heap.size≤b) Ar nR cr lR (2+131072*a))∧(Xh w_ (fun b=>w.heap.size≤b) As nS cs lS (131072*b -65536))∧(ZB lR)∧(Canon Qa6 (zs lR))∧(Xi (ZR (zs lR) (QdJ (zs lS) u))=Xi (QdJ (zs lf) xn.toNat))) ((xn.toNat)) ?_ ?_
 ·refine⟨xn,xn.toNat,0,1,a6,a7,a8,a9,(some ⟨h,0,none⟩),f,f,k,E,cI,E,E,Frm.refl _ _,?_,?_,?_,?_,?_,?_,?_,?_,?_⟩
  ·omega
  ·exact QnH.start Qo
  ·omega
  ·omega
  ·exact Xh.le (Xh.sub (b0.ext F) q5) Qo
  ·exact Xh.le (Xh.sub c9 q5) Qo
  ·exact b1
  ·rw[a3];exact XJ _ _
  ·rw[a3,b2];exact QrF _ _
 ·rintro e9 f0 f1 ⟨y,u,a,b,Ar,nR,cr,lR,As,nS,cs,lS,e2,b4,b5,b6,d,hu,hI,hnR,hnS,hR,hS,hC,hcR,hv⟩
  obtain⟨f2,rfl⟩:=Qqe b4 b5 b6;have e3:=d.size;have hIb:=hI.bnd;have⟨qR,jR,mR⟩:=hR.lkm;have⟨qS,jS,mS⟩:=hS.lkm;refine Xs fun f3 b7=>rS fun f4 I=>sMi E ?_
  by_cases J:y>0
  ·refine sV (Yu true E E (dT J)) (sK I (cT E (Xk (xM b7 (Xb (Xs fun f5 K=>rS fun f6 L=>sV (v:= .int .i64 u) (by rw[show(u:Int)=y by omega];rfl) (sV (v:= .int .i64 (((u % 2:Nat):Int))) (Ql8 E E (by omega)) ?_)))))))
   by_cases M:(((u % 2:Nat):Int))≠0
   ·refine sV (ZI true E E (dT M)) (sK L (cT E (Xr (sMs E (sMs E (sO (Xc E QkX (QeA hR hS Qo Qo Qo Qo) E ?_)))))))
    rintro _ f7 ⟨o,p,q,r,rfl,g,i,j,d3,t⟩;have e4:=g.size;have⟨d4,_,_⟩:=i.lkm;refine sAs E (sK K (rS fun f8 b8=>sV (v:= .int .i64 u) (by rw[show(u:Int)=y by omega];rfl) (sV (QeM (((u/2^1:Nat):Int)) E E (by omega) (QqA (x:=u) (s:=1) (by omega) (by omega) (by show _≤64;omega))) (sAi E (sK b8 (rS fun f9 N=>sMi E ?_))))))
    by_cases O:(((u/2^1:Nat):Int))>0
    ·refine sV (Yu true E E (dT O)) (sK N (cT E (Xr (sMs E (sMs E ?_)))))
     have a5:=hS.ext g;refine sO (Xc E QkX (QeA a5 a5 Qo Qo Qo Qo) E ?_);rintro _ g0 ⟨U,W,X,Y,rfl,P,z,b9,d5,_⟩;have⟨d6,_,_⟩:=z.lkm;refine sAs E (XB (bN ?_));refine again ((u/2^1)) Qo ⟨((u/2^1:Nat):Int),u/2^1,a+b,2*b,o,p,q,r,U,W,X,Y,E,cI,E,E,d.trans (g.trans P),?_,?_,?_,?_,?_,?_,?_,?_,?_⟩
     ·omega
     ·exact hI.odd Qo
     ·omega
     ·omega
     ·exact Xh.le (Xh.sub (i.ext P) q5) Qo
     ·exact Xh.le (Xh.sub z q5) Qo
     ·exact t
     ·rw[j];exact XJ _ _
     ·exact QrH hv Qo j b9
    ·refine sV (Yu false E E (dF O)) (sK N (cF E (Xk (bN ?_))))
     refine again ((u/2^1)) Qo ⟨((u/2^1:Nat):Int),u/2^1,a+b,2*b,o,p,q,r,As,nS,cs,lS,E,cI,E,E,d.trans g,?_,?_,?_,?_,?_,?_,?_,?_,?_⟩
     ·omega
     ·exact hI.odd Qo
     ·omega
     ·omega
     ·exact Xh.le (Xh.sub i q5) Qo
     ·exact Xh.le (Xh.sub (hS.ext g) q5) Qo
     ·exact t
     ·rw[j];exact XJ _ _
     ·exact QrG hv Qo Qo j
   ·refine sV (ZI false E E (dF M)) (sK L (cF E (Xk (xM K (rS fun g1 c0=>sV (v:= .int .i64 u) (by rw[show(u:Int)=y by omega];rfl) (sV (QeM (((u/2^1:Nat):Int)) E E (by omega) (QqA (x:=u) (s:=1) (by omega) (by omega) (by show _≤64;omega))) (sAi E (sK c0 (rS fun g2 Q=>sMi E ?_)))))))))
    by_cases R:(((u/2^1:Nat):Int))>0
    ·refine sV (Yu true E E (dT R)) (sK Q (cT E (Xr (sMs E (sMs E (sO (Xc E QkX (QeA hS hS Qo Qo Qo Qo) E ?_)))))))
     rintro _ g4 ⟨Z,a0,a1,a2,rfl,T,A,c1,d7,_⟩;have⟨d8,_,_⟩:=A.lkm;refine sAs E (XB (bN ?_));refine again ((u/2^1)) Qo ⟨((u/2^1:Nat):Int),u/2^1,a+0,2*b,Ar,nR,cr,lR,Z,a0,a1,a2,E,cI,E,E,d.trans T,?_,?_,?_,?_,?_,?_,?_,?_,?_⟩
     ·omega
     ·exact hI.even Qo Qo
     ·omega
     ·omega
     ·exact Xh.le (Xh.sub (hR.ext T) q5) Qo
     ·exact Xh.le (Xh.sub A q5) Qo
     ·exact hC
     ·exact hcR
     ·exact QpO hv Qo c1
    ·refine sV (Yu false E E (dF R)) (sK Q (cF E (Xk (bN (again ((u/2^1)) Qo ⟨((u/2^1:Nat):Int),u/2^1,a+0,2*b,Ar,nR,cr,lR,As,nS,cs,lS,E,cI,E,E,d,?_,?_,?_,?_,?_,?_,?_,?_,?_⟩)))))
     ·omega
     ·exact hI.even Qo Qo
     ·omega
     ·omega
     ·exact Xh.le (Xh.sub hR q5) Qo
     ·exact Xh.le (Xh.sub hS q5) Qo
     ·exact hC
     ·exact hcR
     ·exfalso;omega
  ·refine sV (Yu false E E (dF J)) (sK I (cF E (Xe (xE (xE (bE (xM b3 (rS fun g5 c2=>sMs E (sAs E (sK c2 (Xt (XL (.slice Ar nR cr) results160 (XK E) ?_))))))))))))
   exact⟨Ar,nR,cr,lR,E,(D.trans F).trans d,Xh.le (Xh.sub hR q5) Qo,pow_end hv Qo hcR,Qo,hC⟩
end Go.Proofs.YtnkfdkhjaklolaaGreatDoor
