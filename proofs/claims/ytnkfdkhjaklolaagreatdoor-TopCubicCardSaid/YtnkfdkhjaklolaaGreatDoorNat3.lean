/-
  Walks of package natural: differences and products.
-/
import Derived.Test.YtnkfdkhjaklolaaGreatDoorNat1
open List renaming map_replicate→Uw,map_set→UA
namespace Go.Proofs.YtnkfdkhjaklolaaGreatDoor
open Go.RowKit Go.Gx Tryz
open Go renaming wp_ret→Xt,wp_seq_k→Xs,wp_skip→Xk,wp_block→Xb,wp_region_lit→Xr,wp_exit→Xe
open List renaming replicate→Xl
variable{Aa Ab:Option Addr}{Sa Sb:Nat→Prop}{ca cb na nb pc x1 x2 xc:Nat}{da db:List Nat}{w:World}
theorem QeW(b1:x1<4294967296)(b2:x2<4294967296)(Bc:Blk w pc 123 [.int .u32 (xc:Int)])(bc:xc<4294967296)(hc:xc≤1):Calls prog 234 #[.int .u32 x1,.int .u32 x2,.pointer (some ⟨pc,0,none⟩)] w (Ret fun v w'=> ∃(xs zc:Nat),v=(.int .u32 xs)∧Frm (fun b=>b=pc) w w'∧xs<4294967296∧(Blk w' pc 123 [.int .u32 (zc:Int)])∧(xs+x2+xc=x1+4294967296*zc)∧(zc≤1)):=by
 refine enter func234 E ntmps234 E (rS fun o h=>sAi E (sK h (rS fun p i=>sMi E (sMi E (sV (Xg XV E Bc E) (sO (Xc E Qk0 (Qfj (x1:=x1) Qo (x2:=x2) Qo (x3:=xc) Qo Qo) E ?_)))))));rintro _ q ⟨a,c,rfl,d,k,_,l,m⟩;refine sV (v:= .tuple #[.int .u32 a,.int .u32 c]) (E) (sV (v:= .int .u32 a) (E) (sV (v:= .int .u32 c) (E) (sAi E (sAi E (sK i (rS fun r j=>sMi E ?_))))));refine sO (Xd [.int .u32 c] E E E Xz E (Bc.ext d) E fun s e _ f=> ?_);refine sK j (rS fun n g=>sMi E (sAi E (sK g (Xt (XL (.int .u32 a) results234 (XK E) ?_)))));exact⟨a,c,E,d.rx e,Qo,f,Qo,Qo⟩
theorem QcN(ha:Xn w Sa Aa na ca da)(hb:Xn w Sb Ab nb cb db)(hna:na≤1099511627776)(hnb:nb≤1099511627776):Calls prog 179 #[.slice Aa na ca,.slice Ab nb cb] w (Ret fun v w'=> ∃Ar nr cr dr gk,v=(.tuple #[.slice Ar nr cr,.bool gk])∧Ext w w'∧Xn w' (fun b=>w.heap.size≤b) Ar nr cr dr∧(gk=decide (val db≤val da))∧(val dr=val da -val db)∧(Canon isZ dr)∧(nr≤na)):=by
 have⟨la,ka,ma⟩:=ha.lkm;replace ha:=ha.low;have⟨lb,kb,mb⟩:=hb.lkm;replace hb:=hb.low;refine enter func179 E ntmps179 E (rS fun K1 g0=>sAs E (sAb E (sK g0 (rS fun K2 g1=>sMs E (sO (Xc E Qae (Ya ha) E ?_))))));rintro _ w4 ⟨X,a,Y,p,rfl,M,D,Z,h5⟩;have k4:=M.size;have⟨h6,h7,h8⟩:=D.lkm;refine sMs E ?_;refine sO (Xc E Qae (Ya (hb.ext M)) E ?_);rintro _ k5 ⟨a0,f,a1,q,rfl,r,F,N,h9⟩;have i0:=r.size;have⟨i1,_,_⟩:=F.lkm;refine sAs E (sAs E (sK g1 (Xs fun k6 c8=>rS fun k7 a2=>sMs E (sMs E ?_))));have a3:=D.ext r;refine sO (Xc E Qfk (Qa7 a3 F) E ?_);rintro _ k8 ⟨b6,rfl,l,a4⟩;have i2:=l.size
 by_cases s:b6<0
 ·refine sV (Xq true E E (dT s)) ?_
  have hcm:=Qrl Z N (Ql1 a4 s);refine sK a2 (cT E (rS fun k9 c9=>sAs E (sAb E (sK c9 (Xt (xR (Qbl (.slice none 0 0) (.bool false) results179 (XK E) (XK E) ?_)))))));exact⟨none,0,0,[],false,E,(M.trans r).trans l,Xn.nil,(by simp;omega),(by simp [val];omega),Qci _,(by omega)⟩
 ·refine sV (Xq false E E (dF s)) ?_
  have hcv:=QoE a4 s;have hcm:=Qrk Z N hcv;have hcl:=QfM D.2 (by rw[N];exact XJ _ _) hcv;refine sK a2 (cF E (Xk (xM c8 (rS fun l0 d0=>sO (Xj [.int .u32 (0)] Qjx E fun h l1 i3 G i4 d1=>sK d0 (rS fun l2 d2=>sV (v:= .func (.func 234) #[] #[.pointer (some ⟨h,0,none⟩)]) (evK (by kernel_rfl)) (sV (v:= .func (.func 234) #[] #[.pointer (some ⟨h,0,none⟩)]) (E) (sK d2 (rS fun l3 d3=>sMs E (sV (Xw underlying28 E) (sO (Qaw a underlying28 Qai E cI cI Qo Qo fun g c6 i5 t i6 d4=> ?_))))))))))));have d5:Blk c6 g 123 (((Xl a 0)).map u32):=by rw[Uw];exact d4
  refine sAs E (sK d3 (Xs fun l4 d6=>rS fun l5 d7=>sMs E (sV (Xw underlying28 E) (sMi E (sK d7 (Xb ?_))))));refine Ym (fun m e w_=> ∃(k:Nat)(P:List Nat)(cy:Nat),m=f -k∧e 0=(.slice X a Y)∧e 1=(.slice a0 f a1)∧e 7=(.func (.func 234) #[] #[.pointer (some ⟨h,0,none⟩)])∧e 8=(.slice (some ⟨g,0,none⟩) a a)∧e 24=(.slice a0 f a1)∧e 25=(.int .i64 f)∧e 26=(.int .i64 k)∧Frm (fun b=>b=h∨b=g) c6 w_∧Blk w_ h 123 ([.int .u32 (cy:Int)])∧Blk w_ g 123 ((P++Xl (a -k) 0).map u32)∧(k≤f)∧(0≤k)∧(P.length=k)∧(∀d∈P,d<BS)∧(cy≤1)∧(val P+val (q.take k)=val (p.take k)+BS^k*cy)) (f -(0)) ?_ ?_
  ·refine⟨0,[],0,E,E,E,E,E,E,E,cI,Frm.refl _ _,?_,?_,?_,?_,?_,?_,?_,?_⟩
   ·exact(d1.ext t)
   ·simpa using d5
   ·omega
   ·omega
   ·rfl
   ·simp
   ·omega
   ·simp [val]
  ·rintro l6 l7 g2 ⟨k,P,cy,i7,d8,d9,e0,e1,e2,e3,e4,u,a5,a6,hk,hl,hP,hlt,hcy,hv⟩
   obtain⟨l8,rfl⟩:=Qu1 d8 d9 e0 e1 e2 e3 e4;refine rS fun l9 a7=> ?_
   by_cases a8:((k:Int))<((f:Int))
   ·refine sV (Xq true E E (dT a8)) (sK a7 (Xs fun m0 e5=>cT E (Xk (xM e5 (Xs fun m1 e6=>Xb (rS fun m2 e7=>sMi E ?_))))))
    have a9:=((l.trans G).trans t).rx u;have b0:=F.frmB a9 q3;obtain⟨m3,g3,rfl⟩:=b0.base Qo;refine sV (XU k underlying28 Xz E E (g3+k)) ?_;have i8:=b0.lt k;refine sV (XR XV E (b0.cell Qo)) (sAi E (sAi E (sK e7 (Xr (sMs E (sMi E (sV (v:= .func (.func 234) #[] #[.pointer (some ⟨h,0,none⟩)]) (E) (sMs E (sMi E ?_)))))))));have b1:=a3.frmB a9 q3;obtain⟨m4,g4,rfl⟩:=b1.base Qo;refine sV (XU k underlying28 Xz E E (g4+k)) ?_;have i9:=b1.lt k;refine sV (XR XV E (b1.cell Qo)) (sMi E (sO (Xc E Qog (QeW (x1:=p.getD k 0) Qo (x2:=q.getD k 0) Qo (xc:=cy) a5 Qo Qo) E ?_)));rintro _ m5 ⟨j,b7,rfl,b2,h0,e8,j0,j1⟩;refine sV (XU k underlying28 Xz E E k) ?_;have e9:=a6.frm b2 q1;refine sO (YH E E E Xz e9 (by exact lq) fun g5 b3 _ I=> ?_);replace I:Blk g5 g 123 (((P++[j])++Xl (a -(k+1)) 0).map u32):=by rw[← (ZE hP (by omega):(P++Xl (a -k) 0).set k j=(P++[j])++Xl (a -(k+1)) 0),UA];exact I
    refine XB (bN (xM e6 (Xr (sV (XF (((k:Int))+1) E E wI) (sMi E (XB ?_))))));have f0:=e8.frm b3 q1;refine again (f -(k+1)) Qo ⟨k+1,P++[j],b7,E,E,E,E,E,E,E,cI,Frm.mono (u.tr (b2.tr b3)) q4,?_,?_,?_,?_,?_,?_,?_,?_⟩
    ·exact f0
    ·exact I
    ·omega
    ·omega
    ·simp [hP]
    ·exact ZL hlt Qo
    ·omega
    ·exact QmP hv hP Qo
   ·refine sV (Xq false E E (dF a8)) (sK a7 (Xs fun m6 j2=>cF E (Xe (xE (xE (bE (xM d6 (Xs fun m7 f1=>rS fun m8 f2=>sMs E (sV (Xw underlying28 E) (sAi E (sK f2 (Xb ?_))))))))))))
    refine Ym (fun m e w_=> ∃(c:Nat)(o:List Nat)(y:Nat),m=a -c∧e 0=(.slice X a Y)∧e 7=(.func (.func 234) #[] #[.pointer (some ⟨h,0,none⟩)])∧e 8=(.slice (some ⟨g,0,none⟩) a a)∧e 11=(.int .i64 c)∧Frm (fun b=>b=h∨b=g) g2 w_∧Blk w_ h 123 ([.int .u32 (y:Int)])∧Blk w_ g 123 ((o++Xl (a -c) 0).map u32)∧(c≤a)∧(f≤c)∧(o.length=c)∧(∀d∈o,d<BS)∧(y≤1)∧(val o+val (q.take c)=val (p.take c)+BS^c*y)) (a -(k)) ?_ ?_
    ·refine⟨k,P,cy,E,E,E,E,cI,Frm.refl _ _,?_,?_,?_,?_,?_,?_,?_,?_⟩
     ·exact a5
     ·exact a6
     ·omega
     ·omega
     ·exact hP
     ·exact hlt
     ·omega
     ·exact hv
    ·rintro m9 j3 g6 ⟨c,o,y,h1,f3,f4,f5,f6,J,b8,O,n0,n1,Q,K,j4,c7⟩
     obtain⟨j5,rfl⟩:=QsT f3 f4 f5 f6;refine Xs fun j6 b9=>rS fun j7 R=>sMi E (sMs E (sV (Xw underlying28 E) ?_))
     by_cases S:((c:Int))<((a:Int))
     ·refine sV (Xq true E E (dT S)) (sK R (cT E (Xk (xM b9 (Xs fun j8 c0=>Xb (Xr (sMs E (sMi E (sV (v:= .func (.func 234) #[] #[.pointer (some ⟨h,0,none⟩)]) (E) (sMs E (sMi E ?_)))))))))))
      have L:=a3.frmB ((((l.trans G).trans t).rx u).trans J) q3;obtain⟨j9,f7,rfl⟩:=L.base Qo;refine sV (XU c underlying28 Xz E E (f7+c)) ?_;have h2:=L.lt c;refine sV (XR XV E (L.cell Qo)) (sO (Xc E Qog (QeW (x1:=p.getD c 0) Qo (x2:=0) Qo (xc:=y) b8 Qo Qo) E ?_));rintro _ k0 ⟨i,b4,rfl,T,g7,c1,h3,h4⟩;refine sV (XU c underlying28 Xz E E c) ?_;have c2:=O.frm T q1;refine sO (YH E E E Xz c2 (by exact lq) fun f8 U _ x=> ?_);replace x:Blk f8 g 123 (((o++[i])++Xl (a -(c+1)) 0).map u32):=by rw[← (ZE Q (by omega):(o++Xl (a -c) 0).set c i=(o++[i])++Xl (a -(c+1)) 0),UA];exact x
      refine XB (bN (xM c0 (Xr (sMi E (sV (XF (((c:Int))+1) E E wI) (sAi E (XB ?_)))))));have c3:=c1.frm U q1;refine again (a -(c+1)) Qo ⟨c+1,o++[i],b4,E,E,E,E,cI,Frm.mono (J.tr (T.tr U)) q4,?_,?_,?_,?_,?_,?_,?_,?_⟩
      ·exact c3
      ·exact x
      ·omega
      ·omega
      ·simp [Q]
      ·exact ZL K Qo
      ·omega
      ·exact QmP c7 Q (by rw[Qbk (ds:=q) (n:=f) (by omega) c (by omega)];omega)
     ·refine sV (Xq false E E (dF S)) (sK R (cF E (Xe (xE (xE (bE (xM f1 (rS fun k1 c4=>sMs E ?_))))))))
      have f9:Xn g6 (fun b=>b=g) (some ⟨g,0,none⟩) a a (o++Xl (a -c) 0):=Xn.of_blk O E (QbM K) (by exact lq) Qo (by unfold Yc;omega);refine sO (Xc E Qae (Ya f9) E ?_);rintro _ k3 ⟨z,A,B,b5,rfl,c5,C,W,g8⟩;have⟨g9,_,_⟩:=C.lkm;refine sAs E (sAb E (sK c4 (Xt (Qbl (.slice z A B) (.bool true) results179 (XK E) (XK E) ?_))));exact⟨z,A,B,b5,true,E,Frm.mono (((((((M.trans r).trans l).trans G).trans t).rx u).trans J).xr c5) q4,Xn.sub C q5,(by simp;omega),Qu3 W c7 Q K (by omega) (by omega) hcv Z N,(by rw[W];exact XJ _ _),(by omega)⟩
theorem Qb1(ha:Xn w Sa Aa na ca da)(hb:Xn w Sb Ab nb cb db)(hna:na≤1099511627776)(hnb:nb≤1099511627776):Calls prog 227 #[.slice Aa na ca,.slice Ab nb cb] w (Ret fun v w'=> ∃Ar nr cr dr,v=(.slice Ar nr cr)∧Ext w w'∧Xn w' (fun b=>w.heap.size≤b) Ar nr cr dr∧(val dr=val da*val db)∧(nr=na+nb)):=by
 have⟨la,ka,ma⟩:=ha.lkm;replace ha:=ha.low;have⟨lb,kb,mb⟩:=hb.lkm;replace hb:=hb.low;refine enter func227 E ntmps227 E (rS fun K1 d1=>sAs E (sK d1 (rS fun K2 d2=>sMs E (sV (Xw underlying28 E) (sMs E (sV (Xw underlying28 E) (sV (XF (((na:Int))+((nb:Int))) E E wI) (sO (Qaw (na+nb) underlying28 Qai E cI cI Qo Qo fun g w4 f4 P f5 d4=> ?_)))))))));have d5:Blk w4 g 123 (((Xl (na+nb) 0)).map u32):=by rw[Uw];exact d4
 refine sAs E (sK d2 (Xs fun f6 U=>rS fun f7 W=>sMs E (sV (Xw underlying28 E) (sMi E (sK W (Xb ?_))))));refine Ym (fun m e w_=> ∃(i:Nat)(Q:List Nat),m=na -i∧e 1=(.slice Ab nb cb)∧e 5=(.slice (some ⟨g,0,none⟩) (na+nb) (na+nb))∧e 21=(.slice Aa na ca)∧e 22=(.int .i64 na)∧e 23=(.int .i64 i)∧Frm (fun b=>b=g) w4 w_∧Blk w_ g 123 ((Q++Xl (na -i) 0).map u32)∧(i≤na)∧(Q.length=i+nb)∧(∀d∈Q,d<BS)∧(val Q=val (da.take i)*val db)) (na -(0)) ?_ ?_
 ·refine⟨0,Xl nb 0,E,E,E,E,E,cI,Frm.refl _ _,?_,?_,?_,?_,?_⟩
  ·rw[List.replicate_append_replicate,show nb+(na -0)=na+nb by omega];exact d5
  ·omega
  ·simp
  ·intro d hd;simp [BS] at hd⊢;omega
  ·simp [val,QcA]
 ·rintro f8 f9 S ⟨i,Q,e1,X,Y,a0,a1,a2,k,q,hi,hQ,hQt,hv⟩
  obtain⟨g0,rfl⟩:=Qjz X Y a0 a1 a2;refine rS fun g1 t=> ?_
  by_cases u:((i:Int))<((na:Int))
  ·refine sV (Xq true E E (dT u)) (sK t (Xs fun g2 a3=>cT E (Xk (xM a3 (Xs fun g4 x=>Xb (rS fun g5 a4=>sMi E ?_))))))
   have y:=P.rx k;have z:=ha.frmB y q3;obtain⟨d6,T,rfl⟩:=z.base Qo;refine sV (XU i underlying28 Xz E E (T+i)) ?_;have e2:=z.lt i;refine sV (XR XV E (z.cell Qo)) (sAi E (sAi E (sK a4 (Xs fun g6 a5=>rS fun g7 A=>sMi E ?_))))
   by_cases B:(((da.getD i 0:Nat):Int))=0
   ·refine sV (XD true E E (dT B)) (sK A (cT E (Xe (xE (bE (xM x (Xr (sV (XF (((i:Int))+1) E E wI) (sMi E (XB (again (na -(i+1)) Qo ⟨i+1,Q++[0],E,E,E,E,E,cI,k,?_,?_,?_,?_,?_⟩)))))))))))
    ·rw[List.append_assoc,show([0]:List Nat)++Xl (na -(i+1)) 0=Xl (na -i) 0 from QrM (by omega)];exact q
    ·omega
    ·simp [hQ];omega
    ·exact ZL hQt Qo
    ·exact Qrr Qo hv
   ·refine sV (XD false E E (dF B)) (sK A (cF E (Xk (xM a5 (rS fun g8 a6=>sMs E (sMi E (sV (Qah i underlying28 Xz E E Qo Qo Qo Qo i Qo) (sAs E (sK a6 (rS fun g9 a7=>sAi E (sK a7 (Xs fun h0 a8=>rS fun h1 a9=>sMs E (sV (Xw underlying28 E) (sMi E (sK a9 (Xb ?_))))))))))))))))
    refine Ym (fun m e w_=> ∃(j:Nat)(R:List Nat)(cy:Nat),m=nb -j∧e 1=(.slice Ab nb cb)∧e 5=(.slice (some ⟨g,0,none⟩) (na+nb) (na+nb))∧e 7=(.int .u32 (((da.getD i 0:Nat):Int)))∧e 8=(.slice (some ⟨g,i,none⟩) ((na+nb) -i) ((na+nb) -i))∧e 9=(.int .u32 cy)∧e 21=(.slice (some ⟨d6,T,none⟩) na ca)∧e 22=(.int .i64 na)∧e 23=(.int .i64 i)∧e 33=(.slice Ab nb cb)∧e 34=(.int .i64 nb)∧e 35=(.int .i64 j)∧Frm (fun b=>b=g) S w_∧Blk w_ g 123 ((R++Q.drop (i+j)++Xl (na -i) 0).map u32)∧(j≤nb)∧(R.length=i+j)∧(∀d∈R,d<BS)∧(cy<4294967296)∧(val R+BS^ (i+j)*cy=val (Q.take (i+j))+BS^i*(da.getD i 0*val (db.take j)))) (nb -(0)) ?_ ?_
    ·refine⟨0,Q.take i,0,E,E,E,E,E,cI,E,E,E,E,E,cI,Frm.refl _ _,?_,?_,?_,?_,?_,?_⟩
     ·rw[Nat.add_zero,List.take_append_drop];exact q
     ·omega
     ·simp [hQ]
     ·exact fun d hd=>hQt d (List.mem_of_mem_take hd)
     ·omega
     ·simp [val]
    ·rintro h2 h3 h4 ⟨j,R,cy,e3,b0,b1,b2,b3,b4,b5,b6,b7,b8,b9,c0,r,C,hj,hR,hRt,hcy,hw⟩
     obtain⟨h5,rfl⟩:=Qqd b0 b1 b2 b3 b4 b5 b6 b7 b8 b9 c0;refine rS fun h6 D=> ?_
     by_cases F:((j:Int))<((nb:Int))
     ·refine sV (Xq true E E (dT F)) (sK D (Xs fun h7 c1=>cT E (Xk (xM c1 (Xs fun h8 c2=>Xb (rS fun h9 c3=>sMi E ?_))))))
      have G:=hb.frmB (y.trans r) q3;obtain⟨i0,d7,rfl⟩:=G.base Qo;refine sV (XU j underlying28 Xz E E (d7+j)) ?_;have e4:=G.lt j;refine sV (XR XV E (G.cell Qo)) (sAi E (sAi E (sK c3 (rS fun i1 c4=>sMi E (sMi E (sO (Xc E Qit (QdE (x1:=da.getD i 0) Qo (x2:=db.getD j 0) Qo) E ?_)))))));rintro _ i2 ⟨c,l,rfl,I,_,d8,e5⟩;refine sV (v:= .tuple #[.int .u32 c,.int .u32 l]) (E) (sV (v:= .int .u32 c) (E) (sV (v:= .int .u32 l) (E) (sAi E (sAi E (sK c4 (rS fun i3 c5=>sMi E (sMs E (sMi E (sV (XU j underlying28 Xz E E (i+j)) ?_)))))))));have J:=C.ext I;have e6:=getD_lt (ds:=R++Q.drop (i+j)++Xl (na -i) 0) (i:=i+j) (Qwm hRt hQt);refine sV (XR XV E (J.dig (by exact lq))) ?_;have hq:=QuB (Z:=Xl (na -i) 0) hR (show i+j<Q.length by omega);refine sO (Xc E Qbi (ZC (x1:=l) Qo (x2:=(R++Q.drop (i+j)++Xl (na -i) 0).getD (i+j) 0) Qo (x3:=0) Qo Qo) E ?_);rintro _ i4 ⟨n,f,rfl,K,d9,_,e7,_⟩;have i5:=QcM (ha.lt i) (hb.lt j);refine sV (v:= .tuple #[.int .u32 n,.int .u32 f]) (E) (sV (v:= .int .u32 n) (E) (sV (v:= .int .u32 f) (E) (sAi E (sAi E (sK c5 (rS fun i6 c6=>sMi E (sMi E (sV (XF (((c+f:Nat):Int)) E E (Qju Qo)) (sAi E (sK c6 (rS fun i7 c7=>sMi E (sMi E (sO (Xc E Qbi (ZC (x1:=n) Qo (x2:=cy) Qo (x3:=0) Qo Qo) E ?_))))))))))))));rintro _ e8 ⟨a,h,rfl,s,e0,_,e9,_⟩;have hsum:a+4294967296*(c+f+h)=Q.getD (i+j) 0+da.getD i 0*db.getD j 0+cy:=by omega
      have hcc:=Qkl (getD_lt hQt) (ha.lt i) (hb.lt j) hcy hsum;refine sV (v:= .tuple #[.int .u32 a,.int .u32 h]) (E) (sV (v:= .int .u32 a) (E) (sV (v:= .int .u32 h) (E) (sAi E (sAi E (sK c7 (rS fun f0 L=>sMs E (sMi E (sMi E (sV (XU j underlying28 Xz E E (i+j)) ?_)))))))));refine sO (YH E E E Xz (J.ext (K.trans s)) (by exact lq) fun c8 M _ o=> ?_);replace o:Blk c8 g 123 (((R++[a])++Q.drop (i+j+1)++Xl (na -i) 0).map u32):=by rw[← (QuC hR (by omega):(R++Q.drop (i+j)++Xl (na -i) 0).set (i+j) a=(R++[a])++Q.drop (i+j+1)++Xl (na -i) 0),UA];exact o
      refine sK L (Xr (sMi E (sMi E (sV (XF ((((c+f)+h:Nat):Int)) E E (Qju Qo)) (sAi E (XB (bN (xM c2 (Xr (sV (XF (((j:Int))+1) E E wI) (sMi E (XB ?_))))))))))));refine again (nb -(j+1)) Qo ⟨j+1,R++[a],(c+f)+h,E,E,E,E,E,cI,E,E,E,E,E,cI,r.trans (((I.trans K).trans s).rx M),?_,?_,?_,?_,?_,?_⟩
      ·rw[show i+(j+1)=i+j+1 from E];exact o
      ·omega
      ·simp [hR];omega
      ·exact ZL hRt Qo
      ·exact hcc
      ·exact Qrs hw hR Qo
     ·refine sV (Xq false E E (dF F)) (sK D (Xs fun f1 _=>cF E (Xe (xE (xE (bE (xM a8 (Xr (sMs E (sMs E (sV (Xw underlying28 E) (sMi E (sV (XU nb underlying28 Xz E E (i+nb)) (sO (YH E E E Xz C (by exact lq) fun c9 N _ p=> ?_)))))))))))))))
      replace p:Blk c9 g 123 (((R++[cy])++Xl (na -(i+1)) 0).map u32):=by rw[← (QuU (Q:=Q) hR (by omega) (by omega) (by omega):(R++Q.drop (i+j)++Xl (na -i) 0).set (i+nb) cy=(R++[cy])++Xl (na -(i+1)) 0),UA];exact p
      refine XB (bN (xM x (Xr (sV (XF (((i:Int))+1) E E wI) (sMi E (XB ?_))))));refine again (na -(i+1)) Qo ⟨i+1,R++[cy],E,E,E,E,E,cI,k.trans (r.trans N),?_,?_,?_,?_,?_⟩
      ·exact p
      ·omega
      ·simp [hR];omega
      ·exact ZL hRt Qo
      ·exact QuE hw hR Qo Qo hv
  ·refine sV (Xq false E E (dF u)) (sK t (Xs fun f2 _=>cF E (Xe (xE (xE (bE (xM U (rS fun f3 O=>sMs E (sAs E (sK O (Xt (XL (.slice (some ⟨g,0,none⟩) (na+nb) (na+nb)) results227 (XK E) ?_))))))))))))
   have d0:Xn S (fun b=>b=g) (some ⟨g,0,none⟩) (na+nb) (na+nb) (Q++Xl (na -i) 0):=Xn.of_blk q E (QbM hQt) (by exact lq) Qo (by unfold Yc;omega);exact⟨some ⟨g,0,none⟩,na+nb,na+nb,Q++Xl (na -i) 0,E,Frm.mono (P.rx k) q4,Xn.sub d0 q5,(by rw[QdK,hv,YS da (by omega)]),(by omega)⟩
end Go.Proofs.YtnkfdkhjaklolaaGreatDoor
