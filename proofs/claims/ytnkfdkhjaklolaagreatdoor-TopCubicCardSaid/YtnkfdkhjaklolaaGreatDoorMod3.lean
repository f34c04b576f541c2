/-
  Walks of package modpoly: division, greatest common divisors, cofactors.
-/
import Derived.Test.YtnkfdkhjaklolaaGreatDoorMod1
import Derived.Test.YtnkfdkhjaklolaaGreatDoorLibB
import Derived.Test.YtnkfdkhjaklolaaGreatDoorLibA
open List renaming length_nil→Uv,map_append→Uo,map_replicate→Uw,map_set→UA
open Nat renaming mod_lt→UG
namespace Go.Proofs.YtnkfdkhjaklolaaGreatDoor
open Go.RowKit Go.Gx Tryz
open Go renaming wp_seq_k→Xs,wp_ret→Xt,wp_skip→Xk,wp_block→Xb,wp_exit→Xe,wp_region_lit→Xr
open List renaming replicate→Xl
variable{Af Ag:Option Addr}{Sf Sg:Nat→Prop}{cf cg nf ng xp:Nat}{df dg:List Nat}{w:World}
theorem QeV(hf:Xn w Sf Af nf cf df)(bp:xp<4294967296)(hnf:nf≤1048576)(hp:xp=2∨xp=3∨xp=5∨xp=7∨xp=11∨xp=13)(hcf:Qbg xp df):Calls prog 200 #[.slice Af nf cf,.int .u32 xp] w (Ret fun v w'=> ∃Ar nr cr dr,v=(.slice Ar nr cr)∧Ext w w'∧Xn w' (fun b=>w.heap.size≤b) Ar nr cr dr∧(dr=Qg8 xp df)∧(nr≤nf)∧(Qbg xp dr)):=by
 have⟨lf,kf,mf⟩:=hf.lkm;replace hf:=hf.low;refine enter func200 E ntmps200 E ?_;have hpr:=Qlw hp;refine rS fun I q=>sAs E (sK q (Xs fun J r=>rS fun K k=>sMs E (sV (Xw underlying198 E) ?_)))
 by_cases l:((nf:Int))=0
 ·refine sV (XD true E E (dT l)) (sK k (cT E (rS fun L s=>sAs E (sK s (Xt (xR (XL (.slice none 0 0) results200 (XK E) ?_)))))))
  exact⟨none,0,0,[],E,Frm.refl _ _,Xn.nil,(by unfold Qg8;rw[if_pos (by omega)]),(by omega),Qbg.nil⟩
 ·refine sV (XD false E E (dF l)) (sK k (cF E (Xk (xM r (rS fun M t=>sMs E (sMs E (sV (Xw underlying198 E) (sV (XQ (((nf:Int)) -1) E E wI) ?_))))))))
  obtain⟨N,A,rfl⟩:=hf.base Qo;refine sV (XU (nf -1) underlying198 Xz E E (A+(nf -1))) ?_;have C:=hf.lt (nf -1);refine sV (XR XV E (hf.cell (by omega))) (sMi E (sO (Xc E Qok (Qds (xa:=df.getD (nf -1) 0) (by omega) (xm:=xp) (by omega) (by omega) (by have u:=Qmq hpr hcf (by omega);rw[lf] at u;exact u)) E ?_)));rintro _ D ⟨a,d,rfl,c,x,_,m,y⟩;have B:=c.size;refine sV (v:= .tuple #[.int .u32 a,.int .i64 (d)]) (E) (sV (v:= .int .u32 a) (E) (sV (v:= .int .i64 (d)) (E) (sAi E (sAi E (sK t (rS fun F n=>sMs E (sMi E (sMi E ?_))))))));refine sO (Xc E QtO (Qi0 (hf.ext c) (xc:=a) Qo (xm:=xp) Qo Qo Qo) E ?_);rintro _ G ⟨e,f,g,h,rfl,o,i,p,z,j⟩;refine sAs E (sK n (Xt (XL (.slice e f g) results200 (XK E) ?_)));exact⟨e,f,g,h,E,c.trans o,Xn.sub i q5,(by rw[p,m];unfold Qg8 Qwh;rw[if_neg (by omega),lf]),(by omega),j⟩
set_option maxHeartbeats 2000000 in
theorem QhD(hf:Xn w Sf Af nf cf df)(hg:Xn w Sg Ag ng cg dg)(bp:xp<4294967296)(hnf:nf≤1048576)(hng:ng≤1048576)(hp:xp=2∨xp=3∨xp=5∨xp=7∨xp=11∨xp=13)(hcf:Qbg xp df)(hcg:Qbg xp dg)(hng0:0<ng):Calls prog 256 #[.slice Af nf cf,.slice Ag ng cg,.int .u32 xp] w (Ret fun v w'=> ∃Aq nq cq dq Ar nr cr dr,v=(.tuple #[.slice Aq nq cq,.slice Ar nr cr])∧Ext w w'∧Xn w' (fun b=>w.heap.size≤b) Aq nq cq dq∧Xn w' (fun b=>w.heap.size≤b) Ar nr cr dr∧(QgM xp df dg=(dq,dr))∧(Qbg xp dq)∧(Qbg xp dr)∧(nr<ng)∧(nq≤nf+1 -ng)∧(nr≤nf)∧(ng≤nf→0<nq)):=by
 have⟨lf,kf,mf⟩:=hf.lkm;replace hf:=hf.low;have⟨lg,kg,mg⟩:=hg.lkm;replace hg:=hg.low;refine enter func256 E ntmps256 E ?_;have hpr:=Qlw hp;refine rS fun K1 h7=>sAs E (sAs E (sK h7 (rS fun K2 i0=>sMs E (sV (Xw underlying198 E) (sO (Qaw nf underlying198 Qai E cI cI Qo Qo fun f w4 m4 X m5 i1=> ?_))))));have i2:Blk w4 f 123 (((Xl nf 0)).map u32):=by rw[Uw];exact i1
 refine sAs E (sK i0 (rS fun m6 d8=>sMs E (sMs E ?_)));refine sO (QhG underlying198 Xz E E (hf.ext X).1 (Qba _) i2 Qo (by exact lq) fun d4 Y j5 l=> ?_);replace l:Blk d4 f 123 ((df).map u32):=by rw[← (by simp [lf]:(Xl nf 0).take 0++df++(Xl nf 0).drop (0+nf)=df),Uo,Uo,List.map_take,List.map_drop];exact l
 rw[YM];refine sK d8 (rS fun m7 d9=>sMs E (sV (Xw underlying198 E) (sV (XQ (((ng:Int)) -1) E E wI) (sAi E (sK d9 (Xs fun m8 e0=>rS fun m9 Z=>sMs E (sV (Xw underlying198 E) (sMi E ?_))))))))
 by_cases a0:((nf:Int))≤(((ng:Int)) -1)
 ·refine sV (QaM true E E (dT a0)) (sK Z (cT E (rS fun n0 e1=>sMs E (sAs E (sAs E (sK e1 (Xt (xR (Qbl (.slice none 0 0) (.slice (some ⟨f,0,none⟩) nf nf) results256 (XK E) (XK E) ?_)))))))))
  have s:QgM xp df dg=([],df):=(by unfold QgM;rw[if_pos (by omega)]);have⟨k1,k2,k3,k4,k5,k6⟩:=QjY hpr hcf hcg Qo s;have i3:Xn d4 (fun b=>b=f) (some ⟨f,0,none⟩) nf nf (df):=Xn.of_blk l E hf.2 (by exact lq) Qo (by unfold Yc;omega);exact⟨none,0,0,[],some ⟨f,0,none⟩,nf,nf,df,E,Frm.mono (X.rx Y) q4,Xn.nil,Xn.sub i3 q5,s,k1,k2,(by(try simp only[Uv] at *);omega),(by(try simp only[Uv] at *);omega),(by(try simp only[Uv] at *);omega),(fun h9=>by have h8:=k6 (by omega);(try simp only[Uv] at *);omega)⟩
 ·refine sV (QaM false E E (dF a0)) (sK Z (cF E (Xk (xM e0 (rS fun n1 e5=>sMs E (sMi E ?_))))))
  have a1:=X.rx Y;have K:=hg.frmB a1 q3;obtain⟨a2,t,rfl⟩:=K.base Qo;refine sV (XU (ng -1) underlying198 Xz E E (t+(ng -1))) ?_;have k0:=K.lt (ng -1);refine sV (XR XV E (K.cell (by omega))) (sMi E (sO (Xc E Qok (Qds (xa:=dg.getD (ng -1) 0) (by omega) (xm:=xp) (by omega) (by omega) (by have h9:=Qmq hpr hcg (by omega);rw[lg] at h9;exact h9)) E ?_)));rintro _ n2 ⟨c,L,rfl,I,i8,_,e6,i9⟩;have k7:=I.size;refine sV (v:= .tuple #[.int .u32 c,.int .i64 (L)]) (E) (sV (v:= .int .u32 c) (E) (sV (v:= .int .i64 (L)) (E) (sAi E (sAi E (sK e5 (rS fun n3 e7=>sMs E (sV (Xw underlying198 E) (sMi E (sV (XQ (((nf:Int)) -(((ng:Int)) -1)) E E wI) (sO (Qaw (nf -(ng -1)) underlying198 Qai E cI cI Qo Qo fun g d5 k8 a3 k9 e8=> ?_)))))))))));have e9:Blk d5 g 123 (((Xl (nf -(ng -1)) 0)).map u32):=by rw[Uw];exact e8
  refine sAs E (sK e7 (Xs fun n4 f0=>rS fun n5 f1=>sMs E (sV (Xw underlying198 E) (sMi E (sK f1 (Xb ?_))))));have a4:=I.trans a3;refine Ym (fun m e w_=> ∃(k:Nat)(Q:List Nat)(R:List Nat),m=(nf -(ng -1)) -k∧e 1=(.slice (some ⟨a2,t,none⟩) ng cg)∧e 2=(.int .u32 xp)∧e 6=(.slice (some ⟨g,0,none⟩) (nf -(ng -1)) (nf -(ng -1)))∧e 7=(.slice (some ⟨f,0,none⟩) nf nf)∧e 8=(.int .i64 (((ng:Int)) -1))∧e 9=(.int .u32 c)∧e 46=(.int .i64 (((nf -(ng -1):Nat):Int)))∧e 47=(.int .i64 k)∧Frm (fun b=>b=g∨b=f) d5 w_∧Blk w_ g 123 (Q.map u32)∧Blk w_ f 123 (R.map u32)∧(k≤(nf -(ng -1)))∧(Q.length=(nf -(ng -1)))∧(R.length=nf)∧(∀d∈Q,d<xp)∧(∀d∈R,d<xp)∧(QaL xp c dg ((nf -(ng -1)) -k) (Q,R)=QaL xp c dg (nf -(ng -1)) (Xl (nf -(ng -1)) 0,df))) ((nf -(ng -1)) -(0)) ?_ ?_
  ·refine⟨0,Xl (nf -(ng -1)) 0,df,E,E,E,E,E,E,E,E,cI,Frm.refl _ _,?_,?_,?_,?_,?_,?_,?_,?_⟩
   ·exact e9
   ·exact(l.ext a4)
   ·omega
   ·simp
   ·exact lf
   ·intro d hd;rw[List.eq_of_mem_replicate hd];omega
   ·exact hcf.1
   ·rfl
  ·rintro n6 n7 i4 ⟨k,Q,R,l0,f2,f3,f4,f5,f6,f7,f8,f9,n,a5,o,hk,hQl,hRl,hQt,hRt,hG⟩
   obtain⟨n8,rfl⟩:=QsU f2 f3 f4 f5 f6 f7 f8 f9;refine rS fun n9 a6=> ?_
   by_cases a7:((k:Int))<(((nf -(ng -1):Nat):Int))
   ·refine sV (Xq true E E (dT a7)) (sK a6 (Xs fun o0 g0=>cT E (Xk (xM g0 (Xs fun o1 a8=>Xb (rS fun o2 g1=>sMi E (sAi E (sK g1 (rS fun o3 g2=>sMs E (sV (Xw underlying198 E) (sV (XQ ((((nf -(ng -1):Nat):Int)) -1) E E wI) (sMi E (sV (XQ (((((nf -(ng -1):Nat):Int)) -1) -((k:Int))) E E wI) (sAi E (sK g2 (rS fun o4 g4=>sMs E (sMi E (sMi E (sV (XF ((((((nf -(ng -1):Nat):Int)) -1) -((k:Int)))+(((ng:Int)) -1)) E E wI) (sV (XU ((((nf -(ng -1)) -1) -k)+(ng -1)) underlying198 Xz E E ((((nf -(ng -1)) -1) -k)+(ng -1))) ?_))))))))))))))))))))
    have l1:=getD_lt (ds:=R) (i:=(((nf -(ng -1)) -1) -k)+(ng -1)) (Qf4 bp hRt);refine sV (XR XV E (o.dig (by exact lq))) (sMi E (sMi E (sO (Xc E Qk2 (Qeu (xa:=R.getD ((((nf -(ng -1)) -1) -k)+(ng -1)) 0) Qo (xb:=c) Qo (xm:=xp) Qo Qo) E ?_))));rintro _ o5 ⟨a,rfl,p,j0,a9⟩;have d6:a<xp:=(by rw[a9];exact UG _ (by omega));have h63e:a=R.getD ((nf -(ng -1)) -1 -k+(dg.length -1)) 0*c % xp:=(by rw[a9,lg]);refine sAi E (sK g4 (rS fun o6 g5=>sMs E (sMi E (sMi E (sV (XU (((nf -(ng -1)) -1) -k) underlying198 Xz E E (((nf -(ng -1)) -1) -k)) ?_)))));refine sO (YH E E E Xz (a5.ext p) (by exact lq) fun d7 J _ q=> ?_);replace q:Blk d7 g 123 ((Q.set ((nf -(ng -1)) -1 -k) a).map u32):=by rw[UA];exact q
    refine sK g5 (Xs fun o7 g6=>rS fun o8 b0=>sMi E ?_)
    by_cases b1:((a:Int))=0
    ·refine sV (XD true E E (dT b1)) (sK b0 (cT E (Xe (xE (bE (xM a8 (Xr (sV (XF (((k:Int))+1) E E wI) (sMi E (XB ?_))))))))))
     have b2:=p.rx J;have g7:=o.frm b2 q1;refine again ((nf -(ng -1)) -(k+1)) Qo ⟨k+1,Q.set ((nf -(ng -1)) -1 -k) a,R,E,E,E,E,E,E,E,E,cI,Frm.mono (n.tr b2) q4,?_,?_,?_,?_,?_,?_,?_,?_⟩
     ·exact q
     ·exact g7
     ·omega
     ·simp [hQl]
     ·exact hRl
     ·exact Qps hQt d6
     ·exact hRt
     ·rw[show(nf -(ng -1)) -(k+1)=(nf -(ng -1)) -1 -k by omega];exact QqW hG (by omega) h63e (by omega)
    ·refine sV (XD false E E (dF b1)) (sK b0 (cF E (Xk (xM g6 (rS fun o9 g8=>sMi E (sMi E (sV (XQ (((xp -a:Nat):Int)) E E (Qju Qo)) (sV (XY (((xp -a:Nat):Int)) underlying123 underlying75 E (Qbm Qo)) (sAi E (sK g8 (rS fun p0 g9=>sMs E (sV (Xw underlying198 E) (sMi E (sK g9 (Xb ?_)))))))))))))))
     have b3:=p.rx J;have h0:=o.frm b3 q1;refine Ym (fun m e w_=> ∃(j:Nat),m=ng -j∧e 1=(.slice (some ⟨a2,t,none⟩) ng cg)∧e 2=(.int .u32 xp)∧e 6=(.slice (some ⟨g,0,none⟩) (nf -(ng -1)) (nf -(ng -1)))∧e 7=(.slice (some ⟨f,0,none⟩) nf nf)∧e 8=(.int .i64 (((ng:Int)) -1))∧e 9=(.int .u32 c)∧e 12=(.int .i64 (((((nf -(ng -1):Nat):Int)) -1) -((k:Int))))∧e 14=(.int .u64 (((xp -a:Nat):Int)))∧e 46=(.int .i64 (((nf -(ng -1):Nat):Int)))∧e 47=(.int .i64 k)∧e 74=(.slice (some ⟨a2,t,none⟩) ng cg)∧e 75=(.int .i64 ng)∧e 76=(.int .i64 j)∧Frm (fun b=>b=f) d7 w_∧Blk w_ f 123 ((Qbb xp dg ((nf -(ng -1)) -1 -k) (xp -a) j R).map u32)∧(j≤ng)) (ng -(0)) ?_ ?_
     ·refine⟨0,E,E,E,E,E,E,E,E,E,E,E,E,E,cI,Frm.refl _ _,?_,?_⟩
      ·rw[QmW];exact h0
      ·omega
     ·rintro p1 l2 p2 ⟨j,j1,h1,h2,b6,b7,b8,b9,c0,c1,c2,c3,c4,c5,c6,h,M,hj⟩
      obtain⟨l3,rfl⟩:=Qxz h1 h2 b6 b7 b8 b9 c0 c1 c2 c3 c4 c5 c6;have hAl:(Qbb xp dg ((nf -(ng -1)) -1 -k) (xp -a) j R).length=nf:=Qad.trans hRl;refine rS fun l4 N=> ?_
      by_cases O:((j:Int))<((ng:Int))
      ·refine sV (Xq true E E (dT O)) (sK N (Xs fun l5 c7=>cT E (Xk (xM c7 (Xs fun l6 c8=>Xb (rS fun l7 c9=>sMi E (sV (XU j underlying198 Xz E E (t+j)) ?_)))))))
       have b4:=K.frmB ((((a4.rx n).xr p).tr J).tr h) q3;have j2:=b4.lt j;refine sV (XR XV E (b4.cell Qo)) (sAi E (sAi E (sK c9 (XA (fun b=>b=f) mixed fun l8 P _=>dMs 0 E E (dMi 1 E E (dMi 2 E E (dV 3 E (fun _ _=>XF ((((((nf -(ng -1):Nat):Int)) -1) -((k:Int)))+((j:Int))) E E wI) (dMs 4 E E (dMi 5 E E (dMi 6 E E (dV 7 E (fun _ _=>XF ((((((nf -(ng -1):Nat):Int)) -1) -((k:Int)))+((j:Int))) E E wI) (dV 8 E (fun _ _=>XU ((((nf -(ng -1)) -1) -k)+j) underlying198 Xz E E ((((nf -(ng -1)) -1) -k)+j)) (dMi 11 E E (dMi 12 E E (dV 13 E (fun _ _=>XY (((dg.getD j 0:Nat):Int)) underlying123 underlying75 E (Qbm Qo)) ?_)))))))))))))));refine dV 14 E (fun _ _=>Qf3 ((((xp -a)*(dg.getD j 0):Nat):Int)) E E (Qms (QcM Qo Qo))) (dMi 15 E E (dV 16 E (fun _ _=>XY ((xp:Int)) underlying123 underlying75 E (Qbm Qo)) (dV 17 E (fun _ _=>QbK (((((xp -a)*(dg.getD j 0)) % xp:Nat):Int)) E E Qo (Qjd Qo Qo)) ?_)));have p3:=UG ((xp -a)*(dg.getD j 0)) (show 0<xp by omega);refine dMi 19 E E (dV 20 E (fun _ _=>XY ((xp:Int)) underlying123 underlying75 E (Qbm Qo)) ?_);have S:=M.ext P;have j3:=getD_lt (ds:=Qbb xp dg ((nf -(ng -1)) -1 -k) (xp -a) j R) (i:=(((nf -(ng -1)) -1) -k)+j) (Qf4 bp (Qgi hRt Qo));refine dOk 9 E E (oEv (v:= .int .u32 ((((Qbb xp dg ((nf -(ng -1)) -1 -k) (xp -a) j R).getD ((((nf -(ng -1)) -1) -k)+j) 0:Nat):Int))) (XR XV E (S.dig (by exact lq))) E ⟨Frm.refl _ _,dV 10 E (fun _ _=>XY ((((Qbb xp dg ((nf -(ng -1)) -1 -k) (xp -a) j R).getD ((((nf -(ng -1)) -1) -k)+j) 0:Nat):Int)) underlying123 underlying75 E (Qbm Qo)) (dV 18 E (fun _ _=>XF (((((Qbb xp dg ((nf -(ng -1)) -1 -k) (xp -a) j R).getD ((((nf -(ng -1)) -1) -k)+j) 0)+(((xp -a)*(dg.getD j 0)) % xp):Nat):Int)) E E (Qbm Qo)) (dV 21 E (fun _ _=>QbK ((((((Qbb xp dg ((nf -(ng -1)) -1 -k) (xp -a) j R).getD ((((nf -(ng -1)) -1) -k)+j) 0)+(((xp -a)*(dg.getD j 0)) % xp)) % xp:Nat):Int)) E E Qo (Qjd Qo Qo)) ?_))⟩);have l9:=UG ((((Qbb xp dg ((nf -(ng -1)) -1 -k) (xp -a) j R).getD ((((nf -(ng -1)) -1) -k)+j) 0)+(((xp -a)*(dg.getD j 0)) % xp))) (show 0<xp by omega);refine dV 22 E (fun _ _=>XY ((((((Qbb xp dg ((nf -(ng -1)) -1 -k) (xp -a) j R).getD ((((nf -(ng -1)) -1) -k)+j) 0)+(((xp -a)*(dg.getD j 0)) % xp)) % xp:Nat):Int)) underlying75 underlying123 E (Qju ⟨E,by omega,by omega⟩)) (dV 23 E (fun _ _=>XU ((((nf -(ng -1)) -1) -k)+j) underlying198 Xz E E ((((nf -(ng -1)) -1) -k)+j)) (dOk 24 E E (YH E E E Xz S (by exact lq) fun h3 T _ r=> ?_)));replace r:Blk h3 f 123 ((Qbb xp dg ((nf -(ng -1)) -1 -k) (xp -a) (j+1) R).map u32):=by rw[← (QmV (by omega) E:(Qbb xp dg ((nf -(ng -1)) -1 -k) (xp -a) j R).set ((((nf -(ng -1)) -1) -k)+j) ((((Qbb xp dg ((nf -(ng -1)) -1 -k) (xp -a) j R).getD ((((nf -(ng -1)) -1) -k)+j) 0)+(((xp -a)*(dg.getD j 0)) % xp)) % xp)=Qbb xp dg ((nf -(ng -1)) -1 -k) (xp -a) (j+1) R),UA];exact r
       refine⟨T,XG (by kernel_rfl) (bN (xM c8 (Xr (sV (XF (((j:Int))+1) E E wI) (sMi E (XB ?_))))))⟩;refine again (ng -(j+1)) Qo ⟨j+1,E,E,E,E,E,E,E,E,E,E,E,E,E,cI,h.trans (P.rx T),?_,?_⟩
       ·exact r
       ·omega
      ·refine sV (Xq false E E (dF O)) (sK N (Xs fun m0 _=>cF E (Xe (xE (xE (bE (bN (xM a8 (Xr (sV (XF (((k:Int))+1) E E wI) (sMi E (XB ?_))))))))))))
       have d0:=q.frm h q1;refine again ((nf -(ng -1)) -(k+1)) Qo ⟨k+1,Q.set ((nf -(ng -1)) -1 -k) a,Qbb xp dg ((nf -(ng -1)) -1 -k) (xp -a) j R,E,E,E,E,E,E,E,E,cI,Frm.mono (n.tr (b3.tr h)) q4,?_,?_,?_,?_,?_,?_,?_,?_⟩
       ·exact d0
       ·exact M
       ·omega
       ·simp [hQl]
       ·rw[Qad];exact hRl
       ·exact Qps hQt d6
       ·exact Qgi hRt Qo
       ·rw[show(nf -(ng -1)) -(k+1)=(nf -(ng -1)) -1 -k by omega];exact Qud hG (by omega) h63e (by omega) (by omega)
   ·refine sV (Xq false E E (dF a7)) (sK a6 (Xs fun m1 _=>cF E (Xe (xE (xE (bE (xM f0 (rS fun m2 d1=>sMs E ?_))))))))
    have h4:Xn i4 (fun b=>b=g) (some ⟨g,0,none⟩) (nf -(ng -1)) (nf -(ng -1)) (Q):=Xn.of_blk a5 E (Qf4 bp hQt) (by exact lq) Qo (by unfold Yc;omega);refine sO (Xc E Qem (Qak h4) E ?_);rintro _ h5 ⟨u,x,y,z,rfl,U,A,d2,_⟩;have⟨i5,_,_⟩:=A.lkm;refine sMs E ?_;have h6:Xn h5 (fun b=>b=f) (some ⟨f,0,none⟩) nf nf (R):=Xn.of_blk (o.ext U) E (Qf4 bp hRt) (by exact lq) Qo (by unfold Yc;omega);refine sO (Xc E Qem (Qak h6) E ?_);rintro _ m3 ⟨B,C,D,F,rfl,W,G,d3,i6⟩;have⟨i7,_,_⟩:=G.lkm;refine sAs E (sAs E (sK d1 (Xt (Qbl (.slice u x y) (.slice B C D) results256 (XK E) (XK E) ?_))));have s:QgM xp df dg=(z,F):=Que (by omega) (by rw[e6,lg]) hG (by omega) (by omega) d2 d3;have⟨k1,k2,k3,k4,k5,k6⟩:=QjY hpr hcf hcg Qo s;exact⟨u,x,y,z,B,C,D,F,E,Frm.mono (((((a1.xr I).xr a3).tr n).xr U).xr W) q4,Xn.sub (A.ext W) q5,Xn.sub G q5,s,k1,k2,Qo,Qo,Qo,(fun h9=>by have h8:=k6 Qo;omega)⟩
theorem YU(hf:Xn w Sf Af nf cf df)(hg:Xn w Sg Ag ng cg dg)(bp:xp<4294967296)(hnf:nf≤1048576)(hng:ng≤1048576)(hp:xp=2∨xp=3∨xp=5∨xp=7∨xp=11∨xp=13)(hcf:Qbg xp df)(hcg:Qbg xp dg)(hng0:0<ng):Calls prog 252 #[.slice Af nf cf,.slice Ag ng cg,.int .u32 xp] w (Ret fun v w'=> ∃Ar nr cr dr,v=(.slice Ar nr cr)∧Ext w w'∧Xn w' (fun b=>w.heap.size≤b) Ar nr cr dr∧(dr=(QgM xp df dg).2)∧(Qbg xp dr)∧(nr<ng)∧(nr≤nf)):=by
 replace hf:=hf.low;replace hg:=hg.low;refine enter func252 E ntmps252 E (rS fun u n=>sAs E (sK n (rS fun x o=>sMs E (sMs E (sMi E (sO (Xc E QtN (QhD hf hg (xp:=xp) Qo Qo Qo hp hcf hcg Qo) E ?_)))))));rintro _ y ⟨e,f,g,s,a,c,d,i,rfl,p,j,h,q,_,k,t,l,m,_⟩;have⟨l,_,_⟩:=j.lkm;have⟨m,_,_⟩:=h.lkm;refine sV (v:= .tuple #[.slice e f g,.slice a c d]) (E) (sV (v:= .slice e f g) (E) (sV (v:= .slice a c d) (E) (sAs E (sAs E (sK o (rS fun z r=>sMs E (sAs E (sK r (Xt (XL (.slice a c d) results252 (XK E) ?_))))))))));exact⟨a,c,d,i,E,p,Xn.sub h q5,(by rw[q]),k,(by omega),(by omega)⟩
theorem Qg5(hf:Xn w Sf Af nf cf df)(hg:Xn w Sg Ag ng cg dg)(bp:xp<4294967296)(hnf:nf≤1048576)(hng:ng≤1048576)(hp:xp=2∨xp=3∨xp=5∨xp=7∨xp=11∨xp=13)(hcf:Qbg xp df)(hcg:Qbg xp dg):Calls prog 250 #[.slice Af nf cf,.slice Ag ng cg,.int .u32 xp] w (Ret fun v w'=> ∃Ar nr cr dr,v=(.slice Ar nr cr)∧Ext w w'∧Xn w' (fun b=>w.heap.size≤b) Ar nr cr dr∧(dr=Qpb xp df dg)∧(Qbg xp dr)∧(nr≤1048576)):=by
 have⟨lf,kf,mf⟩:=hf.lkm;replace hf:=hf.low;have⟨lg,kg,mg⟩:=hg.lkm;replace hg:=hg.low;refine enter func250 E ntmps250 E ?_;have hpr:=Qlw hp;refine rS fun U B=>sAs E (sK B (Xs fun W C=>Xb ?_));refine Ym (fun m e w_=> ∃(Aa:Option Addr)(na:Nat)(ca:Nat)(da:List Nat)(Ab:Option Addr)(nb:Nat)(cb:Nat)(db:List Nat),m=nb∧e 0=(.slice Aa na ca)∧e 1=(.slice Ab nb cb)∧e 2=(.int .u32 xp)∧Frm (fun b=>False) w w_∧(Xn w_ (fun b=>b<w_.heap.size) Aa na ca da)∧(Xn w_ (fun b=>b<w_.heap.size) Ab nb cb db)∧(Qbg xp da)∧(Qbg xp db)∧(na≤1048576∧nb≤1048576)∧(Qpb xp da db=Qpb xp df dg)) ((ng)) ?_ ?_
 ·refine⟨Af,nf,cf,df,Ag,ng,cg,dg,E,E,E,E,Frm.refl _ _,?_,?_,?_,?_,?_,?_⟩
  ·exact Xn.low hf
  ·exact Xn.low hg
  ·exact hcf
  ·exact hcg
  ·omega
  ·rfl
 ·rintro X M Y ⟨Aa,na,ca,da,Ab,nb,cb,db,N,D,F,G,i,ha,hb,hca,hcb,hnn,hgg⟩
  obtain⟨O,rfl⟩:=Qqe D F G;have L:=i.size;have⟨la,ka,ma⟩:=ha.lkm;have⟨lb,kb,mb⟩:=hb.lkm;refine Xs fun P u=>rS fun Q j=>sMs E (sV (Xw underlying198 E) ?_)
  by_cases k:((nb:Int))>0
  ·refine sV (Yu true E E (dT k)) (sK j (cT E (Xk (xM u (Xb (Xr (sMs E (sMs E (sMs E (sMi E (sO (Xc E Qen (YU ha hb (xp:=xp) Qo Qo Qo hp hca hcb Qo) E ?_))))))))))))
   rintro _ R ⟨n,a,o,p,rfl,l,c,x,q,I,r⟩;have⟨r,_,_⟩:=c.lkm;refine sAs E (sAs E (XB (bN ?_)));refine again ((a)) Qo ⟨Ab,nb,cb,db,n,a,o,p,E,E,E,E,i.trans l,?_,?_,?_,?_,?_,?_⟩
   ·exact Xn.low (hb.ext l)
   ·exact Xn.low c
   ·exact hcb
   ·exact q
   ·omega
   ·rw[x,←Qq8 hpr hca hcb (by omega)];exact hgg
  ·refine sV (Yu false E E (dF k)) (sK j (cF E (Xe (xE (xE (bE (xM C (rS fun S y=>sMs E (sMi E (sO (Xc E Qod (QeV ha (xp:=xp) Qo Qo hp hca) E ?_)))))))))))
   rintro _ T ⟨d,f,g,s,rfl,z,h,A,J,t⟩;have⟨K,_,_⟩:=h.lkm;refine sAs E (sK y (Xt (XL (.slice d f g) results250 (XK E) ?_)));exact⟨d,f,g,s,E,i.trans z,Xn.sub h q5,(by rw[A,←hgg,Quo (by omega)]),t,(by omega)⟩
end Go.Proofs.YtnkfdkhjaklolaaGreatDoor

namespace Go.Proofs.YtnkfdkhjaklolaaGreatDoor
open Go.RowKit Go.Gx Tryz
open Go renaming wp_seq_k→Xs,wp_ret→Xt,wp_skip→Xk,wp_block→Xb,wp_exit→Xe,wp_region_lit→Xr
open List renaming replicate→Xl
variable{Af:Option Addr}{Sf:Nat→Prop}{cf nf xm xp:Nat}{df:List Nat}{w:World}
theorem QeT(hf:Xn w Sf Af nf cf df)(bm:xm<4294967296)(hnf:nf≤1048576)(hm:0<xm):Calls prog 251 #[.slice Af nf cf,.int .u32 xm] w (Ret fun v w'=> ∃Ar nr cr dr,v=(.slice Ar nr cr)∧Ext w w'∧Xn w' (fun b=>w.heap.size≤b) Ar nr cr dr∧(dr=QnK xm (YI (zl df)))∧(nr≤nf)∧(Qbg xm dr)):=by
 have⟨lf,kf,mf⟩:=hf.lkm;replace hf:=hf.low;refine enter func251 E ntmps251 E (rS fun K1 X=>sAs E (sK X (Xs fun K2 Y=>rS fun K3 C=>sMs E (sV (Xw underlying198 E) ?_))))
 by_cases D:((nf:Int))=0
 ·refine sV (XD true E E (dT D)) (sK C (cT E (rS fun K5 Z=>sAs E (sK Z (Xt (xR (XL (.slice none 0 0) results251 (XK E) ?_)))))))
  exact⟨none,0,0,[],E,Frm.refl _ _,Xn.nil,Qt9 lf Qo,Qo,Qbg.nil⟩
 ·refine sV (XD false E E (dF D)) (sK C (cF E (Xk (xM Y (rS fun K6 a0=>sMi E (sV (Qer ((xm:Int)) E E (by split<;>omega)) (sV (XY ((xm:Int)) underlying123 underlying75 E (Qbm Qo)) (sAi E (sK a0 (rS fun K7 a1=>sMs E (sV (Xw underlying198 E) (sV (XQ (((nf:Int)) -1) E E wI) (sO (Qaw (nf -1) underlying198 Qai E cI cI Qo Qo fun c w9 a9 o b0 F=> ?_))))))))))))))
  have G:Blk w9 c 123 (((Xl (nf -1) 0)).map u32):=by rw[Uw];exact F
  refine sAs E (sK a1 (Xs fun b3 I=>rS fun b4 J=>sMs E (sV (Xw underlying198 E) (sMi E (sK J (Xb ?_))))));refine Ym (fun m e w_=> ∃(k:Nat)(L:List Nat),m=(nf -1) -k∧e 0=(.slice Af nf cf)∧e 1=(.int .u32 xm)∧e 5=(.int .u64 xm)∧e 6=(.slice (some ⟨c,0,none⟩) (nf -1) (nf -1))∧e 19=(.int .i64 (((nf -1:Nat):Int)))∧e 20=(.int .i64 k)∧Frm (fun b=>b=c) w9 w_∧Blk w_ c 123 ((L++Xl ((nf -1) -k) 0).map u32)∧(k≤(nf -1))∧(L.length=k)∧(L=(List.range k).map fun i=>md xm (co (YI (zl df)) i))∧(∀d∈L,d<xm)) ((nf -1) -(0)) ?_ ?_
  ·refine⟨0,[],E,E,E,E,E,E,cI,Frm.refl _ _,?_,?_,?_,?_,?_⟩
   ·simpa using G
   ·omega
   ·rfl
   ·rfl
   ·simp
  ·rintro b5 b6 a3 ⟨k,L,b1,K,M,N,O,P,Q,f,p,hk,hLl,hL,hLt⟩
   obtain⟨b7,rfl⟩:=Qid K M N O P Q;refine rS fun b8 q=> ?_
   by_cases r:((k:Int))<(((nf -1:Nat):Int))
   ·refine sV (Xq true E E (dT r)) (sK q (Xs fun b9 R=>cT E (Xk (xM R (Xs fun c0 S=>Xb (rS fun c1 T=>sMi E (sAi E (sK T (XA (fun b=>b=c) mixed fun c2 s _=>dMs 0 E E (dMi 1 E E (dMs 2 E E (dMi 3 E E (dV 4 E (fun _ _=>XF (((k:Int))+1) E E wI) ?_)))))))))))))
    have t:=hf.frmB ((o.rx f).xr s) q3;obtain⟨c3,a4,rfl⟩:=t.base Qo;refine dV 5 E (fun _ _=>XU (k+1) underlying198 Xz E E (a4+(k+1))) ?_;have b2:=t.lt (k+1);refine dV 6 E (fun _ hf=>XR XV E ((t.frm hf q2).cell Qo)) (dMi 7 E E (dV 8 E (fun _ _=>XF (((k:Int))+1) E E wI) (dV 9 E (fun _ _=>XY (((k:Int))+1) underlying3 underlying75 E (Qbm Qo)) (dMi 10 E E (dV 11 E (fun _ _=>QbK ((((k+1) % xm:Nat):Int)) E E Qo (Qjd Qo Qo)) ?_)))));have c4:=UG (k+1) hm;refine dV 12 E (fun _ _=>XY ((((k+1) % xm:Nat):Int)) underlying75 underlying123 E (Qju ⟨E,by omega,by omega⟩)) (dMi 13 E E (dOk 14 E E (Xc E Qk2 (Qeu (xa:=df.getD (k+1) 0) Qo (xb:=(k+1) % xm) Qo (xm:=xm) Qo Qo) E ?_)));rintro _ c5 ⟨a,rfl,u,_,x⟩;refine⟨Frm.of_ext u,?_⟩;refine dV 15 E (fun _ _=>XU k underlying198 Xz E E k) ?_;have y:=s.trans u;refine dOk 16 E E (YH E E E Xz (p.ext y) (by exact lq) fun a5 z _ g=> ?_);replace g:Blk a5 c 123 (((L++[a])++Xl ((nf -1) -(k+1)) 0).map u32):=by rw[← (ZE hLl (by omega):(L++Xl ((nf -1) -k) 0).set k a=(L++[a])++Xl ((nf -1) -(k+1)) 0),UA];exact g
    refine⟨z,XG (by kernel_rfl) (bN (xM S (Xr (sV (XF (((k:Int))+1) E E wI) (sMi E (XB ?_))))))⟩;refine again ((nf -1) -(k+1)) Qo ⟨k+1,L++[a],E,E,E,E,E,E,cI,f.trans (y.rx z),?_,?_,?_,?_,?_⟩
    ·exact g
    ·omega
    ·simp [hLl]
    ·exact Qhe hL (QqT hm x)
    ·exact QeR hLt (by rw[x];exact UG _ (by omega))
   ·refine sV (Xq false E E (dF r)) (sK q (Xs fun c6 _=>cF E (Xe (xE (xE (bE (xM I (rS fun c7 U=>sMs E ?_))))))))
    have a6:Xn a3 (fun b=>b=c) (some ⟨c,0,none⟩) (nf -1) (nf -1) (L++Xl ((nf -1) -k) 0):=Xn.of_blk p E (QbM (Qf4 bm hLt)) (by exact lq) Qo (by unfold Yc;omega);refine sO (Xc E Qem (Qak a6) E ?_);rintro _ c8 ⟨h,j,l,B,rfl,W,n,A,a7⟩;have⟨a8,_,_⟩:=n.lkm;refine sAs E (sK U (Xt (XL (.slice h j l) results251 (XK E) ?_)));exact⟨h,j,l,B,E,Frm.mono ((o.rx f).xr W) q4,Xn.sub n q5,(by rw[A,show(nf -1) -k=0 by omega,List.replicate_zero,List.append_nil,hL,show k=nf -1 by omega,QmC (by rw[Qfo,Qfg,lf])];rfl),(by omega),(by rw[A];exact QbH (Qgn hLt (by omega)))⟩
theorem Qb0(hf:Xn w Sf Af nf cf df)(bp:xp<4294967296)(hnf:nf≤1048576)(hp:xp=2∨xp=3∨xp=5∨xp=7∨xp=11∨xp=13)(hcf:Qbg xp df):Calls prog 198 #[.slice Af nf cf,.int .u32 xp] w (Ret fun v w'=> ∃gr,v=(.bool gr)∧Ext w w'∧(gr=decide ((Qpb xp df (QnK xp (YI (zl df)))).length=1))):=by
 have⟨lf,kf,mf⟩:=hf.lkm;replace hf:=hf.low;refine enter func198 E ntmps198 E (rS fun x g=>sAb E (sK g (rS fun y h=>sMs E (sMs E (sMi E (sO (Xc E QtK (QeT hf (xm:=xp) Qo Qo Qo) E ?_)))))));rintro _ z ⟨k,l,m,n,rfl,b,a,i,o,c⟩;have⟨p,_,_⟩:=a.lkm;refine sMi E ?_;refine sO (Xc E Qoj (Qg5 (hf.ext b) a (xp:=xp) Qo Qo Qo hp hcf c) E ?_);rintro _ u ⟨q,r,s,t,rfl,d,e,j,_,_⟩;have⟨f,_,_⟩:=e.lkm;refine sV (Xw underlying198 E) (sV (XD (decide ((Qpb xp df (QnK xp (YI (zl df)))).length=1)) E E (decide_eq_decide.2 (by rw[←i,←j,f];omega))) (sAb E (sK h (Xt (XL (.bool (decide ((Qpb xp df (QnK xp (YI (zl df)))).length=1))) results198 (XK E) ?_)))));exact⟨decide ((Qpb xp df (QnK xp (YI (zl df)))).length=1),E,b.trans d,E⟩
end Go.Proofs.YtnkfdkhjaklolaaGreatDoor
