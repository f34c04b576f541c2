/-
  Walks of package sturm: chains.
-/
import Derived.Test.YtnkfdkhjaklolaaGreatDoorSq3
import Derived.Test.YtnkfdkhjaklolaaGreatDoorUni6
import Derived.Test.YtnkfdkhjaklolaaGreatDoorLibB
import Derived.Test.YtnkfdkhjaklolaaGreatDoorFacts
import Derived.Test.YtnkfdkhjaklolaaGreatDoorTc0
open List renaming length→Wq,mem_of_getElem?→Ub
namespace Go.Proofs.YtnkfdkhjaklolaaGreatDoor
open Go.RowKit Go.Gx Tryz
open Go renaming wp_seq_k→Xs,wp_ret→Xt,wp_skip→Xk,wp_block→Xb,wp_region_lit→Xr,wp_exit→Xe
variable{Aa Ab Af Ag:Option Addr}{Ma Mb Mf Mg ca cb cf cg na nb nf ng:Nat}{Sa Sb Sf Sg:Nat→Prop}{la lb lf lg:List RI}{w:World}
theorem QaT(hf:Xh w Sf Af nf cf lf Mf)(hnf:nf≤64)(hMf:Mf≤65536):Calls prog 96 #[.slice Af nf cf] w (Ret fun v w'=> ∃Ar nr cr lr,v=(.slice Ar nr cr)∧Ext w w'∧Xh w' (fun b=>w.heap.size≤b) Ar nr cr lr (Mf+1)∧(zs lr=rdP (zs lf))∧(nr≤nf)∧(ZB lr)∧(nr=(Xi (zs lf)).length)):=by
 have⟨kf,jf,mf⟩:=hf.lkm;replace hf:=hf.low;refine enter func96 E ntmps96 E (rS fun K1 M=>sAs E (sK M (Xs fun K2 N=>rS fun K3 A=>sMs E (sO (Xc E QcU (YR hf Qo Qo) E ?_)))));rintro _ w5 ⟨p,a1,a2,a3,q,rfl,r,B,O,_,_⟩;have a6:=r.size;refine sO (Xc E QdM (Yy B) E ?_);rintro _ a7 ⟨C,rfl,c,P⟩;have a4:=c.size;have hsg:=Yr (Xx p q);have hld:Xx p q=ldP (zs lf):=O;rw[hld] at hsg;have he:=P;rw[hld] at he
 by_cases s:C<0
 ·refine sV (Xq true E E (dT s)) (sK A (cT E (rS fun a8 D=>sMs E ?_)))
  have t:=r.trans c;refine sO (Xc E QgC (Zf (hf.ext t) Qo Qo) E ?_);rintro _ a9 ⟨Q,R,S,T,rfl,u,d,F,U,_⟩;have a5:=u.size;have⟨W,_,_⟩:=d.lkm;refine sO (Xc E QkS (QeB d Qo Qo) E ?_);rintro _ b0 ⟨e,f,g,i,rfl,G,j,I,X,y⟩;have⟨Y,_,_⟩:=j.lkm;refine sAs E (sK D (Xt (xR (XL (.slice e f g) results96 (XK E) ?_))));have a:zs i=rdP (zs lf):=by rw[I,F];exact QmD (by omega)
  exact⟨e,f,g,i,E,(t.trans u).trans G,Xh.le (Xh.sub j q5) (by omega),a,(by omega),y,(by have h:=congrArg Wq a;rw[Za,QsQ] at h;omega)⟩
 ·refine sV (Xq false E E (dF s)) (sK A (cF E (Xk (xM N (rS fun b1 J=>sMs E ?_)))))
  have x:=r.trans c;refine sO (Xc E QgC (Zf (hf.ext x) Qo Qo) E ?_);rintro _ b2 ⟨k,l,m,n,rfl,K,o,L,Z,z⟩;have⟨a0,_,_⟩:=o.lkm;refine sAs E (sK J (Xt (XL (.slice k l m) results96 (XK E) ?_)));have a:zs n=rdP (zs lf):=by rw[L];exact QpX (by omega)
  exact⟨k,l,m,n,E,x.trans K,Xh.le (Xh.sub o q5) (by omega),a,(by omega),z,(by have h:=congrArg Wq a;rw[Za,QsQ] at h;omega)⟩
theorem QcR(ha:Xh w Sa Aa na ca la Ma)(hb:Xh w Sb Ab nb cb lb Mb)(hna:na≤4)(hMa:Ma≤10001)(hnb:1≤nb∧nb≤na)(hMb:Mb≤10001)(hlb:ldP (zs lb)≠0):Calls prog 97 #[.slice Aa na ca,.slice Ab nb cb] w (Ret fun v w'=> ∃(Ar nr cr lr:_)(R:List Int),v=(.slice Ar nr cr)∧Ext w w'∧Xh w' (fun b=>w.heap.size≤b) Ar nr cr lr (psM Ma Mb 4+1)∧(PsR (zs la) (zs lb) R)∧(zs lr=Qnm (zs la) (zs lb) R)∧(nr+1≤nb)∧(ZB lr)):=by
 have⟨ka,ja,ma⟩:=ha.lkm;replace ha:=ha.low;have⟨kb,jb,mb⟩:=hb.lkm;replace hb:=hb.low;refine enter func97 E ntmps97 E (rS fun K1 b2=>sAs E (sK b2 (rS fun K2 b3=>sMs E (sMs E (sO (Xc E Qn3 (Qfd ha hb Qo Qo Qo Qo (by assumption)) E ?_))))));rintro _ w4 ⟨z,A,B,e1,C,D,F,d,G,rfl,g,e2,e,_,W,X,Y,_,_⟩;have e8:=g.size;have⟨e3,_,_⟩:=e.lkm;have hps:PsR (zs la) (zs lb) (zs d):=⟨⟨_,W⟩,(by rw[Za];have h:=X;omega),Y⟩;have hK:psM Ma Mb ((Xi (zs la)).length -((Xi (zs lb)).length -1))≤psM Ma Mb 4:=QmA (by have h:=Qbf (zs la);rw[Za] at h;omega);have e9:psM Ma Mb 4≤60000:=(by unfold psM;omega);have htl:=Qbf (zs lb);rw[Za] at htl;refine sV (v:= .tuple #[.slice z A B,.slice C D F,.int .i64 (G)]) (E) (sV (v:= .slice z A B) (E) (sV (v:= .slice C D F) (E) (sV (v:= .int .i64 (G)) (E) (sAs E (sAs E (sAi E (sK b3 (rS fun K9 b4=>sMs E (sV (Xw underlying25 E) (sMs E (sV (Xw underlying25 E) (sV (XQ (((na -nb:Nat):Int)) E E (QaZ Qo)) (sV (XF ((((na -nb:Nat):Int))+1) E E wI) (sV (Qer (((na -nb+1:Nat):Int)) E E Qo) (sAi E (sK b4 (Xs fun f0 I=>rS fun f1 i=>sMi E (sV (QbK ((((na -nb+1) % 2:Nat):Int)) E E Qo (Qjd Qo Qo)) ?_))))))))))))))))))
 by_cases f:((((na -nb+1) % 2:Nat):Int))=1
 ·refine sV (XD true E E (dT f)) ?_
  have hodd:=f;refine sMb E (sEv (v:= .slice Ab nb cb) (E) E E ?_);refine sOp E (Xc E QcU (YR (hb.ext g) Qo Qo) E ?_);rintro _ f2 ⟨b5,b6,b7,b8,b9,rfl,a,M,Z,_,_⟩;have e4:=a.size;refine sOp E (Xc E QdM (Yy M) E ?_);rintro _ f3 ⟨N,rfl,c,a0⟩;have e5:=c.size;have hsg:=Yr (ldP (zs lb));have he:_=(ldP (zs lb)).sign:=a0.trans (congrArg Int.sign (show Xx _ _=ldP (zs lb) from Z))
  by_cases J:N<0
  ·refine sEv (v:= .bool true) (Xq true E E (dT J)) E E ?_
   have hng:ldP (zs lb)<0:=by omega
   refine sV (v:= .bool true) (E) (sK i (cT E (rS fun f4 a1=>sMs E ?_)));refine sO (Xc E QjK (QaT (e.ext (a.trans c)) Qo Qo) E ?_);rintro _ f5 ⟨j,k,l,O,rfl,a2,m,a3,c0,P,c1⟩;have⟨c2,_,_⟩:=m.lkm;refine sAs E (sK a1 (Xt (xR (XL (.slice j k l) results97 (XK E) ?_))));exact⟨j,k,l,O,zs d,E,((g.trans a).trans c).trans a2,Xh.le (Xh.sub m q5) (by omega),hps,(by unfold Qnm;rw[if_pos ⟨by rw[Za,Za];omega,by have h:=hng;omega⟩];exact a3),(by omega),P⟩
  ·refine sEv (v:= .bool false) (Xq false E E (dF J)) E E ?_
   have hng: ¬ldP (zs lb)<0:=by omega
   refine sV (v:= .bool false) (E) (sK i (cF E (Xk (xM I (rS fun f6 a4=>sMs E ?_)))));refine sO (Xc E QjK (QaT (e.ext (a.trans c)) Qo Qo) E ?_);rintro _ f7 ⟨c3,c4,c5,c6,rfl,K,n,a5,c7,_,c8⟩;have e6:=K.size;have⟨c9,_,_⟩:=n.lkm;refine sO (Xc E QkS (QeB n Qo Qo) E ?_);rintro _ f8 ⟨o,p,q,Q,rfl,a6,r,a7,d0,S⟩;have⟨d1,_,_⟩:=r.lkm;refine sAs E (sK a4 (Xt (XL (.slice o p q) results97 (XK E) ?_)));exact⟨o,p,q,Q,zs d,E,(((g.trans a).trans c).trans K).trans a6,Xh.le (Xh.sub r q5) (by omega),hps,(by unfold Qnm;rw[if_neg (fun h=>by have :=hng;omega),a7,a5]),(by omega),S⟩
 ·refine sV (XD false E E (dF f)) ?_
  have hodd:=f;refine sMb E (XH E E (XH E E (XH E E (XH E E (sV (v:= .bool false) (E) (sK i (cF E (Xk (xM I (rS fun f9 a8=>sMs E (sO (Xc E QjK (QaT e Qo Qo) E ?_))))))))))));rintro _ g0 ⟨d2,d3,d4,d5,rfl,L,s,a9,d6,_,d7⟩;have e7:=L.size;have⟨d8,_,_⟩:=s.lkm;refine sO (Xc E QkS (QeB s Qo Qo) E ?_);rintro _ g1 ⟨t,u,x,T,rfl,b0,y,b1,d9,U⟩;have⟨e0,_,_⟩:=y.lkm;refine sAs E (sK a8 (Xt (XL (.slice t u x) results97 (XK E) ?_)));exact⟨t,u,x,T,zs d,E,(g.trans L).trans b0,Xh.le (Xh.sub y q5) (by omega),hps,(by unfold Qnm;rw[if_neg (fun h=>by rw[Za,Za] at h;have :=hodd;omega),b1,a9]),(by omega),U⟩
set_option maxHeartbeats 2000000 in
theorem QlG(hf:Xh w Sf Af nf cf lf Mf)(hg:Xh w Sg Ag ng cg lg Mg)(hnf:nf≤4)(hMf:Mf≤60)(hng:ng≤3∧(Xi (zs lg)).length≤(Xi (zs lf)).length)(hMg:Mg≤60)(hlf:ldP (zs lf)≠0):Calls prog 43 #[.slice Af nf cf,.slice Ag ng cg] w (Ret fun v w'=> ∃(Ar nr cr:_)(lr:List PL)(L:List (List Int)),v=(.slice Ar nr cr)∧Ext w w'∧Xu (PK 16384) w' (fun b=>w.heap.size≤b) Ar nr cr lr∧(zsP lr=rdP (zs lf)::L)∧(StC (rdP (zs lf)) (rdP (zs lg)) L)∧(nr≤5)∧(∀x∈lr,x.n≤4)):=by
 have⟨kf,jf,mf⟩:=hf.lkm;replace hf:=hf.low;have⟨kg,jg,mg⟩:=hg.lkm;replace hg:=hg.low;refine enter func43 E ntmps43 E (rS fun K1 d2=>sAs E (sK d2 (Xs fun K2 d3=>rS fun K3 d4=>sMs E (sO (Xc E QaI (XW hf Qo Qo) E ?_)))));rintro _ w5 ⟨f6,rfl,Q,d5⟩;have h0:=Q.size;have hdf:=QeP hlf;obtain⟨df,hdf⟩:=hdf;refine sV (Xq false E E (dF (by rw[d5,hdf];omega))) (sK d4 (cF E (Xk (xM d3 (rS fun K8 d6=>sMs E ?_)))));have p:=hf.ext Q;refine sO (Xc E QjK (QaT p Qo Qo) E ?_);rintro _ d7 ⟨c,d,g,j,rfl,T,G,U,e6,_,e7⟩;have f7:=T.size;have⟨e8,_,_⟩:=G.lkm;have d8:=G.sub (S':=fun b=>(w5.heap.size≤b)∧b<d7.heap.size) fun _ hb hs=>⟨hs,hb⟩;refine sO (XT [.slice c d g] [[.slice c d g]] underlying57 Qne E E E E E fun q d9 f8 W f9 s=> ?_);replace s:Blk d9 q 25 [.slice c d g]:=s;refine sAs E (sK d6 (Xs fun h1 b6=>XA (fun _=>False) mixed fun h2 t g0=>dMs 0 E E (dV 1 E (fun _ _=>XU 0 underlying57 Qu5 E E 0) ?_)));have X:=s.ext t;refine dV 2 E (fun _ hf=>Xg QcZ E (X.ext hf) E) (dMs 3 E E ?_);have Y:=((Q.trans T).trans W).trans t;refine dOk 4 E E (Xc E QjK (QaT (hg.ext Y) Qo Qo) E ?_);rintro _ Z ⟨a5,I,a6,a7,rfl,h,J,a0,e9,_,f0⟩;refine⟨Frm.of_ext h,?_⟩;have g1:=h.size;have⟨f1,_,_⟩:=J.lkm;refine dAs 5 E E (dAs 6 E E (XG (by kernel_rfl) (xM b6 (Xs fun h3 b7=>Xb ?_))));have b8:=X.ext h;have b1:=d8.ext ((W.trans t).trans h);have hlit:ZX (PK 16384) Z w.heap.size 25 (q+1) (some ⟨q,0,none⟩) 1 1 [(⟨c,d,g,j⟩:PL)] (fun b=>w.heap.size≤b):=ZX.lit Qo b8 (show PL.R 16384 Z _ _ from(Xh.le (Xh.sub b1 q5) Qo));refine Ym (fun m e w_=> ∃(gN:Nat)(Ao:Option Addr)(no:Nat)(co:Nat)(lo:List PL)(A1:Option Addr)(N:Nat)(c1:Nat)(l1:List RI)(O:Nat)(k:Option Addr)(a:Nat)(o:Nat)(i:List RI)(r:Nat),m=a∧e 5=(.slice Ao no co)∧e 6=(.slice A1 N c1)∧e 7=(.slice k a o)∧Frm (fun b=>w.heap.size≤b) Z w_∧(ZX (PK 16384) w_ w.heap.size 25 gN Ao no co lo fun b=>w.heap.size≤b)∧(Xh w_ (fun b=>w.heap.size≤b∧b+1≠gN∧b<w_.heap.size) A1 N c1 l1 O)∧(Xh w_ (fun b=>w.heap.size≤b∧b+1≠gN∧b<w_.heap.size) k a o i r)∧(1≤N∧N≤4∧a≤N)∧(a≤3∧Xi (zs i)=zs i)∧((3≤a→O≤100∧r≤100)∧(a=2→O≤1000∧r≤1000)∧(a=1→O≤10001∧r≤10001)∧r≤60001)∧(no≤5∧no+a≤4∧ ∀x∈lo,x.n≤4)∧(∀L,StC (zs l1) (zs i) L→ ∃P,zsP lo++L=rdP (zs lf)::P∧StC (rdP (zs lf)) (rdP (zs lg)) P)) ((I)) ?_ ?_
 ·refine⟨q+1,(some ⟨q,0,none⟩),1,1,[(⟨c,d,g,j⟩:PL)],c,d,g,j,Mf+1,a5,I,a6,a7,Mg+1,E,E,E,E,Frm.refl _ _,?_,?_,?_,?_,?_,?_,?_,?_⟩
  ·exact hlit
  ·exact Xh.le (Xh.sub b1 q5) Qo
  ·exact Xh.le (Xh.sub J q5) Qo
  ·omega
  ·exact⟨by omega,by rw[a0];exact QpY _⟩
  ·refine⟨?_,?_,?_,?_⟩<;>(try intro _)<;>omega
  ·refine⟨by omega,by omega,fun x hx=> ?_⟩;rw[List.mem_singleton.1 hx];(try dsimp only);omega
  ·intro L hL;rw[U,a0] at hL;exact⟨L,by rw[←U];rfl,hL⟩
 ·rintro h4 h5 h6 ⟨gN,Ao,no,co,lo,A1,N,c1,l1,O,k,a,o,i,r,g2,c4,c5,c6,u,hO,b2,b3,h7,e0,hM,hln,hS⟩
  obtain⟨i0,rfl⟩:=Qqe c4 c5 c6;have g3:=u.size;have⟨k1_,_,_⟩:=b2.lkm;have⟨k2_,_,_⟩:=b3.lkm;have⟨k3_,_,_⟩:=hO.lkm;have lt3_:=hO.lt;refine Xs fun i1 c7=>rS fun i2 a1=>sMs E (sV (Xw underlying25 E) ?_)
  by_cases a2:((a:Int))>0
  ·refine sV (Yu true E E (dT a2)) ?_
   have i3:ldP (zs i)≠0:=QiX e0.2 (by rw[Za];omega);refine sK a1 (cT E (Xk (xM c7 (Xb (rS fun i4 c8=>sMs E (sMs E (sO (XT [.slice k a o] [[.slice k a o]] underlying57 Qne E E E E E fun e1 e2 g4 y g5 A=> ?_))))))));replace A:Blk e2 e1 25 [.slice k a o]:=A;have b4:=b3.ext y;refine sO (QeX (L:=PK 16384) (B:=w.heap.size) (S:=fun b=>w.heap.size≤b) (gN:=gN) (l:=lo) (f:=(⟨k,a,o,i⟩:PL)) underlying57 Qne E E E (hO.ext y) A (Xh.le (Xh.sub b4 q5) Qo) Qo Qo Qo fun e3 e4 c9 i5 C g6 D=> ?_);have g7:=D.size;have⟨_,_,_⟩:=C.lkm;have f2:=C.lt;refine sAs E (sK c8 (Xr (sMs E (sMs E (sMs E ?_)))));have a3:=y.rx D;have e5:=b2.frmB a3 q3;have b5:=b4.frmB D q3;refine sO (Xc E QvS (QcR e5 b5 Qo Qo Qo Qo (by assumption)) E ?_);rintro _ i6 ⟨a8,K,a9,b0,g8,rfl,F,M,d0,a4,f3,_⟩;have⟨f4,_,_⟩:=M.lkm;refine sAs E (sAs E (XB (bN ?_)));refine again ((K)) Qo ⟨c9,e3,no+1,e4,lo++[(⟨k,a,o,i⟩:PL)],k,a,o,i,r,a8,K,a9,b0,psM O r 4+1,E,E,E,E,Frm.mono (u.tr (a3.xr F)) q4,?_,?_,?_,?_,?_,?_,?_,?_⟩
   ·exact(C.ext F)
   ·exact Xh.le (Xh.sub (b5.ext F) q5) Qo
   ·exact Xh.le (Xh.sub M q5) Qo
   ·omega
   ·exact⟨by omega,by rw[a4];exact QpF _ _ _⟩
   ·have p:=hM
    unfold psM;refine⟨fun _=> ?_,fun _=> ?_,fun _=> ?_,?_⟩<;>omega
   ·refine⟨by omega,by omega,fun x hx=> ?_⟩;rcases List.mem_append.1 hx with p|p;exact hln.2.2 x p;rw[List.mem_singleton.1 p];(try dsimp only);omega
   ·intro L hL;rw[a4] at hL;obtain⟨P,h1_,h2_⟩:=hS (zs i::L) (.more (fun p=>by have h8:=congrArg Wq p;rw[Za,List.length_nil] at h8;omega) d0 hL);exact⟨P,by rw[←h1_];unfold zsP;simp [PL.z],h2_⟩
  ·refine sV (Yu false E E (dF a2)) (sK a1 (cF E (Xe (xE (xE (bE (xM b7 (rS fun i7 d1=>sMs E (sAs E (sK d1 (Xt (XL (.slice Ao no co) results43 (XK E) ?_))))))))))))
   obtain⟨P,h1_,h2_⟩:=hS [] (by rw[show zs i=[] from List.eq_nil_of_length_eq_zero (by rw[Za];omega)];exact .done _);rw[List.append_nil] at h1_;exact⟨Ao,no,co,lo,P,E,Frm.mono ((Y.trans h).rx u) q4,ZX.list hO q5,h1_,h2_,Qo,hln.2.2⟩
theorem QmO(hf:Xh w Sf Af nf cf lf Mf)(hnf:nf≤4)(hMf:Mf≤50)(hlf:ldP (zs lf)≠0)(hdg:(Xi (YI (zs lf))).length≤3∧(Xi (YI (zs lf))).length≤(Xi (zs lf)).length):Calls prog 19 #[.slice Af nf cf] w (Ret fun v w'=> ∃(Ar nr cr:_)(lr:List PL)(L:List (List Int)),v=(.slice Ar nr cr)∧Ext w w'∧Xu (PK 16384) w' (fun b=>w.heap.size≤b) Ar nr cr lr∧(zsP lr=rdP (zs lf)::L)∧(StC (rdP (zs lf)) (rdP (Xi (YI (zs lf)))) L)∧(nr≤5)∧(∀x∈lr,x.n≤4)):=by
 have⟨kf,jf,mf⟩:=hf.lkm;replace hf:=hf.low;refine enter func19 E ntmps19 E (rS fun D p=>sAs E (sK p (rS fun F q=>sMs E (sMs E (sO (Xc E QjG (ZH hf Qo Qo) E ?_))))));rintro _ G ⟨u,i,y,j,rfl,a,c,d,_,_⟩;have B:=a.size;have⟨z,_,_⟩:=c.lkm;have hdl:i≤3∧(Xi (zs j)).length≤(Xi (zs lf)).length:=by have h:=congrArg Wq d;rw[Za] at h;rw[d,Qcg];omega
 refine sO (Xc E QvD (QlG (hf.ext a) c Qo Qo Qo Qo (by assumption)) E ?_);rintro _ C ⟨e,f,g,k,r,rfl,l,m,s,t,A,o⟩;refine sAs E (sK q (Xt (XL (.slice e f g) results19 (XK E) ?_)));exact⟨e,f,g,k,r,E,a.trans l,Xu.sub m q5,s,(by rw[←d];exact t),(by omega),o⟩
end Go.Proofs.YtnkfdkhjaklolaaGreatDoor

namespace Go.Proofs.YtnkfdkhjaklolaaGreatDoor
open Go.RowKit Go.Gx Tryz
open Go renaming wp_seq_k→Xs,wp_ret→Xt,wp_skip→Xk,wp_block→Xb,wp_region_lit→Xr,wp_exit→Xe
variable{Af Al:Option Addr}{Mf cf cl nf nl pc:Nat}{Sc Sf Sl:Nat→Prop}{gc gm:Bool}{lf:List RI}{ll:List PL}{qc:QE}{w:World}
theorem Qhs(hf:Xh w Sf Af nf cf lf Mf)(hnf:nf≤8)(hMf:Mf≤32768):Calls prog 95 #[.slice Af nf cf,.bool gm] w (Ret fun v w'=> ∃xr,v=(.int .i64 (xr))∧Ext w w'∧(xr=Qbx (Xi (zs lf)) gm)):=by
 have⟨kf,jf,mf⟩:=hf.lkm;replace hf:=hf.low;refine enter func95 E ntmps95 E (rS fun I s=>sAi E (sK s (rS fun J t=>sMs E (sO (Xc E QcU (YR hf Qo Qo) E ?_)))));rintro _ K ⟨l,x,y,z,m,rfl,k,n,e,_,_⟩;refine sO (Xc E QdM (Yy n) E ?_);rintro _ L ⟨a,rfl,f,g⟩;have hsg:=Yr (Xx l m);refine sAi E (sK t (Xs fun A i=>rS fun B c=>sMb E (sMb E ?_)))
 cases gm
 ·refine XH E E (XH E E (XH E E (XH E E (sV (v:= .bool false) (E) (sK c (cF E (Xk (xM i (rS fun C o=>sMi E (sAi E (sK o (Xt (XL (.int .i64 (a)) results95 (XK E) ?_)))))))))))))
  exact⟨a,E,k.trans f,(by rw[g,e];unfold Qbx;rw[if_neg (by simp)])⟩
 ·refine sEv (v:= .slice Af nf cf) (E) E E ?_
  have d:=k.trans f;refine sOp E (Xc E QaI (XW (hf.ext d) Qo Qo) E ?_);rintro _ D ⟨u,rfl,j,p⟩;refine sEv (v:= .int .i64 ((((Xi (zs lf)).length:Int) -1).tmod 2)) (QbK ((((Xi (zs lf)).length:Int) -1).tmod 2) E E (by omega) (by rw[p])) E E ?_
  by_cases b:((((Xi (zs lf)).length:Int) -1).tmod 2)≠0
  ·refine sEv (v:= .bool true) (ZI true E E (dT b)) E E (sV (v:= .bool true) (E) (sK c (cT E (rS fun F q=>sMi E (sV (Qq0 (-(a)) E (QaZ Qo)) (sAi E (sK q (Xt (xR (XL (.int .i64 (-(a))) results95 (XK E) ?_))))))))))
   exact⟨-(a),E,d.trans j,(by rw[g,e];unfold Qbx;rw[if_pos ⟨E,b⟩])⟩
  ·refine sEv (v:= .bool false) (ZI false E E (dF b)) E E (sV (v:= .bool false) (E) (sK c (cF E (Xk (xM i (rS fun G r=>sMi E (sAi E (sK r (Xt (XL (.int .i64 (a)) results95 (XK E) ?_))))))))))
   exact⟨a,E,d.trans j,(by rw[g,e];unfold Qbx;rw[if_neg fun h=>b h.2])⟩
theorem QnA(hf:Xh w Sf Af nf cf lf Mf)(Bc:Blk w pc 41 [.bool qc.g,.slice qc.A qc.n qc.c,.slice qc.Av qc.nv qc.cv])(hc:QR 64 w Sc qc)(hnf:nf≤8)(hMf:Mf≤32768):Calls prog 175 #[.slice Af nf cf,.pointer (some ⟨pc,0,none⟩)] w (Ret fun v w'=> ∃xr,v=(.int .i64 (xr))∧Ext w w'∧(xr=sgQ (evQ (zs lf) qc.v))):=by
 replace hf:=hf.low;replace hc:QR 64 w (fun b=>b<w.heap.size) qc:=hc.sub fun _ hb _=>hb;refine enter func175 E ntmps175 E (rS fun i d=>sAi E (sK d (rS fun j e=>sMs E (sV (Xa (Yq qc.g qc.A qc.n qc.c qc.Av qc.nv qc.cv) XS Yn E Bc E) (sO (Xc E QdY (YB hf hc Qo Qo) E ?_))))));rintro _ k ⟨a,rfl,f,h⟩;refine sAi E (sK e (Xt (XL (.int .i64 (a)) results175 (XK E) ?_)));exact⟨a,E,f,h⟩
theorem Qjn(hf:Xh w Sf Af nf cf lf Mf)(Bc:Blk w pc 4 [.bool gc])(hnf:nf≤8)(hMf:Mf≤32768):Calls prog 94 #[.slice Af nf cf,.pointer (some ⟨pc,0,none⟩)] w (Ret fun v w'=> ∃xr,v=(.int .i64 (xr))∧Ext w w'∧(xr=Qbx (Xi (zs lf)) gc)):=by
 replace hf:=hf.low;refine enter func94 E ntmps94 E (rS fun f b=>sAi E (sK b (rS fun g c=>sMs E (sV (Xg Qc0 E Bc E) (sO (Xc E QvR (Qhs hf Qo Qo) E ?_))))));rintro _ h ⟨a,rfl,d,e⟩;refine sAi E (sK c (Xt (XL (.int .i64 (a)) results94 (XK E) ?_)));exact⟨a,E,d,e⟩
theorem Qgc(hl:Xu (PK 16384) w (Sl) Al nl cl ll)(Bc:Blk w pc 41 [.bool qc.g,.slice qc.A qc.n qc.c,.slice qc.Av qc.nv qc.cv])(hc:QR 64 w Sc qc)(hnl:nl≤5)(hle: ∀x∈ll,x.n≤4):Calls prog 93 #[(.slice Al nl cl),.func (.func 175) #[] #[.pointer (some ⟨pc,0,none⟩)]] w (Ret fun v w'=> ∃xr,v=(.int .i64 (xr))∧Ext w w'∧(xr=chg ((zsP ll).map fun F=>sgQ (evQ F qc.v)))):=by
 have⟨kl,jl,ml⟩:=hl.lkm;replace hl:=hl.low;replace hc:QR 64 w (fun b=>b<w.heap.size) qc:=hc.sub fun _ hb _=>hb;refine enter func93 E ntmps93 E (rS fun K2 a1=>sAi E (sK a1 (rS fun K3 a2=>sAi E (sAi E (sK a2 (Xs fun K4 a3=>rS fun K5 a4=>sMs E (sV (Xw underlying57 E) (sMi E (sK a4 (Xb ?_))))))))));refine Ym (fun m e w_=> ∃(i:Nat)(c:Int)(t:Int),m=nl -i∧e 1=(.func (.func 175) #[] #[.pointer (some ⟨pc,0,none⟩)])∧e 5=(.int .i64 (c))∧e 6=(.int .i64 (t))∧e 10=(.slice Al nl cl)∧e 11=(.int .i64 nl)∧e 12=(.int .i64 i)∧Frm (fun b=>False) w w_∧(i≤nl)∧(-1≤t∧t≤1)∧(QjN ((zsP (ll.take i)).map fun F=>sgQ (evQ F qc.v)) (0,0)=(c,t))) (nl -(0)) ?_ ?_
 ·refine⟨0,0,0,E,E,cI,cI,E,E,cI,Frm.refl _ _,?_,?_,?_⟩
  ·omega
  ·omega
  ·exact QjP _ _
 ·rintro m6 b1 O ⟨i,c,t,a7,a5,a6,P,Q,S,T,d,hi,ht,hI⟩
  obtain⟨b2,rfl⟩:=Qid a5 a6 P Q S T;have hcr:=QeJ ((zsP (ll.take i)).map fun F=>sgQ (evQ F qc.v)) (0,0) (Int.le_refl 0);rw[hI] at hcr;have hlm:((zsP (ll.take i)).map fun F=>sgQ (evQ F qc.v)).length≤5:=(by unfold zsP;simp;omega);dsimp only at hcr;refine rS fun b3 G=> ?_
  by_cases I:((i:Int))<((nl:Int))
  ·refine sV (Xq true E E (dT I)) (sK G (Xs fun b4 U=>cT E (Xk (xM U (Xs fun b5 y=>Xb (rS fun b6 W=> ?_))))))
   have N:=hl.ext d;obtain⟨b7,J,rfl⟩:=N.base Qo;refine sV (XU i underlying57 Qu5 E E (J+i)) ?_;obtain⟨⟨z,B,C,q⟩,h,r,f,_,_⟩:=Xu.get (k:=1) (i:=i) (p:=J+i) N Qo E Qo;replace r:XP O _ (J+i) [.slice z B C]:=r;replace f:PL.R 16384 O (fun b=>b<w.heap.size) (⟨z,B,C,q⟩:PL):=f;replace f:Xh O (fun b=>b<w.heap.size) z B C q 16384:=f;have⟨a8,a9,b0⟩:=f.lkm;have hl4_32:=hle _ (Ub h)
   dsimp only at hl4_32
   refine sV (XR QcZ E (XP.one r (j:=0) E Qo)) (sAs E (sK W (rS fun b8 X=>sV (v:= .func (.func 175) #[] #[.pointer (some ⟨pc,0,none⟩)]) (E) (sMs E ?_))));refine sO (Xc E Qtp (QnA f (Bc.ext d) (hc.ext d) Qo Qo) E ?_);rintro _ b9 ⟨a,rfl,D,l⟩;refine sAi E (sK X (Xs fun c0 Y=>rS fun c1 K=>sMi E ?_))
   by_cases o:a=0
   ·refine sV (XD true E E (dT o)) (sK K (cT E (Xe (xE (bE (xM y (Xr (sV (XF (((i:Int))+1) E E wI) (sMi E (XB (again (nl -(i+1)) Qo ⟨i+1,c,t,E,E,cI,cI,E,E,cI,d.trans D,?_,?_,?_⟩)))))))))))
    ·omega
    ·omega
    ·exact QdG (s:=a) hI h l (by rw[if_pos o])
   ·refine sV (XD false E E (dF o)) (sK K (cF E (Xk (xM Y (Xs fun c2 L=>rS fun c3 M=>sMi E (sMi E (sV (Qq0 (-(t)) E (QaZ Qo)) ?_)))))))
    by_cases u:a=(-(t))
    ·refine sV (XD true E E (dT u)) (sK M (cT E (Xr (sMi E (sV (XF (c+1) E E wI) (sAi E (sK L (Xr (sMi E (sAi E (XB (bN (xM y (Xr (sV (XF (((i:Int))+1) E E wI) (sMi E (XB (again (nl -(i+1)) Qo ⟨i+1,c+1,a,E,E,cI,cI,E,E,cI,d.trans D,?_,?_,?_⟩))))))))))))))))))
     ·omega
     ·have Z:=Qp5 (evQ (zs q) qc.v)
      rw[←l] at Z;omega
     ·exact QdG (s:=a) hI h l (by rw[if_neg o,if_pos u])
    ·refine sV (XD false E E (dF u)) (sK M (cF E (Xk (xM L (Xr (sMi E (sAi E (XB (bN (xM y (Xr (sV (XF (((i:Int))+1) E E wI) (sMi E (XB (again (nl -(i+1)) Qo ⟨i+1,c,a,E,E,cI,cI,E,E,cI,d.trans D,?_,?_,?_⟩)))))))))))))))
     ·omega
     ·have Z:=Qp5 (evQ (zs q) qc.v)
      rw[←l] at Z;omega
     ·exact QdG (s:=a) hI h l (by rw[if_neg o,if_neg u])
  ·refine sV (Xq false E E (dF I)) (sK G (Xs fun c4 _=>cF E (Xe (xE (xE (bE (xM a3 (rS fun c5 a0=>sMi E (sAi E (sK a0 (Xt (XL (.int .i64 (c)) results93 (XK E) ?_))))))))))))
   exact⟨c,E,d,QoC hI Qo⟩
theorem QfE(hl:Xu (PK 16384) w (Sl) Al nl cl ll)(Bc:Blk w pc 4 [.bool gc])(hnl:nl≤5)(hle: ∀x∈ll,x.n≤4):Calls prog 93 #[(.slice Al nl cl),.func (.func 94) #[] #[.pointer (some ⟨pc,0,none⟩)]] w (Ret fun v w'=> ∃xr,v=(.int .i64 (xr))∧Ext w w'∧(xr=chg ((zsP ll).map fun F=>Qbx (Xi F) gc))):=by
 have⟨kl,jl,ml⟩:=hl.lkm;replace hl:=hl.low;refine enter func93 E ntmps93 E (rS fun K1 Y=>sAi E (sK Y (rS fun K2 Z=>sAi E (sAi E (sK Z (Xs fun K3 a0=>rS fun K4 a1=>sMs E (sV (Xw underlying57 E) (sMi E (sK a1 (Xb ?_))))))))));refine Ym (fun m e w_=> ∃(i:Nat)(c:Int)(t:Int),m=nl -i∧e 1=(.func (.func 94) #[] #[.pointer (some ⟨pc,0,none⟩)])∧e 5=(.int .i64 (c))∧e 6=(.int .i64 (t))∧e 10=(.slice Al nl cl)∧e 11=(.int .i64 nl)∧e 12=(.int .i64 i)∧Frm (fun b=>False) w w_∧(i≤nl)∧(-1≤t∧t≤1)∧(QjN ((zsP (ll.take i)).map fun F=>Qbx (Xi F) gc) (0,0)=(c,t))) (nl -(0)) ?_ ?_
 ·refine⟨0,0,0,E,E,cI,cI,E,E,cI,Frm.refl _ _,?_,?_,?_⟩
  ·omega
  ·omega
  ·exact QjP _ _
 ·rintro m5 a9 M ⟨i,c,t,a5,a2,a3,a4,N,O,P,d,hi,ht,hI⟩
  obtain⟨b0,rfl⟩:=Qid a2 a3 a4 N O P;have hcr:=QeJ ((zsP (ll.take i)).map fun F=>Qbx (Xi F) gc) (0,0) (Int.le_refl 0);rw[hI] at hcr;have hlm:((zsP (ll.take i)).map fun F=>Qbx (Xi F) gc).length≤5:=(by unfold zsP;simp;omega);dsimp only at hcr;refine rS fun b1 C=> ?_
  by_cases D:((i:Int))<((nl:Int))
  ·refine sV (Xq true E E (dT D)) (sK C (Xs fun b2 Q=>cT E (Xk (xM Q (Xs fun b3 u=>Xb (rS fun b4 S=> ?_))))))
   have L:=hl.ext d;obtain⟨b5,G,rfl⟩:=L.base Qo;refine sV (XU i underlying57 Qu5 E E (G+i)) ?_;obtain⟨⟨y,z,A,o⟩,g,q,f,_,_⟩:=Xu.get (k:=1) (i:=i) (p:=G+i) L Qo E Qo;replace q:XP M _ (G+i) [.slice y z A]:=q;replace f:PL.R 16384 M (fun b=>b<w.heap.size) (⟨y,z,A,o⟩:PL):=f;replace f:Xh M (fun b=>b<w.heap.size) y z A o 16384:=f;have⟨a6,a7,a8⟩:=f.lkm;have hl4_31:=hle _ (Ub g)
   dsimp only at hl4_31
   refine sV (XR QcZ E (XP.one q (j:=0) E Qo)) (sAs E (sK S (rS fun b6 T=>sV (v:= .func (.func 94) #[] #[.pointer (some ⟨pc,0,none⟩)]) (E) (sMs E ?_))));refine sO (Xc E QvQ (Qjn f (Bc.ext d) Qo Qo) E ?_);rintro _ b7 ⟨a,rfl,B,h⟩;refine sAi E (sK T (Xs fun b8 U=>rS fun b9 I=>sMi E ?_))
   by_cases l:a=0
   ·refine sV (XD true E E (dT l)) (sK I (cT E (Xe (xE (bE (xM u (Xr (sV (XF (((i:Int))+1) E E wI) (sMi E (XB (again (nl -(i+1)) Qo ⟨i+1,c,t,E,E,cI,cI,E,E,cI,d.trans B,?_,?_,?_⟩)))))))))))
    ·omega
    ·omega
    ·exact QdG (s:=a) hI g h (by rw[if_pos l])
   ·refine sV (XD false E E (dF l)) (sK I (cF E (Xk (xM U (Xs fun c0 J=>rS fun c1 K=>sMi E (sMi E (sV (Qq0 (-(t)) E (QaZ Qo)) ?_)))))))
    by_cases r:a=(-(t))
    ·refine sV (XD true E E (dT r)) (sK K (cT E (Xr (sMi E (sV (XF (c+1) E E wI) (sAi E (sK J (Xr (sMi E (sAi E (XB (bN (xM u (Xr (sV (XF (((i:Int))+1) E E wI) (sMi E (XB (again (nl -(i+1)) Qo ⟨i+1,c+1,a,E,E,cI,cI,E,E,cI,d.trans B,?_,?_,?_⟩))))))))))))))))))
     ·omega
     ·have W:=QmL (Xi (zs o)) gc
      rw[←h] at W;omega
     ·exact QdG (s:=a) hI g h (by rw[if_neg l,if_pos r])
    ·refine sV (XD false E E (dF r)) (sK K (cF E (Xk (xM J (Xr (sMi E (sAi E (XB (bN (xM u (Xr (sV (XF (((i:Int))+1) E E wI) (sMi E (XB (again (nl -(i+1)) Qo ⟨i+1,c,a,E,E,cI,cI,E,E,cI,d.trans B,?_,?_,?_⟩)))))))))))))))
     ·omega
     ·have W:=QmL (Xi (zs o)) gc
      rw[←h] at W;omega
     ·exact QdG (s:=a) hI g h (by rw[if_neg l,if_neg r])
  ·refine sV (Xq false E E (dF D)) (sK C (Xs fun c2 _=>cF E (Xe (xE (xE (bE (xM a0 (rS fun c3 X=>sMi E (sAi E (sK X (Xt (XL (.int .i64 (c)) results93 (XK E) ?_))))))))))))
   exact⟨c,E,d,QoC hI Qo⟩
theorem ZS(hl:Xu (PK 16384) w (Sl) Al nl cl ll)(hc:QR 64 w (Sc) qc)(hnl:nl≤5)(hle: ∀x∈ll,x.n≤4):Calls prog 118 #[(.slice Al nl cl),qc.val] w (Ret fun v w'=> ∃xr,v=(.int .i64 (xr))∧Ext w w'∧(xr=chg ((zsP ll).map fun F=>sgQ (evQ F qc.v)))):=by
 replace hl:=hl.low;replace hc:QR 64 w (fun b=>b<w.heap.size) qc:=(QK 64).sub hc fun _ hb _=>hb;refine enter func118 E ntmps118 E (rS fun m h=>sO (Ys (Yq qc.g qc.A qc.n qc.c qc.Av qc.nv qc.cv) E E fun k o _ d _ i=>sAi E (sK h (rS fun p j=>sMs E (sV (v:= .func (.func 175) #[] #[.pointer (some ⟨k,0,none⟩)]) (evK (by kernel_rfl)) ?_)))));refine sO (Xc E Qsn (Qgc (hl.ext d) i (hc.ext d) Qo (by assumption)) E ?_);rintro _ l ⟨a,rfl,e,f⟩;refine sAi E (sK j (Xt (XL (.int .i64 (a)) results118 (XK E) ?_)));exact⟨a,E,d.trans e,f⟩
theorem QbT(hl:Xu (PK 16384) w (Sl) Al nl cl ll)(hnl:nl≤5)(hle: ∀x∈ll,x.n≤4):Calls prog 42 #[(.slice Al nl cl),.bool gc] w (Ret fun v w'=> ∃xr,v=(.int .i64 (xr))∧Ext w w'∧(xr=ends (zsP ll) gc)):=by
 replace hl:=hl.low;refine enter func42 E ntmps42 E (rS fun j e=>sO (Ys [.bool gc] E E fun h k _ b _ f=>sAi E (sK e (rS fun l g=>sMs E (sV (v:= .func (.func 94) #[] #[.pointer (some ⟨h,0,none⟩)]) (evK (by kernel_rfl)) ?_)))));refine sO (Xc E Qsn (QfE (hl.ext b) f Qo (by assumption)) E ?_);rintro _ i ⟨a,rfl,c,d⟩;refine sAi E (sK g (Xt (XL (.int .i64 (a)) results42 (XK E) ?_)));exact⟨a,E,b.trans c,d⟩
theorem Qgd(hl:Xu (PK 16384) w (Sl) Al nl cl ll)(hnl:nl≤5)(hle: ∀x∈ll,x.n≤4):Calls prog 18 #[(.slice Al nl cl)] w (Ret fun v w'=> ∃xr,v=(.int .i64 (xr))∧Ext w w'∧(xr=lost (zsP ll))):=by
 have⟨kl,jl,ml⟩:=hl.lkm;replace hl:=hl.low;refine enter func18 E ntmps18 E (rS fun i e=>sAi E (sK e (rS fun j f=>sMs E (sO (Xc E Qsg (QbT hl Qo (by assumption)) E ?_)))));rintro _ k ⟨a,rfl,c,g⟩;refine sMs E ?_;refine sO (Xc E Qsg (QbT (hl.ext c) Qo (by assumption)) E ?_);rintro _ l ⟨b,rfl,d,h⟩;have hra:=Ql6 (zsP ll) true;have hrb:=Ql6 (zsP ll) false;have hzl:(zsP ll).length≤5:=(by unfold zsP;simp;omega);refine sV (XQ (a -b) E E (QaZ Qo)) (sAi E (sK f (Xt (XL (.int .i64 (a -b)) results18 (XK E) ?_))));exact⟨a -b,E,c.trans d,(by rw[g,h];rfl)⟩
end Go.Proofs.YtnkfdkhjaklolaaGreatDoor
