/-
  Walks of package natural: shifts.
-/
import Derived.Test.YtnkfdkhjaklolaaGreatDoorNat5
open List renaming map_replicate→Uw,map_set→UA
namespace Go.Proofs.YtnkfdkhjaklolaaGreatDoor
open Go.RowKit Go.Gx Tryz
open Go renaming wp_seq_k→Xs,wp_ret→Xt,wp_skip→Xk,wp_block→Xb,wp_region_lit→Xr,wp_exit→Xe
open List renaming replicate→Xl
variable{Aa:Option Addr}{Sa:Nat→Prop}{ca na xn:Nat}{da:List Nat}{w:World}
set_option maxHeartbeats 1000000 in
theorem Qev(ha:Xn w Sa Aa na ca da)(bn:xn≤9223372036854775807)(hna:na≤549755813888)(hxn:xn≤16777216):Calls prog 226 #[.slice Aa na ca,.int .i64 xn] w (Ret fun v w'=> ∃Ar nr cr dr,v=(.slice Ar nr cr)∧Ext w w'∧Xn w' (fun b=>w.heap.size≤b) Ar nr cr dr∧(val dr=val da*2^xn)∧(Canon isZ dr)∧(nr≤na+xn/32+1)):=by
 have⟨la,ka,ma⟩:=ha.lkm;replace ha:=ha.low;refine enter func226 E ntmps226 E (rS fun K1 b6=>sAs E (sK b6 (rS fun K2 b7=>sMs E (sO (Xc E Qae (Ya ha) E ?_)))));rintro _ w4 ⟨N,a,O,f,rfl,z,A,K,c6⟩;have d6:=z.size;have⟨c7,c8,c9⟩:=A.lkm;refine sAs E (sK b7 (Xs fun K8 b8=>rS fun K9 L=>sMs E (sV (Xw underlying28 E) ?_)))
 by_cases B:((a:Int))=0
 ·refine sV (XD true E E (dT B)) (sK L (cT E (rS fun d7 Q=>sAs E (sK Q (Xt (xR (XL (.slice none 0 0) results226 (XK E) ?_)))))))
  exact⟨none,0,0,[],E,z,Xn.nil,(by rw[←XX da,←K,show f=[] from List.eq_nil_of_length_eq_zero (by omega)];simp [val]),Qci _,(by omega)⟩
 ·refine sV (XD false E E (dF B)) (sK L (cF E (Xk (xM b8 (rS fun d8 R=>sMi E (sV (Qer ((xn:Int)) E E (by split<;>omega)) (sV (Quk ((xn:Int)) E E (by split<;>omega)) (sAi E (sK R (rS fun d9 S=>sMi E (sV (Qj6 (((xn/32:Nat):Int)) E E Qo (Qly Qo Qo Qo)) (sMi E (sV (QbK (((xn % 32:Nat):Int)) E E Qo (Qjd Qo Qo)) (sV (XY (((xn % 32:Nat):Int)) underlying3 underlying124 E (Qbm Qo)) (sAi E (sAi E (sK S (rS fun e0 T=>sMi E (sMs E (sV (Xw underlying28 E) (sV (XF ((((xn/32:Nat):Int))+((a:Int))) E E wI) ?_)))))))))))))))))))))
  refine sV (XF (((((xn/32:Nat):Int))+((a:Int)))+1) E E wI) (sO (Qaw (((xn/32)+a)+1) underlying28 Qai E cI cI Qo Qo fun g M d0 C d1 U=> ?_));have W:Blk M g 123 (((Xl (((xn/32)+a)+1) 0)).map u32):=by rw[Uw];exact U
  refine sAs E (sK T (rS fun e1 X=>sMs E (sMi E (sV (Qah (xn/32) underlying28 Xz E E Qo Qo Qo Qo (xn/32) Qo) (sAs E (sK X (Xs fun e2 Y=>rS fun e3 a0=>sMs E (sV (Xw underlying28 E) (sMi E (sK a0 (Xb ?_)))))))))));refine Ym (fun m e w_=> ∃(k:Nat)(P:List Nat)(cy:Nat),m=a -k∧e 6=(.int .u64 (((xn % 32:Nat):Int)))∧e 7=(.slice (some ⟨g,0,none⟩) (((xn/32)+a)+1) (((xn/32)+a)+1))∧e 8=(.slice (some ⟨g,xn/32,none⟩) ((((xn/32)+a)+1) -(xn/32)) ((((xn/32)+a)+1) -(xn/32)))∧e 34=(.slice N a O)∧e 35=(.int .i64 a)∧e 36=(.int .i64 k)∧Frm (fun b=>b=g) M w_∧Blk w_ g 123 ((Xl (xn/32) 0++(P++(cy::Xl (a -k) 0))).map u32)∧(k≤a)∧(P.length=k)∧(∀d∈P,d<BS)∧(cy<2^ (xn % 32))∧(cy<4294967296)∧(val P+BS^k*cy=val (f.take k)*2^ (xn % 32))) (a -(0)) ?_ ?_
  ·refine⟨0,[],0,E,E,E,E,E,E,cI,Frm.refl _ _,?_,?_,?_,?_,?_,?_,?_⟩
   ·rw[List.nil_append,QuT];exact W
   ·omega
   ·rfl
   ·simp
   ·exact Nat.pow_pos (by decide)
   ·omega
   ·simp [val]
  ·rintro e4 e5 b9 ⟨k,P,cy,d2,a1,a2,a3,a4,a5,a6,h,j,hk,hP,hlt,hcy,D,hw⟩
   obtain⟨e6,rfl⟩:=Qid a1 a2 a3 a4 a5 a6;refine rS fun e7 F=> ?_
   by_cases G:((k:Int))<((a:Int))
   ·refine sV (Xq true E E (dT G)) (sK F (Xs fun e8 a7=>cT E (Xk (xM a7 (Xs fun e9 a8=>Xb (rS fun f0 a9=>sMi E ?_))))))
    have p:=A.frmB (C.rx h) q3;obtain⟨f1,c0,rfl⟩:=p.base Qo;refine sV (XU k underlying28 Xz E E (c0+k)) ?_;have d3:=p.lt k;refine sV (XR XV E (p.cell Qo)) (sAi E (sAi E (sK a9 (Xs fun f2 b0=> ?_))));have hsp:=Qp7 (p.lt k) (show xn % 32≤31 by omega) hcy;refine Xr (sMi E (sV (XY (((f.getD k 0:Nat):Int)) underlying123 underlying75 E (Qbm Qo)) (sMi E (sV (Qq2 (((f.getD k 0*2^ (xn % 32):Nat):Int)) E E Qo (Qjk Qo Qo Qo Qo)) (sAi E (sK b0 (Xs fun f3 b1=> ?_)))))));have hq:=QuX (Z:=Xl (a -k) 0) (c:=cy) (w:=xn/32) hP (t:=xn/32+k) E;refine Xr (sMs E (sMi E (sV (XU k underlying28 Xz E E (xn/32+k)) ?_)));have d4:=getD_lt (ds:=Xl (xn/32) 0++(P++(cy::Xl (a -k) 0))) (i:=xn/32+k) (QsJ hlt D);refine sV (XR XV E (j.dig (by exact lq))) ?_
    generalize d5:(Xl (xn/32) 0++(P++(cy::Xl (a -k) 0))).getD (xn/32+k) 0=q48 at *
    obtain rfl:=hq.symm;refine sMi E (sV (XY ((((f.getD k 0*2^ (xn % 32)) % 4294967296:Nat):Int)) underlying75 underlying123 E (QeD Qo)) (sV (v:= .int .u32 (((cy+(f.getD k 0*2^ (xn % 32)) % 4294967296:Nat):Int))) (Qul E E Qo Qo hsp.2.1) (sV (XU k underlying28 Xz E E (xn/32+k)) (sO (YH E E E Xz j (by exact lq) fun c1 b2 _ l=> ?_)))));replace l:Blk c1 g 123 ((Xl (xn/32) 0++(P++((cy+(f.getD k 0*2^ (xn % 32)) % 4294967296)::Xl (a -k) 0))).map u32):=by rw[← (QrP hP (by omega):(Xl (xn/32) 0++(P++(cy::Xl (a -k) 0))).set (xn/32+k) (cy+(f.getD k 0*2^ (xn % 32)) % 4294967296)=Xl (xn/32) 0++(P++((cy+(f.getD k 0*2^ (xn % 32)) % 4294967296)::Xl (a -k) 0))),UA];exact l
    refine sK b1 (Xr (sMs E (sMi E (sV (XF (((k:Int))+1) E E wI) (sMi E (sV (QeM ((((f.getD k 0*2^ (xn % 32))/2^32:Nat):Int)) E E Qo (QqA (x:=f.getD k 0*2^ (xn % 32)) (s:=32) Qo Qo (by show _≤64;omega))) (sV (XY (((((f.getD k 0*2^ (xn % 32))/2^32) % 4294967296:Nat):Int)) underlying75 underlying123 E (QeD Qo)) (sV (XU (k+1) underlying28 Xz E E (xn/32+(k+1))) ?_))))))));have hcn:((f.getD k 0*2^ (xn % 32))/2^32) % 4294967296<2^ (xn % 32):=by have h1:=hsp.2.2.2.1;omega
    refine sO (YH E E E Xz l (by exact lq) fun c2 b3 _ o=> ?_);replace o:Blk c2 g 123 ((Xl (xn/32) 0++((P++[cy+(f.getD k 0*2^ (xn % 32)) % 4294967296])++((((f.getD k 0*2^ (xn % 32))/2^32) % 4294967296)::Xl (a -(k+1)) 0))).map u32):=by rw[← (QrQ hP (by omega) (by omega):(Xl (xn/32) 0++(P++((cy+(f.getD k 0*2^ (xn % 32)) % 4294967296)::Xl (a -k) 0))).set (xn/32+(k+1)) (((f.getD k 0*2^ (xn % 32))/2^32) % 4294967296)=Xl (xn/32) 0++((P++[cy+(f.getD k 0*2^ (xn % 32)) % 4294967296])++((((f.getD k 0*2^ (xn % 32))/2^32) % 4294967296)::Xl (a -(k+1)) 0))),UA];exact o
    refine XB (bN (xM a8 (Xr (sV (XF (((k:Int))+1) E E wI) (sMi E (XB ?_))))));refine again (a -(k+1)) Qo ⟨k+1,P++[cy+(f.getD k 0*2^ (xn % 32)) % 4294967296],((f.getD k 0*2^ (xn % 32))/2^32) % 4294967296,E,E,E,E,E,E,cI,h.trans (b2.trans b3),?_,?_,?_,?_,?_,?_,?_⟩
    ·exact o
    ·omega
    ·simp [hP]
    ·exact ZL hlt Qo
    ·exact hcn
    ·omega
    ·exact QrR hw hP Qo
   ·refine sV (Xq false E E (dF G)) (sK F (Xs fun f4 _=>cF E (Xe (xE (xE (bE (xM Y (rS fun f5 b4=>sMs E ?_))))))))
    have c3:Xn b9 (fun b=>b=g) (some ⟨g,0,none⟩) (((xn/32)+a)+1) (((xn/32)+a)+1) (Xl (xn/32) 0++(P++(cy::Xl (a -k) 0))):=Xn.of_blk j E (QsJ hlt D) (by exact lq) Qo (by unfold Yc;omega);refine sO (Xc E Qae (Ya c3) E ?_);rintro _ f6 ⟨q,r,u,J,rfl,b5,y,I,c4⟩;have⟨c5,_,_⟩:=y.lkm;refine sAs E (sK b4 (Xt (XL (.slice q r u) results226 (XK E) ?_)));exact⟨q,r,u,J,E,Frm.mono (((z.trans C).rx h).xr b5) q4,Xn.sub y q5,(by rw[I,XX,QuW (n:=xn) hw hP (by omega) (by omega) (by omega),K,XX]),(by rw[I];exact XJ _ _),(by omega)⟩
set_option maxHeartbeats 1000000 in
theorem Qls(ha:Xn w Sa Aa na ca da)(bn:xn≤9223372036854775807)(hna:na≤549755813888):Calls prog 245 #[.slice Aa na ca,.int .i64 xn] w (Ret fun v w'=> ∃Ar nr cr dr,v=(.slice Ar nr cr)∧Ext w w'∧Xn w' (fun b=>w.heap.size≤b) Ar nr cr dr∧(val dr=val da/2^xn)∧(Canon isZ dr)∧(nr≤na)):=by
 have⟨la,ka,ma⟩:=ha.lkm;replace ha:=ha.low;refine enter func245 E ntmps245 E (rS fun K1 b4=>sAs E (sK b4 (rS fun K2 b5=>sMs E (sO (Xc E Qae (Ya ha) E ?_)))));rintro _ w4 ⟨y,c,j,a,rfl,z,h,Q,c7⟩;have d5:=z.size;have⟨T,c8,c9⟩:=h.lkm;refine sAs E (sK b5 (rS fun K8 b6=>sMi E (sV (Qer ((xn:Int)) E E (by split<;>omega)) (sAi E (sK b6 (rS fun K9 b7=>sMi E (sV (Qj6 (((xn/32:Nat):Int)) E E Qo (Qly Qo Qo Qo)) (sMi E (sV (QbK (((xn % 32:Nat):Int)) E E Qo (Qjd Qo Qo)) (sV (XY (((xn % 32:Nat):Int)) underlying3 underlying124 E (Qbm Qo)) (sAi E (sAi E (sK b7 (Xs fun d6 U=>rS fun d7 A=>sMi E (sMs E (sV (Xw underlying28 E) ?_))))))))))))))))
 by_cases B:(((xn/32:Nat):Int))≥((c:Int))
 ·refine sV (Zi true E E (dT B)) (sK A (cT E (rS fun d8 W=>sAs E (sK W (Xt (xR (XL (.slice none 0 0) results245 (XK E) ?_)))))))
  exact⟨none,0,0,[],E,z,Xn.nil,(by rw[←XX da,←Q];exact QrS (w:=xn/32) h.2 T (by omega) (by omega)),Qci _,(by omega)⟩
 ·refine sV (Zi false E E (dF B)) (sK A (cF E (Xk (xM U (rS fun d9 X=>sMs E (sMi E ?_))))))
  have b8:=h.drop (m:=xn/32) Qo;refine sV (ZP (xn/32) underlying28 Xz E E Qo Qo Qo) ?_
  generalize(if j=(xn/32) then y else y.map (·.add ((xn/32)*1)))=A15 at *
  refine sAs E (sK X (rS fun e0 Y=>sMs E (sV (Xw underlying28 E) (sO (Qaw (c -(xn/32)) underlying28 Qai E cI cI Qo Qo fun f R d0 C d1 Z=> ?_)))));have a0:Blk R f 123 (((Xl (c -(xn/32)) 0)).map u32):=by rw[Uw];exact Z
  refine sAs E (sK Y (Xs fun e1 a1=>rS fun e2 a2=>sMs E (sV (Xw underlying28 E) (sMi E (sK a2 (Xb ?_))))));refine Ym (fun m e w_=> ∃(k:Nat)(P:List Nat),m=(c -(xn/32)) -k∧e 6=(.int .u64 (((xn % 32:Nat):Int)))∧e 7=(.slice A15 (c -(xn/32)) (j -(xn/32)))∧e 8=(.slice (some ⟨f,0,none⟩) (c -(xn/32)) (c -(xn/32)))∧e 31=(.slice A15 (c -(xn/32)) (j -(xn/32)))∧e 32=(.int .i64 (((c -(xn/32):Nat):Int)))∧e 33=(.int .i64 k)∧Frm (fun b=>b=f) R w_∧Blk w_ f 123 ((P++Xl ((c -(xn/32)) -k) 0).map u32)∧(k≤c -(xn/32))∧(P.length=k)∧(∀d∈P,d<BS)∧(val P=val ((a).drop (xn/32))/2^ (xn % 32) % BS^k)) ((c -(xn/32)) -(0)) ?_ ?_
  ·refine⟨0,[],E,E,E,E,E,E,cI,Frm.refl _ _,?_,?_,?_,?_,?_⟩
   ·simpa using a0
   ·omega
   ·rfl
   ·simp
   ·simp [val,Nat.mod_one]
  ·rintro e3 e4 b9 ⟨k,P,d2,a3,a4,a5,a6,a7,a8,i,l,hk,hP,hlt,hw⟩
   obtain⟨e5,rfl⟩:=Qid a3 a4 a5 a6 a7 a8;refine rS fun e6 D=> ?_
   by_cases F:((k:Int))<(((c -(xn/32):Nat):Int))
   ·refine sV (Xq true E E (dT F)) (sK D (Xs fun e7 a9=>cT E (Xk (xM a9 (Xs fun e8 G=>Xb (rS fun e9 b0=>sMi E ?_))))))
    have g:=(b8.ext C).frmB i q3;obtain⟨f0,S,rfl⟩:=g.base Qo;refine sV (XU k underlying28 Xz E E (S+k)) ?_;have d3:=g.lt k;refine sV (XR XV E (g.cell Qo)) (sAi E (sAi E (sK b0 (rS fun f1 b1=>sMi E (sV (XY (((((a).drop (xn/32)).getD k 0:Nat):Int)) underlying123 underlying75 E (Qbm Qo)) (sAi E (sK b1 (Xs fun f2 I=>rS fun f3 J=>sMi E (sV (XF (((k:Int))+1) E E wI) (sMs E (sV (Xw underlying28 E) ?_)))))))))))
    by_cases K:(((k:Int))+1)<(((c -(xn/32):Nat):Int))
    ·refine sV (Xq true E E (dT K)) (sK J (cT E (Xr (sMi E (sMs E (sMi E (sV (XF (((k:Int))+1) E E wI) (sV (XU (k+1) underlying28 Xz E E (S+(k+1))) ?_))))))))
     have d4:=g.lt (k+1);refine sV (XR XV E (g.cell Qo)) (sV (XY (((((a).drop (xn/32)).getD (k+1) 0:Nat):Int)) underlying123 underlying75 E (Qbm Qo)) (sV (Qq2 (((((a).drop (xn/32)).getD (k+1) 0*4294967296:Nat):Int)) E E Qo (Qjk (x:=((a).drop (xn/32)).getD (k+1) 0) (s:=32) Qo Qo Qo Qo)) (sV (v:= .int .u64 (((((a).drop (xn/32)).getD k 0+((a).drop (xn/32)).getD (k+1) 0*4294967296:Nat):Int))) (Qo1 E E Qo Qo (QuJ Qo)) (sAi E (sK I (Xr (sMs E (sMi E (sMi E (sMi E (sV (QeM ((((((a).drop (xn/32)).getD k 0+((a).drop (xn/32)).getD (k+1) 0*4294967296)/2^ (xn % 32):Nat):Int)) E E Qo (QqA (x:=((a).drop (xn/32)).getD k 0+((a).drop (xn/32)).getD (k+1) 0*4294967296) (s:=xn % 32) Qo Qo (by show _≤64;omega))) ?_)))))))))));refine sV (XY (((((((a).drop (xn/32)).getD k 0+((a).drop (xn/32)).getD (k+1) 0*4294967296)/2^ (xn % 32)) % 4294967296:Nat):Int)) underlying75 underlying123 E (QeD Qo)) (sV (XU k underlying28 Xz E E k) (sO (YH E E E Xz l (by exact lq) fun c0 L _ o=> ?_)));replace o:Blk c0 f 123 (((P++[((((a).drop (xn/32)).getD k 0+((a).drop (xn/32)).getD (k+1) 0*4294967296)/2^ (xn % 32)) % 4294967296])++Xl ((c -(xn/32)) -(k+1)) 0).map u32):=by rw[← (ZE hP (by omega):(P++Xl ((c -(xn/32)) -k) 0).set k (((((a).drop (xn/32)).getD k 0+((a).drop (xn/32)).getD (k+1) 0*4294967296)/2^ (xn % 32)) % 4294967296)=(P++[((((a).drop (xn/32)).getD k 0+((a).drop (xn/32)).getD (k+1) 0*4294967296)/2^ (xn % 32)) % 4294967296])++Xl ((c -(xn/32)) -(k+1)) 0),UA];exact o
     refine XB (bN (xM G (Xr (sV (XF (((k:Int))+1) E E wI) (sMi E (XB ?_))))));have c1:=g.frmB L q3;refine again ((c -(xn/32)) -(k+1)) Qo ⟨k+1,P++[((((a).drop (xn/32)).getD k 0+((a).drop (xn/32)).getD (k+1) 0*4294967296)/2^ (xn % 32)) % 4294967296],E,E,E,E,E,E,cI,i.trans L,?_,?_,?_,?_,?_⟩
     ·exact o
     ·omega
     ·simp [hP]
     ·exact ZL hlt Qo
     ·exact QmM c1.2 Qo hw hP E
    ·refine sV (Xq false E E (dF K)) (sK J (cF E (Xk (xM I (Xr (sMs E (sMi E (sMi E (sMi E (sV (QeM ((((((a).drop (xn/32)).getD k 0)/2^ (xn % 32):Nat):Int)) E E Qo (QqA (x:=((a).drop (xn/32)).getD k 0) (s:=xn % 32) Qo Qo (by show _≤64;omega))) (sV (XY (((((((a).drop (xn/32)).getD k 0)/2^ (xn % 32)) % 4294967296:Nat):Int)) underlying75 underlying123 E (QeD Qo)) (sV (XU k underlying28 Xz E E k) (sO (YH E E E Xz l (by exact lq) fun c2 M _ p=> ?_))))))))))))))
     replace p:Blk c2 f 123 (((P++[((((a).drop (xn/32)).getD k 0)/2^ (xn % 32)) % 4294967296])++Xl ((c -(xn/32)) -(k+1)) 0).map u32):=by rw[← (ZE hP (by omega):(P++Xl ((c -(xn/32)) -k) 0).set k (((((a).drop (xn/32)).getD k 0)/2^ (xn % 32)) % 4294967296)=(P++[((((a).drop (xn/32)).getD k 0)/2^ (xn % 32)) % 4294967296])++Xl ((c -(xn/32)) -(k+1)) 0),UA];exact p
     refine XB (bN (xM G (Xr (sV (XF (((k:Int))+1) E E wI) (sMi E (XB ?_))))));have c3:=g.frmB M q3;refine again ((c -(xn/32)) -(k+1)) Qo ⟨k+1,P++[((((a).drop (xn/32)).getD k 0)/2^ (xn % 32)) % 4294967296],E,E,E,E,E,E,cI,i.trans M,?_,?_,?_,?_,?_⟩
     ·exact p
     ·omega
     ·simp [hP]
     ·exact ZL hlt Qo
     ·exact QmM c3.2 (by omega) hw hP (by rw[Qbk (ds:=(a).drop (xn/32)) (n:=c -(xn/32)) (by exact lq) (k+1) (by omega),Nat.zero_mul,Nat.add_zero])
   ·refine sV (Xq false E E (dF F)) (sK D (Xs fun f4 _=>cF E (Xe (xE (xE (bE (xM a1 (rS fun f5 b2=>sMs E ?_))))))))
    have c4:Xn b9 (fun b=>b=f) (some ⟨f,0,none⟩) (c -(xn/32)) (c -(xn/32)) (P++Xl ((c -(xn/32)) -k) 0):=Xn.of_blk l E (QbM hlt) (by exact lq) Qo (by unfold Yc;omega);refine sO (Xc E Qae (Ya c4) E ?_);rintro _ f6 ⟨q,r,t,O,rfl,b3,u,N,c5⟩;have⟨c6,_,_⟩:=u.lkm;refine sAs E (sK b2 (Xt (XL (.slice q r t) results245 (XK E) ?_)));exact⟨q,r,t,O,E,Frm.mono (((z.trans C).rx i).xr b3) q4,Xn.sub u q5,(by rw[N,XX,QuZ (n:=xn) h.2 E hw (by simp;omega) (by omega),Q,XX]),(by rw[N];exact XJ _ _),(by omega)⟩
end Go.Proofs.YtnkfdkhjaklolaaGreatDoor
