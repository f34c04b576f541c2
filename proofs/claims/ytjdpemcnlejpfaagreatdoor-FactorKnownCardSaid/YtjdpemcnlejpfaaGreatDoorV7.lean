/-
  V7, W1, W2, W3
-/
import Derived.Test.YtjdpemcnlejpfaaGreatDoorV3
import Derived.Test.YtjdpemcnlejpfaaGreatDoorPrimeTab
import Derived.Test.YtjdpemcnlejpfaaGreatDoorN3
import Derived.Test.YtjdpemcnlejpfaaGreatDoorSqMath
set_option linter.all false
namespace Go.Proofs.YtjdpemcnlejpfaaGreatDoor
open Go.RowKit Go.Gx Go.Am Tryz
theorem Qvp{M M':Nat}{z:Int}(h:z.natAbs<BS^M'):(it M z).le (it M' z):=le_agg (.cons (le_refl _) (.cons (cn_lt h) .nil))
theorem QcI{M M':Nat}{l:List Int}(h: ∀i,(co l i).natAbs<BS^M'):(pc M l).le (pc M' l):=le_sl (Les.map l fun x hx=>by
  obtain⟨i,hi,e⟩:=List.getElem_of_mem hx
  have :=h i
  rw[show co l i=x by rw[←e];simp [co,List.getD,List.getElem?_eq_getElem hi]] at this
  exact Qvp this) (els_map (fun _=>it_el) l)
theorem Qpf{l:List Int}(h:(Xa l).length=l.length):Xa l=l:=by
  have :=QdZ ZM l
  change Xa l=l.take (Xa l).length at this
  rw[h,List.take_length] at this
  exact this
def rZ:Nat:=68035
set_option exponentiation.threshold 100000 in
theorem Qr5:(34*BS^2000)^34<BS^rZ:=by
  have h1:34*BS^2000≤BS^2001:=by rw[Nat.pow_succ,Nat.mul_comm];exact Nat.mul_le_mul_left _ (by decide)
  refine Nat.lt_of_le_of_lt (Nat.pow_le_pow_left h1 34) ?_
  rw[←Nat.pow_mul]
  exact Nat.pow_lt_pow_right (by decide) (by decide)
set_option exponentiation.threshold 100000 in
theorem QmL{l:List Int}{M:Nat}(h: ∀i,(co l i).natAbs<BS^M)(hM:M≤2000)(i:Nat):(co l i).natAbs≤BS^2000:=Nat.le_trans (Nat.le_of_lt (h i)) (Nat.pow_le_pow_right (by decide) hM)
set_option exponentiation.threshold 100000 in
theorem QoJ{a0 b0 a b q R r:List Int}{l s D:Int}(h:QcU a0 b0 a b l s D)(p:Psd a b q R)(hr:r=(Xa R).map fun x=>x.tdiv D)(ha: ∀i,(co a0 i).natAbs≤BS^2000)(hb: ∀i,(co b0 i).natAbs≤BS^2000)(hN:(Xa a0).length+(Xa b0).length≤34)(h0:(Xa b).length≤(Xa b0).length)(h00:(Xa b0).length≤(Xa a0).length)(j:Nat):(co r j).natAbs<BS^rZ:=
  Nat.lt_of_le_of_lt (h.size p hr ha hb (Qo4 2000) hN h0 h00 j) Qr5
set_option exponentiation.threshold 100000 in
theorem Qmd{a0 b0 a b:List Int}{l s D s':Int}(h:QcU a0 b0 a b l s D)(hlt:(Xa b).length<(Xa a).length)(hs:s'=((-ldP b)^ ((Xa a).length -(Xa b).length)).tdiv (s^ ((Xa a).length -(Xa b).length -1)))(ha: ∀i,(co a0 i).natAbs≤BS^2000)(hb: ∀i,(co b0 i).natAbs≤BS^2000)(hN:(Xa a0).length+(Xa b0).length≤34)(h0:(Xa b).length≤(Xa b0).length)(h00:(Xa b).length<(Xa a0).length)(h01:1≤(Xa b0).length):s'.natAbs<BS^rZ:=
  Nat.lt_of_le_of_lt (h.sizeS hlt hs ha hb (Qo4 2000) hN h0 h00 h01) Qr5
set_option exponentiation.threshold 100000 in
set_option maxHeartbeats 4000000 in
theorem QnF{lp:Nat}{w1:World}{S1:Nat→Prop}{M:Nat}{F G:List Int}(c0:Code)(LO:Option Code→List Int→Hp)(hM:M≤2000)(hF:F.length≤17)(hG:G.length≤17)(hle:(Xa G).length≤(Xa F).length)(hg1:1≤(Xa G).length)(cF: ∀i,(co F i).natAbs<BS^M)(cG: ∀i,(co G i).natAbs<BS^M)
    (hY: ∀s l,1≤l.length→l.length≤17→Xa l=l→YC prog lp w1 S1 (LO none s) [pc rZ l] fun K=>(l.length≠1→K (LO none l) [Bo true])∧(l.length=1→K (LO (some c0) l) [Bo false]))(s0:List Int):
    AC prog 205 (LO none s0) [yv lp w1 S1,ep (pv M F),ep (pv M G)] (fun K=> ∀l j,(j=none∨j=some c0)→Qcv (P F) (P G) (P l)→P l≠0→l.length≤17→K (LO j l) []):=by
  refine aEnterF func205 rfl ntmps205 rfl fun K C hC hK=> ?_
  have hrZ:rZ=68035:=rfl
  obtain⟨A,hA⟩: ∃A,Xa F=A:=⟨_,rfl⟩
  obtain⟨B,hB⟩: ∃B,Xa G=B:=⟨_,rfl⟩
  have hA1:A.length≤17:=by rw[←hA];exact Nat.le_trans (Xe F) hF
  have hB1:B.length≤17:=by rw[←hB];exact Nat.le_trans (Xe G) hG
  have⟨tA1,tA2,pA⟩:=QiX hA.symm
  have⟨tB1,tB2,pB⟩:=QiX hB.symm
  have tA:Xa A=A:=by rw[←hA,XV]
  have tB:Xa B=B:=by rw[←hB,XV]
  have cA: ∀i,(co A i).natAbs≤BS^2000:=fun i=>by rw[←hA,Xo];exact QmL cF hM i
  have cB: ∀i,(co B i).natAbs≤BS^2000:=fun i=>by rw[←hB,Xo];exact QmL cG hM i
  rw[hA] at hle
  rw[hB] at hle hg1
  repeat(refine zS ?_;intros)
  rw[hA,hB]
  refine alYield zv (R:=[]) rfl (hY s0 A (by omega) hA1 tA) zas rfl zg ⟨fun h1=> ?_,fun h1=> ?_⟩
  · repeat(refine zS ?_;intros)
    refine alYield zv (R:=[]) rfl (hY A B (by omega) hB1 tB) zas rfl zg ⟨fun h2=> ?_,fun h2=> ?_⟩
    · obtain⟨e0,he0⟩: ∃e,A.length -B.length=e:=⟨_,rfl⟩
      have hq0:(e0+1)*(e0+1)≤17*17:=Nat.mul_le_mul (by omega) (by omega)
      repeat(refine zS ?_;intros)
      rw[he0]
      repeat(refine zS ?_;intros)
      rename_i g7 g8
      refine aLoop [0,7,8] (fun x:List Int×List Int×Int×Int=>[(4,pc rZ x.1),(5,pc rZ x.2.1),(6,N (x.1.length -x.2.1.length))]) (fun x=>[(some g8,.arr 25 1 (itl 5000000 x.2.2.2)),(some g7,.arr 25 1 (itl rZ x.2.2.1))]++LO none x.2.1) (fun x=>Xa x.1=x.1∧Xa x.2.1=x.2.1∧2≤x.2.1.length∧x.2.1.length≤x.1.length∧x.1.length≤A.length∧x.2.1.length≤B.length∧ ∃lz,QcU A B x.1 x.2.1 lz x.2.2.1 x.2.2.2) (fun x=>x.2.1.length) (A,B,-1,(-1)^ (e0+1)) ⟨tA,tB,by show 2≤B.length;omega,hle,Nat.le_refl _,Nat.le_refl _,1,QcU.start (by omega) (by omega) (by rw[tA1,tB1,he0])⟩ (entL (.cons zle (.cons zle (.cons (leI (by show((e0:Nat):Int)=((A.length -B.length:Nat):Int);omega)) .nil))) zk (by refine HLe.cons ?_ (HLe.cons ?_ (HLe.refl _));exact ob_i rfl (by omega);exact ob_i rfl (by omega))) fun⟨X,Y,s,D⟩ ⟨tX,tY,hY2,hXY,hXA,hYB,lz,hR⟩=> ?_
      dsimp only at tX tY hY2 hXY hXA hYB hR⊢
      have hg0:=hR.ldb.2
      have hD0:=hR.D0
      have hs0:=hR.sub.s0
      have hps:X.length*(X.length*(rZ+1))≤17*(17*68036):=Nat.mul_le_mul (by omega) (Nat.mul_le_mul (by omega) (by omega))
      have tX1:(Xa X).length=X.length:=by rw[tX]
      have tY1:(Xa Y).length=Y.length:=by rw[tY]
      repeat(refine zS ?_;intros)
      rename_i Q R hx hl ht hq hr hz9
      have psd:Psd X Y Q R:=⟨hx,hl,ht⟩
      repeat(refine zS ?_;intros)
      refine zB ?_ ?_<;>intro h3
      · have hd:=Qev pA pB (hR.done psd (by omega))
        repeat(refine zS ?_;intros)
        exact aRet (rs:=[]) rfl rfl (by exact List.sublist_append_right [_,_] _) zr (hK Y none (.inl rfl) hd (QaA (by omega)) (by omega))
      · obtain⟨r,hr9⟩: ∃r,(Xa R).map (fun x=>x.tdiv D)=r:=⟨_,rfl⟩
        have⟨q1',q2',q3',q4'⟩:=hR.quo psd hr9.symm
        have hsm:=QoJ hR psd hr9.symm cA cB (by omega) (by omega) (by omega)
        have tr:Xa r=r:=Qpf (by omega)
        repeat(refine zS ?_;intros)
        rw[hr9]
        repeat(refine zS ?_;intros)
        refine AL.ent (entSub (s:=10) (a:=pc rZ r) (QcI hsm)) ?_
        refine AL.ent (entSub (s:=51) (a:=pc rZ r) (QcI hsm)) ?_
        refine alYield zv (R:=[_,_]) rfl (hY Y r (by omega) (by omega) tr) zas rfl zg ⟨fun h4=> ?_,fun h4=> ?_⟩
        · repeat(refine zS ?_;intros)
          rename_i g12
          obtain⟨e,he⟩: ∃e,X.length -Y.length=e:=⟨_,rfl⟩
          rw[he]
          have hq5:e*e≤15*15:=Nat.mul_le_mul (by omega) (by omega)
          have hq6:e*rZ≤15*68035:=Nat.mul_le_mul (by omega) (by omega)
          have hq7:(e -1)*(e -1)≤17*17:=Nat.mul_le_mul (by omega) (by omega)
          have hq8:(e -1)*rZ≤17*68035:=Nat.mul_le_mul (by omega) (by omega)
          have hp0:s^ (e -1)≠0:=Int.pow_ne_zero hs0
          obtain⟨u,hu⟩: ∃u,Y.length -r.length=u:=⟨_,rfl⟩
          have hq9:u*u≤15*15:=Nat.mul_le_mul (by omega) (by omega)
          have hq10:u*rZ≤15*68035:=Nat.mul_le_mul (by omega) (by omega)
          have hq12:u*e≤64:=by
            have h9:u≤16 -e:=by omega
            have h8: ∀e,e<17→(16 -e)*e≤64:=by decide
            exact Nat.le_trans (Nat.mul_le_mul_right e h9) (h8 e (by omega))
          have hq11:u*(e*rZ+e*e*2+3)≤64*68035+17*(17*17*2+3):=by
            have h9:u*(e*rZ+e*e*2+3)=u*e*rZ+u*(e*e*2+3):=by rw[Nat.add_assoc,Nat.mul_add,←Nat.mul_assoc]
            rw[h9]
            exact Nat.add_le_add (Nat.mul_le_mul hq12 (by omega)) (Nat.mul_le_mul (by omega) (by omega))
          refine zB ?_ ?_<;>intro h5
          · obtain⟨s2,hs2⟩: ∃s2,((-ldP Y)^e).tdiv (s^ (e -1))=s2:=⟨_,rfl⟩
            repeat(refine zS ?_;intros)
            rw[hu,hs2]
            repeat(refine zS ?_;intros)
            have hs3:s2.natAbs<BS^rZ:=Qmd hR (by omega) (by rw[tX1,tY1,he,hs2]) cA cB (by omega) (by omega) (by omega) (by omega)
            have hN:=hR.next (s':=s2) (D':= -ldP Y*s2^u) psd hr9.symm (by omega) (.inr ⟨by omega,by rw[tX1,tY1,he,hs2]⟩) (by rw[tY1,tr,hu])
            exact aAgain (Y,r,s2,-ldP Y*s2^u) ⟨tY,tr,by show 2≤r.length;omega,by show r.length≤Y.length;omega,by show Y.length≤A.length;omega,by show r.length≤B.length;omega,_,hN⟩ (by show r.length<Y.length;omega) (entL (.cons zle (.cons zle (.cons (leI (by show((u:Nat):Int)=((Y.length -r.length:Nat):Int);omega)) .nil))) zk (by refine HLe.drop (HLe.cons ?_ (HLe.cons ?_ (HLe.refl _)));exact ob_i rfl (by omega);exact ob_il hs3))
          · repeat(refine zS ?_;intros)
            rw[hu]
            repeat(refine zS ?_;intros)
            have hN:=hR.next (s':=s) (D':= -ldP Y*s^u) psd hr9.symm (by omega) (.inl ⟨by omega,rfl⟩) (by rw[tY1,tr,hu])
            exact aAgain (Y,r,s,-ldP Y*s^u) ⟨tY,tr,by show 2≤r.length;omega,by show r.length≤Y.length;omega,by show Y.length≤A.length;omega,by show r.length≤B.length;omega,_,hN⟩ (by show r.length<Y.length;omega) (entL (.cons zle (.cons zle (.cons (leI (by show((u:Nat):Int)=((Y.length -r.length:Nat):Int);omega)) .nil))) zk (by refine HLe.drop (HLe.cons ?_ (HLe.cons ?_ (HLe.refl _)));exact ob_i rfl (by omega);exact ob_i rfl (by omega)))
        · have hd:=Qfg (F:=P A) (G:=P B) (l:=r) (by omega) (hR.inr psd hr9.symm)
          repeat(refine zS ?_;intros)
          exact aRet (rs:=[]) rfl rfl (by exact List.sublist_append_right [_,_] _) zr (hK r (some c0) (.inr rfl) (Qev pA pB hd) (QaA (by omega)) (by omega))
    · have hd:Qcv (P F) (P G) (P B):=Qev pA pB (Qfg (by omega) (InI.right _ _))
      repeat(refine zS ?_;intros)
      exact aRet (rs:=[]) rfl rfl (.refl _) zr (hK B (some c0) (.inr rfl) hd (QaA (by omega)) hB1)
  · have hd:Qcv (P F) (P G) (P A):=Qev pA pB (Qfg (by omega) (InI.left _ _))
    repeat(refine zS ?_;intros)
    exact aRet (rs:=[]) rfl rfl (.refl _) zr (hK A (some c0) (.inr rfl) hd (QaA (by omega)) hA1)
end Go.Proofs.YtjdpemcnlejpfaaGreatDoor
namespace Go.Proofs.YtjdpemcnlejpfaaGreatDoor
open Go.RowKit Go.Gx Go.Am Tryz
abbrev W32(n:Nat):AV:=I .u32 (n:Int)
instance c82:TK prog 82 (∀{p:Nat}(_:1<p)(_:p<4294967296),AC prog 82 [] [W32 p] fun K=>K [] [I .u64 (p:Int)]):=⟨fun {p} h1 h2=>by
  refine aEnter func82 rfl ntmps82 rfl fun K C hC hK=> ?_
  repeat(refine zS ?_;intros)
  exact aRet1 rfl zv hK (le_refl _)⟩
instance Qx8:TK prog 173 (∀{a b p:Nat}(_:1<p)(_:p<4294967296)(_:a<4294967296)(_:b<4294967296),AC prog 173 [] [W32 a,W32 b,W32 p] fun K=>K [] [W32 (a*b % p)]):=⟨fun {a b p} h1 h2 ha hb=>by
  refine aEnter func173 rfl ntmps173 rfl fun K C hC hK=> ?_
  have hm:a*b≤4294967295*4294967295:=Nat.mul_le_mul (by omega) (by omega)
  have hr:a*b % p<p:=Nat.mod_lt _ (by omega)
  repeat(refine zS ?_;intros)
  exact aRet1 rfl zv hK (le_refl _)⟩
instance Qyb:TK prog 176 (∀{a b p:Nat}(_:1<p)(_:p<4294967296)(_:a<4294967296)(_:b<4294967296),AC prog 176 [] [W32 a,W32 b,W32 p] fun K=>K [] [W32 ((a+b) % p)]):=⟨fun {a b p} h1 h2 ha hb=>by
  refine aEnter func176 rfl ntmps176 rfl fun K C hC hK=> ?_
  have hr:(a+b) % p<p:=Nat.mod_lt _ (by omega)
  repeat(refine zS ?_;intros)
  exact aRet1 rfl zv hK (le_refl _)⟩
instance c83:TK prog 83 (∀{a p:Nat}(_:1<p)(_:p<4294967296)(_:a<4294967296),AC prog 83 [] [W32 a,W32 p] fun K=>K [] [W32 ((p -a % p) % p)]):=⟨fun {a p} h1 h2 ha=>by
  refine aEnter func83 rfl ntmps83 rfl fun K C hC hK=> ?_
  have hr:a % p<p:=Nat.mod_lt _ (by omega)
  have hr2:(p -a % p) % p<p:=Nat.mod_lt _ (by omega)
  repeat(refine zS ?_;intros)
  exact aRet1 rfl zv hK (le_refl _)⟩
instance QxK:TK prog 129 (∀{a b p:Nat}(_:1<p)(_:p<4294967296)(_:a<4294967296)(_:b<4294967296),AC prog 129 [] [W32 a,W32 b,W32 p] fun K=>K [] [W32 ((a+(p -b % p) % p) % p)]):=⟨fun {a b p} h1 h2 ha hb=>by
  refine aEnter func129 rfl ntmps129 rfl fun K C hC hK=> ?_
  have hr2:(p -b % p) % p<p:=Nat.mod_lt _ (by omega)
  repeat(refine zS ?_;intros)
  exact aRet1 rfl zv hK (le_refl _)⟩
end Go.Proofs.YtjdpemcnlejpfaaGreatDoor
namespace Go.Proofs.YtjdpemcnlejpfaaGreatDoor
open Go.RowKit Go.Gx Go.Am Tryz
theorem Qtw{b e r p:Nat}(h:e % 2=0):r*(b*b % p)^ (e/2) % p=r*b^e % p:=by
  rw[Nat.mul_mod,←Nat.pow_mod,←Nat.mul_mod,←Nat.pow_two,←Nat.pow_mul,show 2*(e/2)=e by omega]
theorem QvN{b e r p:Nat}(h:e % 2=1):(r*b % p)*(b*b % p)^ (e/2) % p=r*b^e % p:=by
  rw[Nat.mul_mod,Nat.mod_mod,←Nat.mul_mod,Nat.mul_mod,←Nat.pow_mod,←Nat.mul_mod,←Nat.pow_two,←Nat.pow_mul,Nat.mul_assoc,←Nat.pow_succ',show(2*(e/2)).succ=e by omega]
set_option maxHeartbeats 1000000 in
instance Qx7:TK prog 172 (∀{a n p:Nat}(_:1<p)(_:p<4294967296)(_:a<4294967296)(_:n<18446744073709551616),AC prog 172 [] [W32 a,I .u64 (n:Int),W32 p] fun K=>K [] [W32 (a^n % p)]):=⟨fun {a n p} h1 h2 ha hn=>by
  refine aEnter func172 rfl ntmps172 rfl fun K C hC hK=> ?_
  have h1p:1 % p=1:=Nat.mod_eq_of_lt h1
  repeat(refine zS ?_;intros)
  refine aL3 [2] (fun(b e r:Nat)=>[(0,W32 b),(1,I .u64 (e:Int)),(7,W32 r)]) (fun _ _ _=>[]) (fun b e r=>b<4294967296∧r<p∧e≤n∧r*b^e % p=a^n % p) (fun _ e _=>e) a n (1 % p) ⟨ha,Nat.mod_lt _ (by omega),Nat.le_refl _,by rw[h1p,Nat.one_mul]⟩ (entL (.cons zle (.cons zle (.cons zle .nil))) zk (HLe.none _)) fun b e r ⟨hb,hr,he,hI⟩=> ?_
  have hm:b*b % p<p:=Nat.mod_lt _ (by omega)
  have hm2:r*b % p<p:=Nat.mod_lt _ (by omega)
  repeat(refine zS ?_;intros)
  refine zB ?_ ?_<;>intro h
  · repeat(refine zS ?_;intros)
    refine zB ?_ ?_<;>intro h3
    · repeat(refine zS ?_;intros)
      exact ag3 (b*b % p) (e/2) (r*b % p) ⟨by omega,hm2,by omega,by rw[QvN (by omega)];exact hI⟩ (entL (.cons zle (.cons zle (.cons zle .nil))) zk (HLe.none _)) (by omega)
    · repeat(refine zS ?_;intros)
      exact ag3 (b*b % p) (e/2) r ⟨by omega,hr,by omega,by rw[Qtw (by omega)];exact hI⟩ (entL (.cons zle (.cons zle (.cons zle .nil))) zk (HLe.none _)) (by omega)
  · repeat(refine zS ?_;intros)
    have e0:e=0:=by omega
    subst e0
    have hr0:a^n % p=r:=by rw[←hI,Nat.pow_zero,Nat.mul_one];exact Nat.mod_eq_of_lt hr
    rw[hr0] at hK
    exact aRet1 rfl zv hK (le_refl _)⟩
instance QyB:TK prog 226 (∀{a p:Nat}(_:1<p)(_:p<4294967296)(_:a<p),AC prog 226 [] [W32 a,W32 p] fun K=>K [] [I .i64 (if 2*a>p then(a:Int) -p else a)]):=⟨fun {a p} h1 h2 ha=>by
  refine aEnter func226 rfl ntmps226 rfl fun K C hC hK=> ?_
  have hm:a % p=a:=Nat.mod_eq_of_lt ha
  repeat(refine zS ?_;intros)
  refine zB ?_ ?_<;>intro h<;>repeat(refine zS ?_;intros)
  · rw[if_pos (by omega)] at hK
    exact aRet1 rfl zv hK leI
  · rw[if_neg (by omega)] at hK
    exact aRet1 rfl zv hK leI⟩
end Go.Proofs.YtjdpemcnlejpfaaGreatDoor
namespace Go.Proofs.YtjdpemcnlejpfaaGreatDoor
open Go.RowKit Go.Gx Go.Am Tryz
instance c37:TK prog 37 (∀{M p:Nat}{z:Int}(_:M≤1099511627)(_:1<p)(_:p<4294967296),AC prog 37 [] [iv M z,W32 p] fun K=>K [] [W32 (md p z)]):=⟨fun {M p z} hM h1 h2=>by
  refine aEnter func37 rfl ntmps37 rfl fun K C hC hK=>opI 0 rfl fun b a ha=> ?_
  subst ha
  have hr:a % p<p:=Nat.mod_lt _ (by omega)
  have hm:a % p % p=a % p:=Nat.mod_eq_of_lt hr
  cases b<;>repeat(refine zS ?_;intros)
  · exact aRet1 rfl zv hK (leI (by rw[sg_f,Qgn (by omega)]))
  · exact aRet1 rfl zv hK (leI (by rw[sg_t,←QrU (by omega),hm]))⟩
set_option maxHeartbeats 1000000 in
instance Qx9:TK prog 174 (∀{a p:Nat}(_:1<p)(_:p<4294967296)(_:a<4294967296)(_:Nat.gcd a p=1),AC prog 174 [] [W32 a,W32 p] fun K=>K [] [W32 (ZL p a),I .i64 0]):=⟨fun {a p} h1 h2 ha hg=>by
  refine aEnter func174 rfl ntmps174 rfl fun K C hC hK=> ?_
  have h0:=Nat.mod_lt a (show 0<p by omega)
  repeat(refine zS ?_;intros)
  refine aL4 [6] (fun(r s:Nat) (x y:Int)=>[(7,N r),(8,N s),(9,I .i64 x),(10,I .i64 y)]) (fun _ _ _ _=>[]) (fun r s x y=>Qi9 p a r s x y) (fun _ s _ _=>s) (a % p) p 1 0 (Qi9.start (by omega) hg) (entL (.cons zle (.cons zle (.cons zle (.cons zle .nil)))) zk (HLe.none _)) fun r s x y hI=> ?_
  have hrm:=hI.rm
  have hsm:=hI.sm
  have hxm:=hI.bx
  have hym:=hI.by_
  repeat(refine zS ?_;intros)
  refine zB ?_ ?_<;>intro h
  · have hq1:r/s*s≤r:=Nat.div_mul_le_self r s
    have hq2:r/s≤r:=Nat.div_le_self r s
    have hms:=Nat.mod_lt r (show 0<s by omega)
    have hqb:=hI.qb (show 0<s by omega)
    have hnb:=hI.nb (show 0<s by omega)
    have hnx:=hI.nx
    have hdm:r -r/s*s=r % s:=by have h9:=Nat.div_add_mod r s;rw[Nat.mul_comm] at h9;omega
    repeat(refine zS ?_;intros)
    exact ag4 s (r % s) y (x -((r/s:Nat):Int)*y) (hI.step (by omega)) (entL (.cons zle (.cons zle (.cons zle (.cons zle .nil)))) zk (HLe.none _)) (by omega)
  · obtain rfl:s=0:=by omega
    have⟨hr1,hxi⟩:=hI.done (by omega)
    have⟨ht1,ht2,ht3⟩:=Quf (show 0<p by omega) x
    have hml:=Qej (show 0<p by omega) x
    subst hr1
    repeat(refine zS ?_;intros)
    refine alE (aeRem (x.tmod (p:Int)) zv zv (by omega) rfl) rfl zg ?_
    repeat(refine zS ?_;intros)
    refine alE (aeRem ((md p x:Nat):Int) zv zv (by omega) ht1) rfl zg ?_
    repeat(refine zS ?_;intros)
    exact aRet2 rfl zv zv hK (leI (by rw[hxi])) zle⟩
end Go.Proofs.YtjdpemcnlejpfaaGreatDoor
