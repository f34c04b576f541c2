/-
  AmZ
-/
import Derived.Test.YtjdpemcnlejpfaaGreatDoorAmQ
set_option linter.all false
namespace Go.Am
open Go.RowKit Go.Gx
section
variable{P:Program}{n:Nat}{D:List Deferred}{C:Ctx}{env:Nat→AV}{H:Hp}{Q:Exit→Act→World→Prop}{o:Oper}{a b:AV}{x:Operand}
theorem zv(h:av n env x=a:=by(conv=>lhs;whnf);first |done|fail):av n env x=a:=h
theorem zsl{k:Nat}{a:AV}(h:env k=a:=by(conv=>lhs;whnf);first |done|rfl|fail):env k=a:=h
theorem zk{env0:Nat→AV}{ks:List Nat}(h:EqS env env0 ks:=by(repeat(first | exact .nil| refine .cons zsl zsl ?_));first |done|fail):EqS env env0 ks:=h
theorem zwI{x z:Int}(h:x=z∧ -9223372036854775808≤z∧z≤9223372036854775807:=by omega):IntKind.i64.wrap x=z:=Qwb h
theorem zwU{x z:Int}(h:x=z∧0≤z∧z<4294967296:=by omega):IntKind.u32.wrap x=z:=Qwc h
theorem zwV{x z:Int}(h:x=z∧0≤z∧z<18446744073709551616:=by omega):IntKind.u64.wrap x=z:=Qur h
theorem zw{k:IntKind}{x z:Int}(h:k.wrap x=z:=by first | exact zwI| exact zwU| exact zwV| exact Qwb ⟨rfl,by omega⟩| exact Qwc ⟨rfl,by omega⟩| exact Qur ⟨rfl,by omega⟩| exact zwB ⟨rfl,by omega⟩):k.wrap x=z:=h
theorem zmm{p:Prop}[Decidable p]{a b z:Int}(h:(if p then a else b)=z:=by first | exact if_pos (by omega)| exact if_neg (by omega)| exact rfl):(if p then a else b)=z:=h
theorem zmi{p:Prop}[Decidable p]{a b z:Int}(h:(if p then a else b)=z:=by first | exact if_pos (by omega)| exact if_neg (by omega)):(if p then a else b)=z:=h
theorem zd{p:Prop}[Decidable p]{b:Bool}(h:decide p=b:=by first | exact dT (by assumption)| exact dF (by assumption)| exact dT (by omega)| exact dF (by omega)| exact rfl):decide p=b:=h
theorem leI{k:IntKind}{a b:Int}(h:a=b:=by omega):(I k a).le (I k b):=h▸le_refl _
theorem le0{k:IntKind}:(I k 0).le (I k ((0:Nat):Int)):= .of_eq rfl
theorem le1{k:IntKind}:(I k 1).le (I k ((1:Nat):Int)):= .of_eq rfl
theorem le2{k:IntKind}:(I k 2).le (I k ((2:Nat):Int)):= .of_eq rfl
theorem zle(h:a.le b:=by first | exact le0| exact le1| exact le2| exact le_refl _| exact le_fnv| (show(sl _ [_]).le (sl _ (List.map _ _));first | exact le_l1| exact le_p1 (Nat.le_refl _)| exact le_p1c (Nat.le_refl _))| (show(sl _ [_,_]).le (sl _ (List.map _ _));first | exact le_l2| exact le_p2| exact le_p2c)| (show(sl _ [_,_,_]).le (sl _ (List.map _ _));exact le_l3)| (show(sl _ [_,_,_,_]).le (sl _ (List.map _ _));exact le_l4)| (show(sl _ [_,_,_,_,_]).le (sl _ (List.map _ _));exact le_l5)| exact raw_nm (by assumption)| exact le_cn0| exact le_num (by omega)| exact le_cn (by omega)| exact le_cc (by omega)| exact le_nil| exact nil_num| exact nil_cn| exact le_any| exact leI| (show(Bo (decide _)).le (Bo (decide _));exact leB (by omega))| (show(agg _).le (iv _ _);first | exact le_it0| exact le_sv0 (by first |assumption|rfl)| exact le_sc0 (by first |assumption|rfl)| exact le_it (by omega)| exact le_i0v| exact le_sv (by omega) (by first |assumption|rfl)| exact le_sc (by omega) (by first |assumption|rfl))| (show AV.le (agg _) (agg _);first | exact le_itt (by omega)| exact le_i0| exact le_bz rfl rfl (by omega)| exact le_qtt (by omega))| (show(iv _ _).le (iv _ _);exact le_ivv (by omega))| (show(agg _).le (qv _ _);first | exact le_qt (by omega)| exact le_q0)| (show(qv _ _).le (qv _ _);exact le_qvv (by omega))| (show(sl 2 _).le (sl 2 _);first | exact le_pcv0| exact le_pcc (by omega)| exact le_pcv (by omega)| exact le_pvv (by omega))):a.le b:=h
theorem zg{ops:Array Oper}{g:Option (Nat×Bool)}{r:Bool}(h:AG n env ops g r:=by first | exact agN| exact agS rfl zv rfl| exact agU rfl zv| exact agP rfl zv (by first | (rw[dT (by assumption)];rfl)| (rw[dF (by assumption)];rfl))):AG n env ops g r:=h
theorem q0:(0:Int)=((0:Nat):Int):=rfl
theorem q1:(1:Int)=((1:Nat):Int):=rfl
theorem q2:(2:Int)=((2:Nat):Int):=rfl
theorem q3:(3:Int)=((3:Nat):Int):=rfl
theorem zq{q:Int}{i:Nat}(h:q=(i:Int):=by first | exact q0| exact q1| exact q2| exact q3| exact rfl):q=(i:Int):=h
theorem zcel{a:AV}{l:List AV}(h:Cel a l:=by first | exact .agg| exact .one (by kernel_rfl)):Cel a l:=h
theorem zpt{ps:List (Nat×Operand)}{qs:List (Nat×List AV)}(h:Parts n env ps qs:=by(repeat(first | exact .nil| apply Parts.cons zv zcel));first |done|fail):Parts n env ps qs:=h
theorem eTT:(true==true)=true:=rfl
theorem eFF:(false==false)=true:=rfl
theorem eTF:(true==false)=false:=rfl
theorem eFT:(false==true)=false:=rfl
theorem zbe{a b r:Bool}(h:(a==b)=r:=by first | exact eTT| exact eFF| exact eTF| exact eFT| exact rfl):(a==b)=r:=h
theorem nTT:(true !=true)=false:=rfl
theorem nFF:(false !=false)=false:=rfl
theorem nTF:(true !=false)=true:=rfl
theorem nFT:(false !=true)=true:=rfl
theorem nXX{b:Bool}:(b !=b)=false:=by cases b<;>rfl
theorem zbn{a b r:Bool}(h:(a !=b)=r:=by first | exact nTT| exact nFF| exact nTF| exact nFT| exact nXX| exact rfl):(a !=b)=r:=h
theorem nT:(!true)=false:=rfl
theorem nF:(!false)=true:=rfl
theorem nD{p:Prop}[Decidable p]:(!decide p)=decide (¬p):=by by_cases h:p<;>simp [h]
theorem zbx{a r:Bool}(h:(!a)=r:=by first | exact nT| exact nF| exact nD| exact rfl):(!a)=r:=h
theorem spc{l t t':List AV}{a:AV}(h:l=a::t)(k:t=t'):l=a::t':=h.trans (congrArg _ k)
theorem zl{l t:List AV}{a:AV}(h:l=a::t:=by(conv=>lhs;whnf);first |done|fail):l=a::t:=h
theorem znl{l:List AV}(h:l=[]:=by(conv=>lhs;whnf);first |done|fail):l=[]:=h
theorem spv{l t t':List AV}{a a':AV}(h:l=a::t)(e:a=a')(k:t=t'):l=a'::t':=h.trans (by rw[e,k])
theorem zev{a b:AV}(h:a=b:=by(conv=>lhs;whnf);first |done|rfl|fail):a=b:=h
theorem zLv{l l':List AV}(h:l=l':=by(repeat(first | exact znl| apply spv zl zev));first |done|fail):l=l':=h
theorem zL{l l':List AV}(h:l=l':=by(repeat(first | exact znl| apply spc zl));first |done|fail):l=l':=h
section
variable{d:Option Nat}{ty:TypeId}{pos:String}{af:Array Edge}{gd:Option (Nat×Bool)}{t t':TypeId}{y:Operand}
theorem aeBuildN{zs L' L2:List AV}{pl:List (Nat×Nat)}[c:TB P t zs pl]{ps:List (Nat×Operand)}{qs:List (Nat×List AV)}(hp:Parts n env ps qs)(hf:fillA pl zs qs=some L')(hL:L'=L2):AE P n C env H .no ⟨d,.build t ps.toArray,ty,pos,af,gd⟩ (agg L2):=hL▸aeBuild hp hf
theorem aoStAN{s z g i:Nat}[c:TS P t s]{l l' l2:List AV}(hx:av n env x=lpt z g i)(hz:z=1)(hy:av n env y=agg l')(j:Nat)(hj:H[j]? =some (some g,.arr t' 1 l))(h1:l'.all isOne=true)(hs:l'.length=s)(hi:i+s≤l.length)(hL:l.take i++(l'++l.drop (i+s))=l2):
    AO P n D C env H (· =g) ⟨none,.store t x y,ty,pos,af,gd⟩ (fun K=>K env (H.set j (some g,.arr t' 1 l2))):=hL▸aoStA hx hz hy j hj h1 hs hi
end
theorem ye{m:Rk}(h:AE P n C env H m o a:=by
  first
  | (show AE _ _ _ _ _ _ ⟨_,.move _,_,_,_,_⟩ _;exact aeMove zv)
  | (show AE _ _ _ _ _ _ ⟨_,.assign _,_,_,_,_⟩ _;exact aeAssign zv)
  | (show AE _ _ _ _ _ _ ⟨_,.extract _ _,_,_,_,_⟩ _;exact aeExt zv rfl)
  | (show AE _ _ _ _ _ _ ⟨_,.pick _ _ _,_,_,_,_⟩ _;exact aePick zv zv)
  | (show AE _ _ _ _ _ _ ⟨_,.binOp .add _ _ _ _,_,_,_,_⟩ _;first | exact aeAddL zv zv zw| exact aeAddN zv zv zw| exact aeAdd _ zv zv zw| exact aeAddM zv zv)
  | (show AE _ _ _ _ _ _ ⟨_,.binOp .sub _ _ _ _,_,_,_,_⟩ _;first | exact aeSubL zv zv (by omega) zw| exact aeSubN zv zv (by omega) zw| exact aeSub _ zv zv zw| exact aeSubM zv zv (by omega))
  | (show AE _ _ _ _ _ _ ⟨_,.binOp .mul _ _ _ _,_,_,_,_⟩ _;first | exact aeMulL zv zv zw| exact aeLMul zv zv zw| exact aeMulN zv zv zw| exact aeMulV zv zv| exact aeMulU zv zv| exact aeMul _ zv zv zw)
  | (show AE _ _ _ _ _ _ ⟨_,.binOp .quo _ _ _ _,_,_,_,_⟩ _;first | exact aeQuoL zv zv (by omega) zw (by simp)| exact aeQuoN zv zv (by omega) zw (by simp)| exact aeQuo _ zv zv (by omega) zw)
  | (show AE _ _ _ _ _ _ ⟨_,.binOp .rem _ _ _ _,_,_,_,_⟩ _;first | exact aeRemL zv zv (by omega)| exact aeRemN zv zv (by omega)| exact aeRem _ zv zv (by omega) (Int.tmod_eq_of_lt (by omega) (by omega)))
  | (show AE _ _ _ _ _ _ ⟨_,.binOp .shr _ _ _ _,_,_,_,_⟩ _;first | exact aeShrL zv zv rfl| exact aeShrN zv zv rfl| exact aeShrV zv zv (by omega))
  | (show AE _ _ _ _ _ _ ⟨_,.binOp .shl _ _ _ _,_,_,_,_⟩ _;first | exact aeShlL zv zv rfl (by omega)| exact aeShlN zv zv (by omega) (by omega)| exact aeShl1 zv zv (by omega))
  | (show AE _ _ _ _ _ _ ⟨_,.binOp .and _ _ _ _,_,_,_,_⟩ _;first | exact aeBit zv zv (by omega)| exact aeBitI zv zv (by omega)| exact aeAnd zv zv)
  | (show AE _ _ _ _ _ _ ⟨_,.binOp .or _ _ _ _,_,_,_,_⟩ _;first | exact aeOrL zv zv (by omega) (by omega) (by omega)| exact aeOrH zv zv (by omega) (by omega) (by omega)| exact aeOr64 _ zv zv (by omega) (by omega) (by assumption)| exact aeOr32 _ zv zv (by omega) (by omega) (by assumption)| exact aeOr zv zv)
  | (show AE _ _ _ _ _ _ ⟨_,.binOp .xor _ _ _ _,_,_,_,_⟩ _;exact aeXor zv zv)
  | (show AE _ _ _ _ _ _ ⟨_,.unOp .xor _ _,_,_,_,_⟩ _;exact aeInv zv)
  | (show AE _ _ _ _ _ _ ⟨_,.binOp .lss _ _ _ _,_,_,_,_⟩ _;exact aeLss _ zv zv zd)
  | (show AE _ _ _ _ _ _ ⟨_,.binOp .leq _ _ _ _,_,_,_,_⟩ _;exact aeLeq _ zv zv zd)
  | (show AE _ _ _ _ _ _ ⟨_,.binOp .gtr _ _ _ _,_,_,_,_⟩ _;exact aeGtr _ zv zv zd)
  | (show AE _ _ _ _ _ _ ⟨_,.binOp .geq _ _ _ _,_,_,_,_⟩ _;exact aeGeq _ zv zv zd)
  | (show AE _ _ _ _ _ _ ⟨_,.binOp .eql _ _ _ _,_,_,_,_⟩ _;first | exact aeEql _ zv zv zd| exact aeEqlB _ zv zv zbe)
  | (show AE _ _ _ _ _ _ ⟨_,.binOp .neq _ _ _ _,_,_,_,_⟩ _;first | exact aeNeq _ zv zv zd| exact aeNeqB _ zv zv zbn)
  | (show AE _ _ _ _ _ _ ⟨_,.unOp .not _ _,_,_,_,_⟩ _;exact aeNot _ zv zbx)
  | (show AE _ _ _ _ _ _ ⟨_,.unOp .neg _ _,_,_,_,_⟩ _;first | exact aeNegU zv (by omega) (by omega)| exact aeNeg _ zv zw)
  | (show AE _ _ _ _ _ _ ⟨_,.convert _ _ _,_,_,_,_⟩ _;first | exact aeConv _ zv zw| exact aeCvM zv)
  | (show AE _ _ _ _ _ _ ⟨_,.load _ _,_,_,_,_⟩ _
     first
     | exact aeLdE zv (by kernel_rfl)
     | exact aeLdW zv 0 (by exact rfl) zL (by exact rfl) (by kernel_rfl)| exact aeLdW zv 1 (by exact rfl) zL (by exact rfl) (by kernel_rfl)| exact aeLdW zv 2 (by exact rfl) zL (by exact rfl) (by kernel_rfl)| exact aeLdW zv 3 (by exact rfl) zL (by exact rfl) (by kernel_rfl)| exact aeLdW zv 4 (by exact rfl) zL (by exact rfl) (by kernel_rfl)| exact aeLdW zv 5 (by exact rfl) zL (by exact rfl) (by kernel_rfl)| exact aeLdW zv 6 (by exact rfl) zL (by exact rfl) (by kernel_rfl)| exact aeLdW zv 7 (by exact rfl) zL (by exact rfl) (by kernel_rfl)
     | exact aeLdO zv 0 (by exact rfl) rfl (by kernel_rfl)| exact aeLdO zv 1 (by exact rfl) rfl (by kernel_rfl)| exact aeLdO zv 2 (by exact rfl) rfl (by kernel_rfl)| exact aeLdO zv 3 (by exact rfl) rfl (by kernel_rfl)| exact aeLdO zv 4 (by exact rfl) rfl (by kernel_rfl)| exact aeLdO zv 5 (by exact rfl) rfl (by kernel_rfl)| exact aeLdO zv 6 (by exact rfl) rfl (by kernel_rfl)| exact aeLdO zv 7 (by exact rfl) rfl (by kernel_rfl)| exact aeLdO zv 8 (by exact rfl) rfl (by kernel_rfl)| exact aeLdO zv 9 (by exact rfl) rfl (by kernel_rfl)| exact aeLdO0 zv 0 (by exact rfl) (by kernel_rfl)| exact aeLdO0 zv 1 (by exact rfl) (by kernel_rfl)| exact aeLdO0 zv 2 (by exact rfl) (by kernel_rfl)| exact aeLdO0 zv 3 (by exact rfl) (by kernel_rfl)| exact aeLdO0 zv 4 (by exact rfl) (by kernel_rfl)| exact aeLdO0 zv 5 (by exact rfl) (by kernel_rfl)
     | exact aeLdM zv 0 (by exact rfl) lq (by kernel_rfl)| exact aeLdM zv 1 (by exact rfl) lq (by kernel_rfl)| exact aeLdM zv 2 (by exact rfl) lq (by kernel_rfl)| exact aeLdM zv 3 (by exact rfl) lq (by kernel_rfl))
  | (show AE _ _ _ _ _ _ ⟨_,.indexAddr _ _ _,_,_,_,_⟩ _
     first
     | exact aeIxM _ zv zv zq (by omega)| exact aeIxO0 _ zv zv zq (by omega)| exact aeIxO _ zv zv zq (by omega)
     | exact aeIxS zv zv (by omega) (by omega)| exact aeIxSO zv zv (by omega) (by omega)
     | exact aeIxM _ zv zv (Int.toNat_of_nonneg (by omega)).symm (by omega)| exact aeIxO0 _ zv zv (Int.toNat_of_nonneg (by omega)).symm (by omega)| exact aeIxO _ zv zv (Int.toNat_of_nonneg (by omega)).symm (by omega)
     | exact aeIx _ zv zv zq rfl
     | exact aeIxT (by exact rfl) zv (by omega)
     | exact aeIxA 0 zv zv (by exact rfl) (by omega)| exact aeIxA 1 zv zv (by exact rfl) (by omega)| exact aeIxA _ zv zv zq (by omega))
  | (show AE _ _ _ _ _ _ ⟨_,.fieldAddr _ _ _,_,_,_,_⟩ _;first | exact aeFaO zv| exact aeFa1 zv rfl (by kernel_rfl))
  | (show AE _ _ _ _ _ _ ⟨_,.slice _ _ none (some _) _,_,_,_,_⟩ _;first | exact aeHiM _ zv zv zq (by omega)| exact aeHiO _ zv zv zq (by omega))
  | (show AE _ _ _ _ _ _ ⟨_,.slice _ _ (some _) none _,_,_,_,_⟩ _;first | exact aeLoM _ zv zv zq (by omega)| exact aeLoO0 _ zv zv zq (by omega) (by omega)| exact aeLoO _ zv zv zq (by omega) (by omega))
  | (show AE _ _ _ _ _ _ ⟨_,.slice _ _ (some _) (some _) _,_,_,_,_⟩ _;first | exact aeLHM _ _ zv zv zv zq zq (by omega) (by omega)| exact aeLHO0 _ _ zv zv zv zq zq (by omega) (by omega)| exact aeLHO _ _ zv zv zv zq zq (by omega) (by omega))
  | (show AE _ _ _ _ _ _ ⟨_,.build _ _,_,_,_,_⟩ _;first | exact aeBuildN zpt (by exact rfl) zL| exact aeBuild2 zv zv (by first | exact isSl_sl| exact isSl_gh| exact isSl_nil) (by first | exact isSl_sl| exact isSl_gh| exact isSl_nil))
  | (show AE _ _ _ _ _ _ ⟨_,.makeFunc _ _ _,_,_,_,_⟩ _;exact aeMkF)
  | (show AE _ _ _ _ _ _ ⟨_,.index _ _ _,_,_,_,_⟩ _;exact aeTab zv (by kernel_rfl) zv (by omega))
  | (show AE _ _ _ _ _ _ ⟨_,.nilCheck _,_,_,_,_⟩ _;exact aeNil zv)
  | (show AE _ _ _ _ _ _ ⟨_,.call _,_,_,_,_⟩ _;first | exact aeMaxN zv zv| exact aeMinN zv zv| exact aeMax _ zv zv zmi| exact aeMin _ zv zv zmi| exact aeMaxZ zv zv| exact aeMaxZ' zv zv| exact aeMax _ zv zv zmm| exact aeMin _ zv zv zmm| exact aeLenO zv| exact aeLenG zv| exact aeLenM zv| exact aeLen zv| exact aeLen0 zv)):AE P n C env H m o a:=h
theorem zcs{l l':List AV}(h:Les l l':=by(repeat(first | exact .nil| refine .cons zle ?_));first |done|fail):Les l l':=h
theorem zas{xs:List Operand}{cs l:List AV}(h:Args n C env H (fun _=>False) xs cs l:=by(repeat(first | exact agNil zcs| refine agC zv zle ?_));first |done|fail):Args n C env H (fun _=>False) xs cs l:=h
theorem zasB{xs:List Operand}{cs l:List AV}(h:Args n C env H (inH H) xs cs l:=by(repeat(first | exact agNil zcs| refine agC zv zle ?_| refine agO zv 0 (by exact rfl) (by omega) ⟨_,.head _,rfl⟩ zle ?_| refine agO zv 1 (by exact rfl) (by omega) ⟨_,.tail _ (.head _),rfl⟩ zle ?_));first |done|fail):Args n C env H (inH H) xs cs l:=h
theorem dlt{ds:List Nat}{i:Nat}(h: ∀d∈ds,d<BS):ds.getD i 0<4294967296:=by
  rcases Nat.lt_or_ge i ds.length with hi|hi
  · simp only[List.getD,List.getElem?_eq_getElem hi,Option.getD_some];exact h _ (List.getElem_mem hi)
  · simp [List.getD,List.getElem?_eq_none hi]
theorem zpre{p:Prop}(h:p:=by first |with_reducible assumption|omega| exact rfl| exact dlt (by assumption)| (intros;omega)| exact .inl rfl| exact .inr rfl| exact .inl ⟨rfl,rfl⟩| exact .inr ⟨rfl,rfl⟩| exact .inl ⟨rfl,rfl,rfl,rfl⟩| exact .inr (.inl ⟨rfl,rfl,rfl,rfl⟩)| exact .inr (.inr ⟨rfl,rfl⟩)):p:=h
def AOF(f:FuncId)(cs:List AV)(x:Operand)(n:Nat)(env:Nat→AV)(q:Prop):Prop:=(av n env x).le (fnv f cs)→q
section
variable{p:Prop}{d:Nat}{ty:TypeId}{pos:String}{af:Array Edge}{gd:Option (Nat×Bool)}{ts:Array TypeId}{xs:List Operand}{f:FuncId}{Φ:(Hp→List AV→Prop)→Prop}[c:TC P f][t:TK P f p]{cs args:List AV}
theorem zcall(h:p→Args n C env H (fun _=>False) xs [] args∧AC P f [] args Φ:=by
    intro z
    constructor
    rotate_left
    apply z
    rotate_right
    exact zas
    all_goals(exact zpre)
    first |done|fail)(hT:env gS=gT:=by exact rfl):
    AO P n D C env H (fun _=>False) ⟨some d,.call {callee:= .value (.func f),args:=xs.toArray,argTypes:=ts},ty,pos,af,gd⟩ (fun K=>Φ fun N r=>K (updA env d (tupA r)) (hApp N H)):=
  aoCall le_fnv (h t.k).2 (h t.k).1 hT
theorem zcallX{Φ:(Hp→List AV→Prop)→Prop}(hc:AC P f [] args Φ)(h:Args n C env H (fun _=>False) xs [] args:=by exact zas)(hT:env gS=gT:=by exact rfl):
    AO P n D C env H (fun _=>False) ⟨some d,.call {callee:= .value (.func f),args:=xs.toArray,argTypes:=ts},ty,pos,af,gd⟩ (fun K=>Φ fun N r=>K (updA env d (tupA r)) (hApp N H)):=
  aoCall le_fnv hc h hT
theorem zcallB(h:p→Args n C env H (inH H) xs [] args∧AC P f [] args Φ:=by
    intro z
    constructor
    rotate_left
    apply z
    rotate_right
    exact zasB
    all_goals(exact zpre)
    first |done|fail)(hT:env gS=gT:=by exact rfl):
    AO P n D C env H (fun _=>False) ⟨some d,.call {callee:= .value (.func f),args:=xs.toArray,argTypes:=ts},ty,pos,af,gd⟩ (fun K=>Φ fun _ r=>Cls r∧K (updA env d (tupA r)) H):=
  aoCallB le_fnv (h t.k).2 (h t.k).1 hT
theorem zcallG{g:Nat}{o:Ob}(j:Nat)(hj:H[j]? =some (some g,o))(h:p→Args n C env H (fun _=>False) xs [] args∧AC P f [(some g,o)] args Φ:=by
    intro z
    constructor
    rotate_left
    apply z
    rotate_right
    exact zas
    all_goals(exact zpre)
    first |done|fail)(hT:env gS=gT:=by exact rfl):
    AO P n D C env H (· =g) ⟨some d,.call {callee:= .value (.func f),args:=xs.toArray,argTypes:=ts},ty,pos,af,gd⟩ (fun K=>Φ fun N r=>match N with | [(some g',o')]=>g'=g∧K (updA env d (tupA r)) (H.set j (some g,o'))|_=>False):=
  aoCallF (x:= .func f) le_fnv j hj (h t.k).2 (h t.k).1 hT
theorem zcallO{k:Option Nat}{o:Ob}(j:Nat)(hj:H[j]? =some (k,o))(h:p→Args n C env H (fun _=>False) xs [] args∧AC P f [(k,o)] args Φ:=by
    intro z
    constructor
    rotate_left
    apply z
    rotate_right
    exact zas
    all_goals(exact zpre)
    first |done|fail)(hT:env gS=gT:=by exact rfl):
    AO P n D C env H (fun b=>k=some b) ⟨some d,.call {callee:= .value (.func f),args:=xs.toArray,argTypes:=ts},ty,pos,af,gd⟩ (fun K=>Φ fun N r=>match N with | [(k',o')]=>k'=k∧K (updA env d (tupA r)) (H.set j (k,o'))|_=>False):=
  aoCallO (x:= .func f) le_fnv j hj (h t.k).2 (h t.k).1 hT
theorem zcallC(h:p→Args n C env H (fun _=>False) xs cs args∧AC P f [] args Φ:=by
    intro z
    constructor
    rotate_left
    apply z
    rotate_right
    exact zas
    all_goals(exact zpre)
    first |done|fail)(hT:env gS=gT:=by exact rfl):
    AOF f cs x n env (AO P n D C env H (fun _=>False) ⟨some d,.call {callee:= .value x,args:=xs.toArray,argTypes:=ts},ty,pos,af,gd⟩ fun K=>Φ fun N r=>K (updA env d (tupA r)) (hApp N H)):=
  fun hx=>aoCall hx (h t.k).2 (h t.k).1 hT
theorem zcallF{g:Nat}{o:Ob}(j:Nat)(hj:H[j]? =some (some g,o))(h:p→Args n C env H (fun _=>False) xs cs args∧AC P f [(some g,o)] args Φ:=by
    intro z
    constructor
    rotate_left
    apply z
    rotate_right
    exact zas
    all_goals(exact zpre)
    first |done|fail)(hT:env gS=gT:=by exact rfl):
    AOF f cs x n env (AO P n D C env H (· =g) ⟨some d,.call {callee:= .value x,args:=xs.toArray,argTypes:=ts},ty,pos,af,gd⟩ fun K=>Φ fun N r=>match N with | [(some g',o')]=>g'=g∧K (updA env d (tupA r)) (H.set j (some g,o'))|_=>False):=
  fun hx=>aoCallF hx j hj (h t.k).2 (h t.k).1 hT
end
theorem zfw{W:Nat→Prop}{f:FuncId}{cs:List AV}{ty:TypeId}{pos:String}{af:Array Edge}{gd:Option (Nat×Bool)}{ts:Array TypeId}{d:Option Nat}{as:Array Operand}{Ψ:((Nat→AV)→Hp→Prop)→Prop}(hx:av n env x=fnv f cs)(k:AOF f cs x n env (AO P n D C env H W ⟨d,.call {callee:= .value x,args:=as,argTypes:=ts},ty,pos,af,gd⟩ Ψ):=by first | exact zcallC| exact zcallF 0 (by exact rfl)| exact zcallF 1 (by exact rfl)| exact zcallF 2 (by exact rfl)):AO P n D C env H W ⟨d,.call {callee:= .value x,args:=as,argTypes:=ts},ty,pos,af,gd⟩ Ψ:=k (.of_eq hx)
theorem zo{W:Nat→Prop}{Ψ:((Nat→AV)→Hp→Prop)→Prop}(h:AO P n D C env H W o Ψ:=by
  first
  | (show AO _ _ _ _ _ _ _ ⟨_,.box _ _,_,_,_,_⟩ _;first | exact aoBoxA zv (by kernel_rfl)| exact aoBox zv (by kernel_rfl))
  | (show AO _ _ _ _ _ _ _ ⟨_,.alloc _,_,_,_,_⟩ _;exact aoAlloc)
  | (show AO _ _ _ _ _ _ _ ⟨_,.store _ _ _,_,_,_,_⟩ _
     first
     | exact aoStM _ zv zv 0 (by exact rfl) zle lq (by kernel_rfl) rfl| exact aoStM _ zv zv 1 (by exact rfl) zle lq (by kernel_rfl) rfl| exact aoStM _ zv zv 2 (by exact rfl) zle lq (by kernel_rfl) rfl
     | exact aoStI zv zv 0 (by exact rfl) lq| exact aoStI zv zv 1 (by exact rfl) lq| exact aoStI zv zv 2 (by exact rfl) lq
     | exact aoStAN zv rfl zv 0 (by exact rfl) (by kernel_rfl) (by exact rfl) (by exact Nat.le_of_ble_eq_true rfl) zL| exact aoStAN zv rfl zv 1 (by exact rfl) (by kernel_rfl) (by exact rfl) (by exact Nat.le_of_ble_eq_true rfl) zL| exact aoStAN zv rfl zv 2 (by exact rfl) (by kernel_rfl) (by exact rfl) (by exact Nat.le_of_ble_eq_true rfl) zL| exact aoStAN zv rfl zv 3 (by exact rfl) (by kernel_rfl) (by exact rfl) (by exact Nat.le_of_ble_eq_true rfl) zL| exact aoStAN zv rfl zv 4 (by exact rfl) (by kernel_rfl) (by exact rfl) (by exact Nat.le_of_ble_eq_true rfl) zL| exact aoStAN zv rfl zv 5 (by exact rfl) (by kernel_rfl) (by exact rfl) (by exact Nat.le_of_ble_eq_true rfl) zL| exact aoStAN zv rfl zv 6 (by exact rfl) (by kernel_rfl) (by exact rfl) (by exact Nat.le_of_ble_eq_true rfl) zL| exact aoStAN zv rfl zv 7 (by exact rfl) (by kernel_rfl) (by exact rfl) (by exact Nat.le_of_ble_eq_true rfl) zL
     | exact aoSt zv zv 0 (by exact rfl) (by exact Nat.le_of_ble_eq_true rfl) (by kernel_rfl) rfl| exact aoSt zv zv 1 (by exact rfl) (by exact Nat.le_of_ble_eq_true rfl) (by kernel_rfl) rfl| exact aoSt zv zv 2 (by exact rfl) (by exact Nat.le_of_ble_eq_true rfl) (by kernel_rfl) rfl| exact aoSt zv zv 3 (by exact rfl) (by exact Nat.le_of_ble_eq_true rfl) (by kernel_rfl) rfl| exact aoSt zv zv 4 (by exact rfl) (by exact Nat.le_of_ble_eq_true rfl) (by kernel_rfl) rfl| exact aoSt zv zv 5 (by exact rfl) (by exact Nat.le_of_ble_eq_true rfl) (by kernel_rfl) rfl
     | exact aoStW zv zv 0 (by exact rfl) (by kernel_rfl) (by exact rfl)| exact aoStW zv zv 1 (by exact rfl) (by kernel_rfl) (by exact rfl)| exact aoStW zv zv 2 (by exact rfl) (by kernel_rfl) (by exact rfl))
  | (show AO _ _ _ _ _ _ _ ⟨_,.makeSlice _ _ _,_,_,_,_⟩ _;exact aoMakeZ zv zv (by omega) (by omega) rfl)
  | (show AO _ _ _ _ _ _ _ ⟨_,.buildSlice _ _ _,_,_,_,_⟩ _;exact aoLit _ rfl zLv (by kernel_rfl) rfl)
  | (show AO _ _ _ _ _ _ _ ⟨_,.call {callee:= .builtin .append,args:=_,argTypes:=_},_,_,_,_⟩ _
     first
     | exact aoApp0 zv (src_sl zv) ⟨rfl,rfl⟩ (by simp only[List.length_cons,List.length_nil,List.length_map];omega) (by simp only[List.length_cons,List.length_nil,List.length_map];omega)
     | exact aoApp zv (src_sl zv) 0 (by exact rfl) (by simp only[List.length_map];try omega) (by exact⟨rfl,rfl⟩) (by simp only[List.length_cons,List.length_nil,List.length_map];omega) (by simp only[List.length_cons,List.length_nil,List.length_map];omega)
     | exact aoApp zv (src_sl zv) 1 (by exact rfl) (by simp only[List.length_map];try omega) (by exact⟨rfl,rfl⟩) (by simp only[List.length_cons,List.length_nil,List.length_map];omega) (by simp only[List.length_cons,List.length_nil,List.length_map];omega))
  | (show AO _ _ _ _ _ _ _ ⟨_,.call {callee:= .builtin .copy,args:=_,argTypes:=_},_,_,_,_⟩ _;first | exact aoCopy zv (src_sl zv) 0 (by exact rfl) lq lq| exact aoCopy zv (src_sl zv) 1 (by exact rfl) lq lq)
  | (show AO _ _ _ _ _ _ _ ⟨_,.call {callee:= .value _,args:=_,argTypes:=_},_,_,_,_⟩ _
     first
     | exact zcallX (by with_reducible assumption)| exact zcall| exact zcallG 0 (by exact rfl)| exact zcallG 1 (by exact rfl)| exact zcallG 2 (by exact rfl)
     | exact zfw zv
     | exact zcallB)):AO P n D C env H W o Ψ:=h
theorem zr{rs:List ResultVar}{l:List AV}(h:ARs P n C env H rs l:=by
  repeat
    first
    | exact arN
    | refine arT zv zle ?_
    | refine arW0 zv 0 (by exact rfl) (by exact rfl) (by kernel_rfl) zle ?_| refine arW0 zv 1 (by exact rfl) (by exact rfl) (by kernel_rfl) zle ?_| refine arW0 zv 2 (by exact rfl) (by exact rfl) (by kernel_rfl) zle ?_
    | refine arC zv 0 (by exact rfl) (by exact rfl) (by kernel_rfl) zle ?_| refine arC zv 1 (by exact rfl) (by exact rfl) (by kernel_rfl) zle ?_| refine arC zv 2 (by exact rfl) (by exact rfl) (by kernel_rfl) zle ?_
  first |done|fail):ARs P n C env H rs l:=h
theorem aRZ{fn:Func}{rs:List ResultVar}{L:Hp→List AV→Prop}{l:List AV}(hr:fn.results=rs.toArray)(k:L [] l)(h:ARs P n C env H rs l:=by exact zr)(h4:Nat.ble rs.length 4=true:=by exact rfl):AX n [] C (bodyPost P fn (Ret (Post C L))) .ret env H:=aRet hr h4 (List.nil_sublist _) h k
theorem tb1{i j g b:Nat}(h:b=g∨i≠j): ∀b',(i,b')∈[(j,g)]→b=b':=fun b' hb=>by
  obtain⟨rfl,rfl⟩:=Prod.mk.inj (List.mem_singleton.1 hb);exact h.elim id fun h=>absurd rfl h
theorem tb2{i j j' g g' b:Nat}(h:b=g∨i≠j)(h':b=g'∨i≠j'): ∀b',(i,b')∈[(j,g),(j',g')]→b=b':=fun b' hb=>by
  rcases List.mem_cons.1 hb with hb|hb
  · obtain⟨rfl,rfl⟩:=Prod.mk.inj hb;exact h.elim id fun h=>absurd rfl h
  · exact tb1 h' b' hb
theorem zwr{W G:Nat→Prop}(h: ∀b,W b→G b:=by first | exact fun _ h=>h.elim| (refine fun _ hb=>⟨?_,?_⟩;(show wrB _ _ _=true;kernel_rfl);first | exact fun _ h=>(List.not_mem_nil h).elim| exact tb1 (.inl hb)| exact tb1 (.inr (by decide))| exact tb2 (.inl hb) (.inr (by decide))| exact tb2 (.inr (by decide)) (.inl hb)| exact tb2 (.inr (by decide)) (.inr (by decide)))): ∀b,W b→G b:=h
theorem zjs{tb js:List (Nat×Nat)}{q:Nat}(h: ∀p∈js,p.2≠q∧ ∃b o',H[p.2]? =some (some b,o')∧(p.1,b)∈tb:=by
  intro p hp
  simp only[List.mem_cons,List.not_mem_nil,or_false] at hp
  rcases hp with rfl|rfl<;>exact⟨by decide,_,_,rfl,by first | exact .head _| exact .tail _ (.head _)⟩): ∀p∈js,p.2≠q∧ ∃b o',H[p.2]? =some (some b,o')∧(p.1,b)∈tb:=h
theorem zjs1{tb:List (Nat×Nat)}{q i j:Nat}(h:(i,j).2≠q∧ ∃b o',H[(i,j).2]? =some (some b,o')∧((i,j).1,b)∈tb:=by exact⟨by decide,_,_,rfl,by first | exact .head _| exact .tail _ (.head _)⟩): ∀p∈[(i,j)],p.2≠q∧ ∃b o',H[p.2]? =some (some b,o')∧(p.1,b)∈tb:=fun p hp=>by
  obtain rfl:=List.mem_singleton.1 hp;exact h
theorem zno{p:Prop}(h: ¬p:=by first |assumption|omega): ¬p:=h
theorem zS{G H:Prop}(k:H)(h:H→G:=by
  intro k
  first
  | (show AL _ _ _ _ _ _ _ _ _
     first
     | exact alN k
     | exact alLen zv zg k
     | exact alE ye rfl zg k
     | exact alO zo zg k
     | exact alS rfl zg k)
  | (show AD _ _ _ _ _ _ _ _ _ _ _
     first
     | exact adN (by kernel_rfl) k
     | exact adLen (by exact rfl) zv zg (by kernel_rfl) k
     | exact adEn (by exact rfl) ye (by exact rfl) zg (by kernel_rfl) k
     | exact adEr (by exact rfl) ye (by exact rfl) zg (by kernel_rfl) k
     | exact adS (by exact rfl) (by exact rfl) zg (by kernel_rfl) k
     | exact adO (by exact rfl) zo zg (by kernel_rfl) zwr k)
  | (show AW _ _ _ _ _ _ _ _
     first
     | exact aSeq k| exact aReg k| exact aDrI k| exact aDr0 k| exact aT zv k| exact aF zv k| exact aBk k| exact aSk k| exact aXt k| exact aRt k| exact aSc k| exact aLb k)
  | (show AT _ _ _ _ _ _ _ _
     first
     | exact atSeq k| exact atBk k
     | (show AT _ _ _ _ (.region _ _ _) _ _ _;exact atW k)| (show AT _ _ _ _ (.cond _ _ _) _ _ _;exact atW k)| (show AT _ _ _ _ .ret _ _ _;exact atW k)| (show AT _ _ _ _ .skip _ _ _;exact atW k)| (show AT _ _ _ _ (.loop _) _ _ _;exact atW k)| (show AT _ _ _ _ (.exit _) _ _ _;exact atW k))
  | (show AX _ _ _ _ _ _ _
     first
     | exact axT k| exact axtE k| exact axtR k
     | exact axN k| exact axSE k| exact axSR k| exact axE k| exact axR k| exact axbN k| exact axbE k| exact axbR k| exact axbO rfl k| exact axgN k| exact axgE k| exact axgR k)
  | (show(_→_)∧(_→_);first | exact⟨fun _=>k,fun h=>absurd h zno⟩| exact⟨fun h=>absurd h zno,fun _=>k⟩)
  | (show _=_∧_;exact⟨rfl,k⟩)
  | (show Cls _∧_;exact⟨inferInstance,k⟩)):G:=h k
theorem zR{G H:Prop}(k:H)(h:H→G:=by
  intro k
  first
  | exact adN (by decide+kernel) k
  | exact adPn 0 (by exact rfl) (by decide+kernel) (by exact rfl) ye (by exact rfl) zg k
  | exact adPr 0 (by exact rfl) (by decide+kernel) (by exact rfl) ye (by exact rfl) zg k
  | exact adPn 1 (by exact rfl) (by decide+kernel) (by exact rfl) ye (by exact rfl) zg k
  | exact adPr 1 (by exact rfl) (by decide+kernel) (by exact rfl) ye (by exact rfl) zg k
  | exact adPn 2 (by exact rfl) (by decide+kernel) (by exact rfl) ye (by exact rfl) zg k
  | exact adPr 2 (by exact rfl) (by decide+kernel) (by exact rfl) ye (by exact rfl) zg k
  | exact adPn 3 (by exact rfl) (by decide+kernel) (by exact rfl) ye (by exact rfl) zg k
  | exact adPr 3 (by exact rfl) (by decide+kernel) (by exact rfl) ye (by exact rfl) zg k
  | exact adPn 4 (by exact rfl) (by decide+kernel) (by exact rfl) ye (by exact rfl) zg k
  | exact adPr 4 (by exact rfl) (by decide+kernel) (by exact rfl) ye (by exact rfl) zg k):G:=h k
theorem zst{H G:Prop}(k:H)(h:H→G:=by
  intro k
  first
  | exact stp 0 (by exact rfl) (by exact rfl) zo zg zwr k
  | exact stp 1 (by exact rfl) (by exact rfl) zo zg zwr k
  | exact stp 2 (by exact rfl) (by exact rfl) zo zg zwr k
  | exact stp 3 (by exact rfl) (by exact rfl) zo zg zwr k
  | exact stp 4 (by exact rfl) (by exact rfl) zo zg zwr k
  | exact stp 0 (by exact rfl) (by exact rfl) (aoE ye (by exact rfl)) zg zwr k
  | exact stp 1 (by exact rfl) (by exact rfl) (aoE ye (by exact rfl)) zg zwr k
  | exact stp 2 (by exact rfl) (by exact rfl) (aoE ye (by exact rfl)) zg zwr k
  | exact stp 3 (by exact rfl) (by exact rfl) (aoE ye (by exact rfl)) zg zwr k
  | exact stp 4 (by exact rfl) (by exact rfl) (aoE ye (by exact rfl)) zg zwr k):G:=h k
theorem zC{G H:Prop}(k:H)(h:H→G:=by
  intro k
  show(_→_)∧(_→_)
  first | exact⟨fun _=>k,fun h=>absurd h zno⟩| exact⟨fun h=>absurd h zno,fun _=>k⟩):G:=h k
theorem zB{G H K:Prop}(k:H)(k':K)(h:H→K→G:=by
  intro k k'
  first
  | (show AL _ _ _ _ _ _ _ _ _;exact alSp rfl rfl zv k k')
  | (show AD _ _ _ _ _ _ _ _ _ _ _;exact adSp rfl rfl rfl zv k k')
  | (show AW _ _ _ _ _ _ _ _;exact aD zv k k')
  | (show(_→_)∧(_→_);exact⟨k,k'⟩)):G:=h k k'
end
end Go.Am
