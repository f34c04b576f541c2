/-
  F2, F3, F4, F5, F6, F7
-/
import Derived.Test.YtjdpemcnlejpfaaGreatDoorH4
set_option linter.all false
namespace Go.Proofs.YtjdpemcnlejpfaaGreatDoor
open Go.RowKit Go.Gx Go.Am Tryz
def QiQ:List Nat:=[2,3,5,7,11,13]
instance c25:TK prog 25 (∀{n:Nat}(_:n<256),AC prog 25 [] [I .u8 (n:Int)] fun K=>K [] [W32 (QiQ.getD (n % 6) 0)]):=⟨fun {n} hn=>by
  refine aEnter func25 rfl ntmps25 rfl fun K C hC hK=> ?_
  repeat(refine zS ?_;intros)
  refine AL.ent (entSub (s:=9) (a:=I .i64 ((6:Nat):Int)) (leI rfl)) ?_
  refine AL.ent (entSub (s:=5) (a:=raw QiQ) (le_refl _)) ?_
  have hs:QiQ.length=6:=rfl
  repeat(refine zS ?_;intros)
  exact aRet1 rfl zv hK leI⟩
instance c44:TK prog 44 (∀{M:Nat}{F:List Int}(_:M≤1048576)(_:F.length≤1048576),AC prog 44 [] [pv M F] fun K=> ∀b:Bool,(b=true↔F.length=(Xa F).length∧0<ldP F∧Xy F=1)→K [] [Bo b]):=⟨fun {M F} hM hF=>by
  refine aEnter func44 rfl ntmps44 rfl fun K C hC hK=> ?_
  have hT:=Xe F
  repeat(refine zS ?_;intros)
  refine zB ?_ ?_<;>intro h
  · repeat(refine zS ?_;intros)
    rename_i s s1 s2 s3 s4 s5
    refine zB ?_ ?_<;>intro h2
    · repeat(refine zS ?_;intros)
      exact aRet1 rfl zv (hK _ (by rw[decide_eq_true_iff];exact⟨fun h9=>⟨by omega,by omega,by omega⟩,fun h9=>by omega⟩)) (le_refl _)
    · repeat(refine zS ?_;intros)
      exact aRet1 rfl zv (hK false ⟨fun h9=>(by cases h9),fun h9=>absurd h9.2.1 (by omega)⟩) (le_refl _)
  · repeat(refine zS ?_;intros)
    exact aRet1 rfl zv (hK false ⟨fun h9=>(by cases h9),fun h9=>absurd h9.1 (by omega)⟩) (le_refl _)⟩
def Qjs(D:List RawI):Prop:=D.length≤9∧ ∀x∈D,x.2.length≤3
instance(D:List RawI):Decidable (Qjs D):=by unfold Qjs;infer_instance
instance c26:TK prog 26 (∀{D:List RawI},AC prog 26 [] [rwp D] fun K=>K [] [Bo (decide (Qjs D))]):=⟨fun {D}=>by
  refine aEnter func26 rfl ntmps26 rfl fun K C hC hK=> ?_
  repeat(refine zS ?_;intros)
  refine zB ?_ ?_<;>intro h
  · rw[decide_eq_false fun h9:Qjs D=>absurd h9.1 (by omega)] at hK
    repeat(refine zS ?_;intros)
    exact aRet1 rfl zv hK (le_refl _)
  repeat(refine zS ?_;intros)
  refine aL1 [8,9] (fun k=>[(10,N k)]) (fun _=>[]) (fun k=>k≤D.length∧ ∀x∈D.take k,x.2.length≤3) (fun k=>D.length -k) 0 ⟨by omega,fun x hx=>by simp at hx⟩ (entL (.cons zle .nil) zk (HLe.none _)) fun k ⟨hk,hI⟩=> ?_
  repeat(refine zS ?_;intros)
  refine zB ?_ ?_<;>intro h2
  · obtain⟨y,ey⟩: ∃y,D.getD k (false,[])=y:=⟨_,rfl⟩
    have hm:y∈D:=by
      rw[←ey];simp only[List.getD,List.getElem?_eq_getElem (show k<D.length by omega),Option.getD_some];exact List.getElem_mem _
    repeat(refine zS ?_;intros)
    rw[ey]
    repeat(refine zS ?_;intros)
    refine zB ?_ ?_<;>intro h3
    · rw[decide_eq_false fun h9:Qjs D=>absurd (h9.2 y hm) (by omega)] at hK
      repeat(refine zS ?_;intros)
      exact aRet1 rfl zv hK (le_refl _)
    · repeat(refine zS ?_;intros)
      exact ag1 (k+1) ⟨by omega,fun x hx=>by
        rw[List.take_add_one,List.getElem?_eq_getElem (show k<D.length by omega)] at hx
        rcases List.mem_append.1 hx with hx|hx
        · exact hI x hx
        · have e:x=y:=by rw[←ey];simpa [List.getD,show k<D.length by omega] using hx
          rw[e];omega⟩ (entL (.cons zle .nil) zk (HLe.none _))
  · rw[decide_eq_true (show Qjs D from⟨by omega,by rw[List.take_of_length_le (by omega)] at hI;exact hI⟩)] at hK
    repeat(refine zS ?_;intros)
    exact aRet1 rfl zv hK (le_refl _)⟩
end Go.Proofs.YtjdpemcnlejpfaaGreatDoor
namespace Go.Proofs.YtjdpemcnlejpfaaGreatDoor
open Go.RowKit Go.Gx Go.Am Tryz
def Qil:List (List Int):=[[0,1],[1,1],[-1,1],[-3,2],[1,0,1],[1,1,1],[-2,0,1],[-2,0,0,1],[1,0,0,0,1],[1,0,-10,0,1],[1,1,1,1,1],[-1,-1,1],[7,0,3],[5,2],[1,-1,0,1],[-1000003,1]]
set_option maxHeartbeats 2000000 in
instance c58:TK prog 58 (∀{n:Nat}(_:n<9223372036854775808),AC prog 58 [] [N n] fun K=>K [] [sl 1 ((Qil.getD (n % 16) []).map (I .i64))]):=⟨fun {n} hn=>by
  refine aEnter func58 rfl ntmps58 rfl fun K C hC hK=> ?_
  obtain⟨r,hr⟩: ∃r,n % 16=r:=⟨_,rfl⟩
  have hr16:r<16:=by rw[←hr];exact Nat.mod_lt _ (by decide)
  rw[hr] at hK
  repeat(refine zS ?_;intros)
  rw[hr]
  refine zB ?_ ?_<;>intro h0
  · obtain rfl:r=0:=by omega
    repeat(refine zS ?_;intros)
    exact aRet1 rfl zv hK (by exact .of_eq rfl)
  repeat(refine zS ?_;intros)
  refine zB ?_ ?_<;>intro h1
  · obtain rfl:r=1:=by omega
    repeat(refine zS ?_;intros)
    exact aRet1 rfl zv hK (by exact .of_eq rfl)
  repeat(refine zS ?_;intros)
  refine zB ?_ ?_<;>intro h2
  · obtain rfl:r=2:=by omega
    repeat(refine zS ?_;intros)
    exact aRet1 rfl zv hK (by exact .of_eq rfl)
  repeat(refine zS ?_;intros)
  refine zB ?_ ?_<;>intro h3
  · obtain rfl:r=3:=by omega
    repeat(refine zS ?_;intros)
    exact aRet1 rfl zv hK (by exact .of_eq rfl)
  repeat(refine zS ?_;intros)
  refine zB ?_ ?_<;>intro h4
  · obtain rfl:r=4:=by omega
    repeat(refine zS ?_;intros)
    exact aRet1 rfl zv hK (by exact .of_eq rfl)
  repeat(refine zS ?_;intros)
  refine zB ?_ ?_<;>intro h5
  · obtain rfl:r=5:=by omega
    repeat(refine zS ?_;intros)
    exact aRet1 rfl zv hK (by exact .of_eq rfl)
  repeat(refine zS ?_;intros)
  refine zB ?_ ?_<;>intro h6
  · obtain rfl:r=6:=by omega
    repeat(refine zS ?_;intros)
    exact aRet1 rfl zv hK (by exact .of_eq rfl)
  repeat(refine zS ?_;intros)
  refine zB ?_ ?_<;>intro h7
  · obtain rfl:r=7:=by omega
    repeat(refine zS ?_;intros)
    exact aRet1 rfl zv hK (by exact .of_eq rfl)
  repeat(refine zS ?_;intros)
  refine zB ?_ ?_<;>intro h8
  · obtain rfl:r=8:=by omega
    repeat(refine zS ?_;intros)
    exact aRet1 rfl zv hK (by exact .of_eq rfl)
  repeat(refine zS ?_;intros)
  refine zB ?_ ?_<;>intro h9
  · obtain rfl:r=9:=by omega
    repeat(refine zS ?_;intros)
    exact aRet1 rfl zv hK (by exact .of_eq rfl)
  repeat(refine zS ?_;intros)
  refine zB ?_ ?_<;>intro h10
  · obtain rfl:r=10:=by omega
    repeat(refine zS ?_;intros)
    exact aRet1 rfl zv hK (by exact .of_eq rfl)
  repeat(refine zS ?_;intros)
  refine zB ?_ ?_<;>intro h11
  · obtain rfl:r=11:=by omega
    repeat(refine zS ?_;intros)
    exact aRet1 rfl zv hK (by exact .of_eq rfl)
  repeat(refine zS ?_;intros)
  refine zB ?_ ?_<;>intro h12
  · obtain rfl:r=12:=by omega
    repeat(refine zS ?_;intros)
    exact aRet1 rfl zv hK (by exact .of_eq rfl)
  repeat(refine zS ?_;intros)
  refine zB ?_ ?_<;>intro h13
  · obtain rfl:r=13:=by omega
    repeat(refine zS ?_;intros)
    exact aRet1 rfl zv hK (by exact .of_eq rfl)
  repeat(refine zS ?_;intros)
  refine zB ?_ ?_<;>intro h14
  · obtain rfl:r=14:=by omega
    repeat(refine zS ?_;intros)
    exact aRet1 rfl zv hK (by exact .of_eq rfl)
  repeat(refine zS ?_;intros)
  obtain rfl:r=15:=by omega
  exact aRet1 rfl zv hK (by exact .of_eq rfl)⟩
theorem Qqq: ∀i,i<16→(Qil.getD i []).length≤5∧ ∀z∈Qil.getD i [],-9223372036854775808≤z∧z≤9223372036854775807:=by decide
instance c18:TK prog 18 (∀{n:Nat}(_:n<256),AC prog 18 [] [I .u8 (n:Int)] fun K=>K [] [pc 2 (Xa (Qil.getD (n % 16) []))]):=⟨fun {n} hn=>by
  refine aEnter func18 rfl ntmps18 rfl fun K C hC hK=> ?_
  obtain⟨l,hl⟩: ∃l,Qil.getD (n % 16) []=l:=⟨_,rfl⟩
  have⟨b1,b2⟩:=Qqq (n % 16) (Nat.mod_lt _ (by decide))
  rw[hl] at hK b1 b2
  have hkn:AC prog 58 [] [N n] fun K=>K [] [sl 1 (l.map (I .i64))]:=by
    have :=c58.k (n:=n) (by omega)
    rwa [hl] at this
  repeat(refine zS ?_;intros)
  exact aRet1 rfl zv hK (le_refl _)⟩
end Go.Proofs.YtjdpemcnlejpfaaGreatDoor
namespace Go.Proofs.YtjdpemcnlejpfaaGreatDoor
open Go.RowKit Go.Gx Go.Am Tryz
def Qtu(n:Nat):Nat→Nat
  |0=>0
  |k+1=>Qtu n k+(if 1≤k∧Nat.gcd k n=1 then 1 else 0)
theorem Qop(n:Nat): ∀k,Qtu n k≤k
  |0=>Nat.le_refl _
  |k+1=>by have :=Qop n k;unfold Qtu;split<;>omega
instance c43:TK prog 43 (∀{n:Nat}(_:n≤1048576),AC prog 43 [] [N n] fun K=>K [] [N (Qtu n (n+1))]):=⟨fun {n} hn=>by
  refine aEnter func43 rfl ntmps43 rfl fun K C hC hK=> ?_
  repeat(refine zS ?_;intros)
  refine aL2 [0] (fun c k=>[(3,N c),(4,N k)]) (fun _ _=>[]) (fun c k=>1≤k∧k≤n+1∧c=Qtu n k) (fun _ k=>n+1 -k) 0 1 ⟨by omega,by omega,rfl⟩ (entL (.cons zle (.cons zle .nil)) zk (HLe.none _)) fun c k ⟨hk1,hk2,hc⟩=> ?_
  have hb:=Qop n k
  repeat(refine zS ?_;intros)
  refine zB ?_ ?_<;>intro h
  · repeat(refine zS ?_;intros)
    refine aL2 [0,3,4] (fun a b=>[(5,N a),(6,N b)]) (fun _ _=>[]) (fun a b=>a≤1048577∧b≤1048577∧Nat.gcd a b=Nat.gcd k n) (fun _ b=>b) k n ⟨by omega,by omega,rfl⟩ (entL (.cons zle (.cons zle .nil)) zk (HLe.none _)) fun a b ⟨ha,hb2,hg⟩=> ?_
    repeat(refine zS ?_;intros)
    refine zB ?_ ?_<;>intro h2
    · have h3:a % b<b:=Nat.mod_lt _ (by omega)
      repeat(refine zS ?_;intros)
      exact ag2 b (a % b) ⟨by omega,by omega,by rw[←hg,Nat.gcd_comm a b,Nat.gcd_rec b a,Nat.gcd_comm]⟩ (entL (.cons zle (.cons zle .nil)) zk (HLe.none _))
    · obtain rfl:b=0:=by omega
      rw[Nat.gcd_zero_right] at hg
      repeat(refine zS ?_;intros)
      refine zB ?_ ?_<;>intro h3
      · repeat(refine zS ?_;intros)
        exact ag2 (c+1) (k+1) ⟨by omega,by omega,by rw[Qtu,if_pos ⟨hk1,by omega⟩,hc]⟩ (entL (.cons zle (.cons zle .nil)) zk (HLe.none _))
      · repeat(refine zS ?_;intros)
        exact ag2 c (k+1) ⟨by omega,by omega,by rw[Qtu,if_neg (by omega),hc];rfl⟩ (entL (.cons zle (.cons zle .nil)) zk (HLe.none _))
  · obtain rfl:k=n+1:=by omega
    rw[←hc] at hK
    repeat(refine zS ?_;intros)
    exact aRet1 rfl zv hK leI⟩
theorem QqS{n:Nat}(h:2≤n)(hj: ∀j,2≤j→j*j≤n→n % j≠0):Xk n:=by
  refine⟨h,fun a h0 h1=> ?_⟩
  obtain⟨g,hg⟩: ∃g,Nat.gcd a n=g:=⟨_,rfl⟩
  have hp:0<g:=by rw[←hg];exact Nat.gcd_pos_of_pos_left n h0
  have hle:g≤a:=by rw[←hg];exact Nat.gcd_le_left n h0
  obtain⟨q,hq⟩:g∣n:=by rw[←hg];exact Nat.gcd_dvd_right a n
  rw[hg]
  apply Classical.byContradiction
  intro h2
  have hq2:2≤q:=by
    apply Nat.le_of_not_lt
    intro h3
    have h4:q=0∨q=1:=by omega
    rcases h4 with rfl|rfl
    · omega
    · omega
  rcases Nat.le_total g q with h3|h3
  · exact hj g (by omega) (by rw[hq];exact Nat.mul_le_mul_left g h3) (by rw[hq];exact Nat.mul_mod_right g q)
  · exact hj q hq2 (by rw[hq];exact Nat.mul_le_mul_right q h3) (by rw[hq];exact Nat.mul_mod_left g q)
theorem Qn9{n j:Nat}(h:2≤j)(h1:j*j≤n)(h2:n % j=0): ¬Xk n:=fun hp=>by
  have h3:j<n:=Nat.lt_of_lt_of_le (by have :=Nat.mul_le_mul_right j h;omega) h1
  have h4:=hp.2 j (by omega) h3
  rw[Nat.gcd_eq_left (Nat.dvd_of_mod_eq_zero h2)] at h4
  omega
instance c34:TK prog 34 (∀{n:Nat}(_:n<65536),AC prog 34 [] [W32 n] fun K=> ∀b:Bool,(b=true↔Xk n)→K [] [Bo b]):=⟨fun {n} hn=>by
  refine aEnter func34 rfl ntmps34 rfl fun K C hC hK=> ?_
  repeat(refine zS ?_;intros)
  refine zB ?_ ?_<;>intro h
  · repeat(refine zS ?_;intros)
    exact aRet1 rfl zv (hK false ⟨fun h9=>(by cases h9),fun h9=>absurd h9.1 (by omega)⟩) (le_refl _)
  repeat(refine zS ?_;intros)
  refine aL1 [0] (fun(i:Nat)=>[(3,I .u64 (i:Int))]) (fun _=>[]) (fun i=>2≤i∧i≤300∧ ∀j,2≤j→j<i→n % j≠0) (fun i=>301 -i) 2 ⟨by omega,by omega,fun j a b=>by omega⟩ (entL (.cons zle .nil) zk (HLe.none _)) fun i ⟨hi,hi2,hj⟩=> ?_
  have hq:i*i≤300*300:=Nat.mul_le_mul hi2 hi2
  repeat(refine zS ?_;intros)
  refine zB ?_ ?_<;>intro h2
  · repeat(refine zS ?_;intros)
    refine zB ?_ ?_<;>intro h3
    · repeat(refine zS ?_;intros)
      exact aRet1 rfl zv (hK false ⟨fun h9=>(by cases h9),fun h9=>absurd h9 (Qn9 hi (by omega) (by omega))⟩) (le_refl _)
    · have hi3:i<256:=Nat.lt_of_not_le fun h8=>by
        have :=Nat.mul_le_mul h8 h8
        omega
      repeat(refine zS ?_;intros)
      exact ag1 (i+1) ⟨by omega,by omega,fun j a b=>by
        rcases Nat.lt_or_ge j i with h7|h7
        · exact hj j a h7
        · obtain rfl:j=i:=by omega
          omega⟩ (entL (.cons zle .nil) zk (HLe.none _))
  · repeat(refine zS ?_;intros)
    exact aRet1 rfl zv (hK true ⟨fun _=>QqS (by omega) fun j a b=>hj j a (Nat.lt_of_not_le fun h8=>by
      have :=Nat.mul_le_mul h8 h8
      omega),fun _=>rfl⟩) (le_refl _)⟩
end Go.Proofs.YtjdpemcnlejpfaaGreatDoor
namespace Go.Proofs.YtjdpemcnlejpfaaGreatDoor
open Go.RowKit Go.Gx Go.Am Tryz
def Qmf(f:List Int)(e n k:Nat):List Int:=(List.range n).map fun j=>if j % e=0∧j/e<k then co f (j/e) else 0
theorem Qrf(f:List Int)(e n:Nat):List.replicate n 0=Qmf f e n 0:=by
  unfold Qmf
  refine List.ext_getElem (by simp) fun i h1 h2=> ?_
  simp
theorem Qre{f:List Int}{e n k:Nat}(he:0<e)(hk:k*e<n):(Qmf f e n k).set (k*e) (co f k)=Qmf f e n (k+1):=by
  refine List.ext_getElem (by simp [Qmf]) fun i h1 h2=> ?_
  rw[List.getElem_set]
  simp only[Qmf,List.getElem_map,List.getElem_range]
  split
  · rename_i h;subst h
    rw[Nat.mul_mod_left,Nat.mul_div_cancel _ he,if_pos ⟨rfl,by omega⟩]
  · rename_i h
    by_cases hm:i % e=0
    · have h3:i/e≠k:=fun h4=>h (by rw[←h4];exact Nat.div_mul_cancel (Nat.dvd_of_mod_eq_zero hm))
      by_cases h5:i/e<k
      · rw[if_pos ⟨hm,h5⟩,if_pos ⟨hm,by omega⟩]
      · rw[if_neg fun h6=>h5 h6.2,if_neg fun h6=>h3 (by omega)]
    · rw[if_neg fun h6=>hm h6.1,if_neg fun h6=>hm h6.1]
def QvW(f:List Int)(e:Nat):List Int:=if f.length=0 then [] else Qmf f e ((f.length -1)*e+1) f.length
set_option maxHeartbeats 1000000 in
instance c91:TK prog 91 (∀{M e:Nat}{F:List Int}(_:M≤1048576)(_:F.length≤64)(_:1≤e)(_:e≤64),AC prog 91 [] [pv M F,N e] fun K=>K [] [pc M (Xa (QvW (Xa F) e))]):=⟨fun {M e F} hM hF he he2=>by
  refine aEnter func91 rfl ntmps91 rfl fun K C hC hK=> ?_
  have hT:=Xe F
  obtain⟨f,ef⟩: ∃f,Xa F=f:=⟨_,rfl⟩
  rw[ef] at hK hT
  have hq:(f.length -1)*e≤64*64:=Nat.mul_le_mul (by omega) he2
  repeat(refine zS ?_;intros)
  rw[ef]
  refine zB ?_ ?_<;>intro h
  · rw[show QvW f e=[] by unfold QvW;rw[if_pos (by omega)]] at hK
    repeat(refine zS ?_;intros)
    exact aRet1 rfl zv hK le_p0
  repeat(refine zS ?_;intros)
  obtain⟨n,hn⟩: ∃n,(f.length -1)*e+1=n:=⟨_,rfl⟩
  rw[hn]
  refine aL1 [1,5,20,21] (fun k=>[(22,N k)]) (fun k=>[.arr 25 2 ((Qmf f e n k).map (it M))]) (fun k=>k≤f.length) (fun k=>f.length -k) 0 (by omega) (entL (.cons zle .nil) zk (.cons (ob_it (Qrf f e n) (by omega)) (HLe.none _))) fun k hk=> ?_
  have hl:(Qmf f e n k).length=n:=by simp [Qmf]
  repeat(refine zS ?_;intros)
  refine zB ?_ ?_<;>intro h2
  · have hkn:k*e≤(f.length -1)*e:=Nat.mul_le_mul_right e (by omega)
    have hst:=Qre (f:=f) (e:=e) (n:=n) (k:=k) (by omega) (by omega)
    repeat(refine zS ?_;intros)
    exact ag1 (k+1) (by omega) (entL (.cons zle .nil) zk (.drop (.cons (ob_it hst (by omega)) (HLe.none _))))
  · obtain rfl:k=f.length:=by omega
    rw[show QvW f e=Qmf f e n f.length by unfold QvW;rw[if_neg (by omega),hn]] at hK
    repeat(refine zS ?_;intros)
    refine AL.ent (entFzS hC (s:=34) (by exact rfl) 0 (by exact rfl) (by simp [Qmf]) (a:=pc M (Qmf f e n f.length)) (le_refl _)) ?_
    repeat(refine zS ?_;intros)
    exact aRet1 rfl zv hK (le_refl _)⟩
end Go.Proofs.YtjdpemcnlejpfaaGreatDoor
namespace Go.Proofs.YtjdpemcnlejpfaaGreatDoor
open Go.RowKit Go.Gx Go.Am Tryz
theorem Qfr(l:List Int): ∀n,(Zk l n).length≤n*l.length+1
  |0=>by simp [Zk]
  |n+1=>by
    have h1:=Qfr l n
    have h2:=Yo (Zk l n) l
    have h3:=Yo l (Zk l n)
    have h4:(n+1)*l.length=n*l.length+l.length:=Nat.succ_mul n _
    unfold Zk
    omega
def Qqu(u:Int)(fs:List (List Int×Nat)):List Int:=fs.foldl (fun a x=>Xa (Xg a (Xa (Zk x.1 x.2)))) (Xa [u])
set_option maxHeartbeats 1000000 in
instance c89:TK prog 89 (∀{M D:Nat}{u:Int}{fs:List (List Int×Nat)}(_:M≤65536)(_:D≤64)(_:fs.length≤32)(_:u≠0)(_: ∀x∈fs,1≤(Xa x.1).length∧x.1.length≤32∧x.2≤32),AC prog 89 [] [iv M u,sl 2 (fs.map (fv D))] fun K=>K [] [pc (M+fs.length*120000) (Qqu u fs)]):=⟨fun {M D u fs} hM hD hl hu hx=>by
  refine aEnter func89 rfl ntmps89 rfl fun K C hC hK=> ?_
  repeat(refine zS ?_;intros)
  refine aL1 [1,2,13,14] (fun k=>[(15,N k)]) (fun _=>[.arr 25 2 [iv M u]]) (fun k=>k≤fs.length) (fun k=>fs.length -k) 0 (by omega) (entL (.cons zle .nil) zk (.cons (ob_refl _) (HLe.none _))) fun k hk=> ?_
  repeat(refine zS ?_;intros)
  refine zB ?_ ?_<;>intro h
  · obtain⟨y,ey⟩: ∃y,fs.getD k ([],0)=y:=⟨_,rfl⟩
    have hm:y∈fs:=by
      rw[←ey];simp only[List.getD,List.getElem?_eq_getElem (show k<fs.length by omega),Option.getD_some];exact List.getElem_mem _
    have⟨a1,a2,a3⟩:=hx y hm
    repeat(refine zS ?_;intros)
    rw[ey]
    repeat(refine zS ?_;intros)
    refine zB ?_ ?_<;>intro h3<;>repeat(refine zS ?_;intros)
    · exact ag1 (k+1) (by omega) (entL (.cons zle .nil) zk (.drop (.cons (ob_refl _) (HLe.none _))))
    · exact ag1 (k+1) (by omega) (entL (.cons zle .nil) zk (.drop (.cons (ob_refl _) (HLe.none _))))
  repeat(refine zS ?_;intros)
  have hl1:[u].length≤1099511627776:=by simp
  refine AL.ent (entSub (s:=30) (a:=pv M [u]) (le_refl _)) ?_
  repeat(refine zS ?_;intros)
  refine aL2 [32,33] (fun k X=>[(7,pc (M+k*120000) X),(34,N k)]) (fun _ _=>[]) (fun k X=>k≤fs.length∧X.length≤1025*k+1∧(fs.drop k).foldl (fun a x=>Xa (Xg a (Xa (Zk x.1 x.2)))) X=Qqu u fs) (fun k _=>fs.length -k) 0 (Xa [u]) ⟨by omega,by have :=Xe [u];simpa using this,rfl⟩ (entL (.cons (le_pcc (by omega)) (.cons zle .nil)) zk (HLe.none _)) fun k X ⟨hk,hX,hI⟩=> ?_
  repeat(refine zS ?_;intros)
  refine zB ?_ ?_<;>intro h
  · obtain⟨y,ey⟩: ∃y,fs.getD k ([],0)=y:=⟨_,rfl⟩
    have hm:y∈fs:=by
      rw[←ey];simp only[List.getD,List.getElem?_eq_getElem (show k<fs.length by omega),Option.getD_some];exact List.getElem_mem _
    have⟨a1,a2,a3⟩:=hx y hm
    have hL:(Xa y.1).length≤31+1:=by have :=Xe y.1;omega
    have w1:y.2*D≤32*64:=Nat.mul_le_mul a3 hD
    have w2:y.2*y.2*(31+2)≤32*32*(31+2):=Nat.mul_le_mul (Nat.mul_le_mul a3 a3) (Nat.le_refl _)
    have w3:y.2*y.1.length≤32*32:=Nat.mul_le_mul a3 a2
    obtain⟨z,ez⟩: ∃z,Xa (Zk y.1 y.2)=z:=⟨_,rfl⟩
    have w4:z.length≤1025:=by have h8:=Nat.le_trans (Xe (Zk y.1 y.2)) (Qfr y.1 y.2);rw[ez] at h8;omega
    have w5:=Nat.le_trans (Xe (Xg X z)) (Yo X z)
    have hst:(fs.drop k).foldl (fun a x=>Xa (Xg a (Xa (Zk x.1 x.2)))) X=(fs.drop (k+1)).foldl (fun a x=>Xa (Xg a (Xa (Zk x.1 x.2)))) (Xa (Xg X z)):=by
      rw[List.drop_eq_getElem_cons (by omega),List.foldl_cons,←ez,←ey]
      simp [List.getD,show k<fs.length by omega]
    rw[hst] at hI
    have e9:(k+1)*120000=k*120000+120000:=Nat.succ_mul _ _
    repeat(refine zS ?_;intros)
    rw[ey]
    repeat(refine zS ?_;intros)
    rw[ez]
    repeat(refine zS ?_;intros)
    exact ag2 (k+1) (Xa (Xg X z)) ⟨by omega,by omega,hI⟩ (entL (.cons (le_pcc (by omega)) (.cons zle .nil)) zk (HLe.none _))
  · obtain rfl:k=fs.length:=by omega
    rw[List.drop_length] at hI
    change X=_ at hI
    rw[←hI] at hK
    repeat(refine zS ?_;intros)
    exact aRet1 rfl zv hK (le_refl _)⟩
end Go.Proofs.YtjdpemcnlejpfaaGreatDoor
namespace Go.Proofs.YtjdpemcnlejpfaaGreatDoor
open Go.RowKit Go.Gx Go.Am Tryz
theorem Qs6{D:Nat}{w:World}{S:Nat→Prop}:(fv D (([],0):List Int×Nat)).rep w S (.agg #[.slice none 0 0,.int .i64 0]):=by
  unfold fv agg
  exact⟨[.slice none 0 0,.int .i64 0],rfl,⟨le_p0 w S _ Qn8,(by unfold N I lit;rfl),trivial⟩,by intro c hc;simp at hc;rcases hc with rfl|rfl<;>rfl⟩
instance:ZV (.agg #[.slice none 0 0,.int .i64 0]) 2 (fv 17) (([],0):List Int×Nat):=⟨fun _ _=>Qs6,by kernel_rfl⟩
instance c41:TK prog 41 (∀{M:Nat}{u:Int}{fs:List (List Int×Nat)}(_:M≤65536)(_:fs.length≤32)(_:u≠0)(_: ∀x∈fs,1≤(Xa x.1).length∧x.1.length≤32∧x.2≤32),AC prog 41 [] [iv M u,sl 2 (fs.map (fv 17))] fun K=>K [] [pc (M+fs.length*120000) (Qqu u fs)]):=⟨fun {M u fs} hM hl hu hx=>by
  refine aEnter func41 rfl ntmps41 rfl fun K C hC hK=> ?_
  repeat(refine zS ?_;intros)
  refine aL1 [2,5,11,12] (fun k=>[(13,N k)]) (fun k=>[.arr 101 2 ((fs.take k++List.replicate (fs.length -k) ([],0)).map (fv 17)),.arr 25 2 [iv M u]]) (fun k=>k≤fs.length) (fun k=>fs.length -k) 0 (by omega) (entL (.cons zle .nil) zk (.cons (ob_eq (by simp)) (.cons (ob_refl _) (HLe.none _)))) fun k hk=> ?_
  have hlk:(fs.take k++List.replicate (fs.length -k) (([],0):List Int×Nat)).length=fs.length:=by simp;omega
  repeat(refine zS ?_;intros)
  refine zB ?_ ?_<;>intro h
  · have hset:(fs.take k++List.replicate (fs.length -k) (([],0):List Int×Nat)).set k (fs.getD k ([],0))=fs.take (k+1)++List.replicate (fs.length -(k+1)) ([],0):=by
      have h1:(fs.take k).length=k:=by rw[List.length_take];omega
      rw[show fs.length -k=(fs.length -(k+1))+1 by omega,List.replicate_succ,List.set_append_right _ _ (by omega),h1,Nat.sub_self,List.set_cons_zero,List.take_add_one,List.getElem?_eq_getElem (show k<fs.length by omega),List.append_assoc]
      simp [List.getD,show k<fs.length by omega]
    repeat(refine zS ?_;intros)
    exact ag1 (k+1) (by omega) (entL (.cons zle .nil) zk (.drop (.cons (ob_eq (by rw[←hset])) (.cons (ob_refl _) (HLe.none _)))))
  · obtain rfl:k=fs.length:=by omega
    repeat(refine zS ?_;intros)
    refine AL.ent (entFzS hC (s:=28) (by exact rfl) 0 (by exact rfl) (by rw[List.length_map];exact hlk) (a:=sl 2 (fs.map (fv 17))) (.of_eq (by rw[List.take_length,Nat.sub_self,List.replicate_zero,List.append_nil]))) ?_
    repeat(refine zS ?_;intros)
    exact aRet1 rfl zv hK (le_refl _)⟩
end Go.Proofs.YtjdpemcnlejpfaaGreatDoor
