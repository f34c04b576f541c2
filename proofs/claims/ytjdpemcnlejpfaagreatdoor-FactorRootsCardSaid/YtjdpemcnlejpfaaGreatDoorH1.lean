/-
  H1, H2, H3, N5, D5, D6
-/
import Derived.Test.YtjdpemcnlejpfaaGreatDoorM7
import Derived.Test.YtjdpemcnlejpfaaGreatDoorModDiv
import Derived.Test.YtjdpemcnlejpfaaGreatDoorGcdMath
import Derived.Test.YtjdpemcnlejpfaaGreatDoorN3
import Derived.Test.YtjdpemcnlejpfaaGreatDoorD2
import Derived.Test.YtjdpemcnlejpfaaGreatDoorDecP
set_option linter.all false
namespace Go.Proofs.YtjdpemcnlejpfaaGreatDoor
open Go.RowKit Go.Gx Go.Am Tryz
theorem Zu(m:Nat)(f:List Int):(Zg m f).length≤f.length:=by
  have :=Xe (f.map (YY m))
  unfold Zg;simpa using this
theorem Quc{m k:Nat}{f:List Int}(hk:k<f.length):((f.take k).map (YY m)++List.replicate (f.length -k) 0).set k (YY m (f.getD k 0))=(f.take (k+1)).map (YY m)++List.replicate (f.length -(k+1)) 0:=by
  have h1:((f.take k).map (YY m)).length=k:=by rw[List.length_map,List.length_take];omega
  rw[show f.length -k=(f.length -(k+1))+1 by omega,List.replicate_succ,List.set_append_right _ _ (by omega),h1,Nat.sub_self,List.set_cons_zero,List.take_add_one,List.getElem?_eq_getElem hk,List.map_append,List.append_assoc]
  simp [List.getD,hk]
theorem Qgs:(∀{M Mm m:Nat}{f:List Int}(_:M≤268435456)(_:Mm≤16777216)(_:0<m)(_:f.length≤65536),AC prog 137 [] [pv M f,iv Mm (m:Int)] fun K=> ∀g,K [(some g,.arr 25 2 ((Zg m f).map (it Mm)))] [lsl 2 g 0 (Zg m f).length (Zg m f).length]):=fun {M Mm m f} hM hMm hm hf=>by
  refine aEnter func137 rfl ntmps137 rfl fun K C hC hK=> ?_
  repeat(refine zS ?_;intros)
  refine aL1 [3,5,11,12] (fun k=>[(13,N k)]) (fun k=>[.arr 25 2 (((f.take k).map (YY m)++List.replicate (f.length -k) 0).map (it Mm)),.arr 25 2 [iv Mm m]]) (fun k=>k≤f.length) (fun k=>f.length -k) 0 (by omega) (entL (.cons zle .nil) zk (.cons (ob_it (by simp) (by omega)) (.cons (ob_refl _) .nil))) fun k hk=> ?_
  repeat(refine zS ?_;intros)
  refine zB ?_ ?_<;>intro h
  · have hset:=Quc (m:=m) (f:=f) (k:=k) (by omega)
    repeat(refine zS ?_;intros)
    exact ag1 (k+1) (by omega) (entL (.cons zle .nil) zk (.drop (.cons (ob_it hset (by omega)) (.cons (ob_refl _) .nil))))
  · obtain rfl:k=f.length:=by omega
    have own:=QaG (M:=Mm) (l:=f.map (YY m)) (by omega) (by simp;omega)
    repeat(refine zS ?_;intros)
    refine AL.ent (entFzS hC (s:=28) (by exact rfl) 0 (by exact rfl) (by simp) (a:=pc Mm (f.map (YY m))) (.of_eq (by rw[List.take_length,Nat.sub_self,List.replicate_zero,List.append_nil]))) ?_
    refine alO (zcallX own) zg fun g=> ?_
    repeat(refine zS ?_;intros)
    exact aRet (rs:=[_]) rfl rfl (by exact List.Sublist.cons_cons _ (List.nil_sublist _)) zr (hK _)
instance QxR:TK prog 137 (∀{M Mm m:Nat}{f:List Int}(_:M≤268435456)(_:Mm≤16777216)(_:0<m)(_:f.length≤65536),AC prog 137 [] [pv M f,iv Mm (m:Int)] fun K=>K [] [pc Mm (Zg m f)]):=⟨fun hM hMm hm hf=>ac_fz (le_refl _) (by have :=Qgs hM hMm hm hf;simpa only[List.length_map] using this)⟩
instance c98:TK prog 98 (∀{M Mm m:Nat}{f:List Int}(_:M≤268435456)(_:Mm≤16777216)(_:0<m)(_:f.length≤65536),AC prog 98 [] [pv M f,iv Mm (m:Int)] fun K=>K [] [pc Mm (Zg m f),I .i64 0]):=⟨fun {M Mm m f} hM hMm hm hf=>by
  refine aEnter func98 rfl ntmps98 rfl fun K C hC hK=> ?_
  repeat(refine zS ?_;intros)
  exact aRet2 rfl zv zv hK (le_refl _) (le_refl _)⟩
instance Qyn:TK prog 191 (∀{p n:Nat}(_:p<4294967296)(_:n≤600),AC prog 191 [] [W32 p,N n] fun K=>K [] [it (n*2+n*n*2+3) ((p^n:Nat):Int)]):=⟨fun {p n} hp hn=>by
  refine aEnter func191 rfl ntmps191 rfl fun K C hC hK=> ?_
  have hq:n*n≤600*600:=Nat.mul_le_mul hn hn
  have hz: ∀z∈[(p:Int)],-9223372036854775808≤z∧z≤9223372036854775807:=fun z hz=>by rw[List.mem_singleton.1 hz];omega
  have hl1:[(p:Int)].length≤1099511627776:=by simp
  have hL:(Xa (Xa [(p:Int)])).length≤0+1:=by rw[XV];exact Xe _
  have hL2:(Xa [(p:Int)]).length≤1:=Xe _
  have e:ldP (Xa (Zk (Xa [(p:Int)]) n))=((p^n:Nat):Int):=by rw[Qhp,QjA rfl];simp
  have hl3:(Xa (Zk (Xa [(p:Int)]) n)).length≤1:=by rw[Qhp];exact Qfq _ _
  repeat(refine zS ?_;intros)
  rw[e]
  exact aRZ (rs:=[_]) rfl hK⟩
end Go.Proofs.YtjdpemcnlejpfaaGreatDoor
namespace Go.Proofs.YtjdpemcnlejpfaaGreatDoor
open Go.RowKit Go.Gx Go.Am Tryz
abbrev pvs(M:Nat)(l:List (List Int)):AV:=sl 1 (l.map (pv M))
abbrev pcs(M:Nat)(l:List (List Int)):AV:=sl 1 (l.map (pc M))
theorem Qg9{n:Nat}{l:List (List Int)}{i:Nat}(h: ∀f∈l,f.length≤n):(l.getD i []).length≤n:=by
  rcases Nat.lt_or_ge i l.length with hi|hi
  · simp only[List.getD,List.getElem?_eq_getElem hi,Option.getD_some];exact h _ (List.getElem_mem hi)
  · simp [List.getD,List.getElem?_eq_none hi]
theorem Qrp{α:Type}{F:α→List Int×List Int→α}{x:α}{gs ss:List (List Int)}{k:Nat}(h1:k<gs.length)(h2:k<ss.length):((gs.zip ss).drop k).foldl F x=((gs.zip ss).drop (k+1)).foldl F (F x (gs.getD k [],ss.getD k [])):=by
  rw[List.drop_eq_getElem_cons (by simp;omega),List.foldl_cons]
  simp [List.getD,h1,h2]
theorem Yo(f g:List Int):(Xg f g).length≤f.length+g.length:=by unfold Xg;split<;>simp <;>omega
set_option maxHeartbeats 1000000 in
instance Qxi:TK prog 228 (∀{M Mm m:Nat}{gs ss:List (List Int)}(_:M≤65536)(_:Mm≤65536)(_:0<m)(_:gs.length≤32)(_:gs.length=ss.length)(_: ∀f∈gs,f.length≤32) (_: ∀f∈ss,f.length≤32),AC prog 228 [] [agg [pvs M gs,pvs M ss],iv Mm (m:Int)] fun K=>K [] [pc (max Mm 2) (QfM m gs ss).1,pc (max Mm 2) (QfM m gs ss).2]):=⟨fun {M Mm m gs ss} hM hMm hm hgl hgs hg32 hs32=>by
  refine aEnter func228 rfl ntmps228 rfl fun K C hC hK=> ?_
  have hz: ∀z∈[(1:Int)],-9223372036854775808≤z∧z≤9223372036854775807:=fun z hz=>by rw[List.mem_singleton.1 hz];omega
  have hl1:[(1:Int)].length≤1099511627776:=by simp
  have e1:Xa [(1:Int)]=[1]:=by decide
  repeat(refine zS ?_;intros)
  rw[e1]
  refine aL3 [2,3,11,12] (fun k X Y=>[(4,pc (max Mm 2) X),(5,pc (max Mm 2) Y),(13,N k)]) (fun _ _ _=>[.arr 25 2 [iv Mm m],.arr 214 1 [pvs M gs,pvs M ss]]) (fun k X Y=>k≤gs.length∧X.length≤32*k+32∧Y.length≤32*k+1∧((gs.zip ss).drop k).foldl (Qaw m) (X,Y)=QfM m gs ss) (fun k _ _=>gs.length -k) 0 [] [1] ⟨by omega,by simp,by simp,by rw[List.drop_zero];rfl⟩ (entL (.cons le_p0 (.cons (le_pcc (by omega)) (.cons zle .nil))) zk (HLe.refl _)) fun k X Y ⟨hk,hX,hY,hI⟩=> ?_
  repeat(refine zS ?_;intros)
  refine zB ?_ ?_<;>intro h
  · have a1:=Qg9 (i:=k) hg32
    have a2:=Qg9 (i:=k) hs32
    have hst:=Qrp (F:=Qaw m) (x:=(X,Y)) (gs:=gs) (ss:=ss) (k:=k) (by omega) (by omega)
    rw[hst] at hI
    obtain⟨g,eg⟩: ∃g,gs.getD k []=g:=⟨_,rfl⟩
    obtain⟨s,es⟩: ∃s,ss.getD k []=s:=⟨_,rfl⟩
    rw[eg,es] at hI
    rw[eg] at a1
    rw[es] at a2
    have b1:=Nat.le_trans (Xe (Xg X g)) (Yo X g)
    have b2:=Nat.le_trans (Xe (Xg s Y)) (Yo s Y)
    have b3:=Xe (Xx (Xa (Xg X g)) (Xa (Xg s Y)))
    rw[Qdj] at b3
    have b4:=Zu m (Xa (Xx (Xa (Xg X g)) (Xa (Xg s Y))))
    have b5:=Nat.le_trans (Xe (Xg Y g)) (Yo Y g)
    have b6:=Zu m (Xa (Xg Y g))
    repeat(refine zS ?_;intros)
    show AD _ _ _ _ _ _ _ _ _ _ _
    rw[eg,es]
    repeat(refine zS ?_;intros)
    exact ag3 (k+1) (Zg m (Xa (Xx (Xa (Xg X g)) (Xa (Xg s Y))))) (Zg m (Xa (Xg Y g))) ⟨by omega,by omega,by omega,hI⟩ (entL (.cons (le_pcc (by omega)) (.cons (le_pcc (by omega)) (.cons zle .nil))) zk (.cons (ob_refl _) (.cons (ob_refl _) .nil)))
  · obtain rfl:k=gs.length:=by omega
    rw[List.drop_of_length_le (by simp;omega)] at hI
    have e2:(QfM m gs ss).1=X:=by rw[←hI];rfl
    have e3:(QfM m gs ss).2=Y:=by rw[←hI];rfl
    rw[e2,e3] at hK
    repeat(refine zS ?_;intros)
    exact aRet2 rfl zv zv hK (le_refl _) (le_refl _)⟩
set_option maxHeartbeats 1000000 in
instance Qxf:TK prog 190 (∀{M Mf:Nat}{f:List Int}{gs:List (List Int)}(_:M≤65536)(_:Mf≤65536)(_:gs.length≤32)(_:f.length≤1024)(_: ∀g∈gs,g.length≤32),AC prog 190 [] [pv Mf f,pvs M gs] fun K=>K [] [Bo (decide (Xa f=Xa (Qba [ldP f] gs)))]):=⟨fun {M Mf f gs} hM hMf hgl hf hg32=>by
  refine aEnter func190 rfl ntmps190 rfl fun K C hC hK=> ?_
  repeat(refine zS ?_;intros)
  refine aL2 [0,11,12] (fun k X=>[(5,pc (Mf+k*(M+64*32)) X),(13,N k)]) (fun _ _=>[]) (fun k X=>k≤gs.length∧X.length≤32*k+1∧(gs.drop k).foldl (fun p g=>Xa (Xg p g)) X=Qba [ldP f] gs) (fun k _=>gs.length -k) 0 [ldP f] ⟨by omega,by simp,rfl⟩ (entL (.cons (by exact le_pcc (M:=Mf) (l:=[ldP f]) (Nat.le_add_right _ _)) (.cons zle .nil)) zk (HLe.none _)) fun k X ⟨hk,hX,hI⟩=> ?_
  have hkb:k*(M+64*32)≤32*(65536+64*32):=Nat.mul_le_mul (by omega) (by omega)
  repeat(refine zS ?_;intros)
  refine zB ?_ ?_<;>intro h
  · have a1:=Qg9 (i:=k) hg32
    have hst:(gs.drop k).foldl (fun p g=>Xa (Xg p g)) X=(gs.drop (k+1)).foldl (fun p g=>Xa (Xg p g)) (Xa (Xg X (gs.getD k []))):=by
      rw[List.drop_eq_getElem_cons (by omega),List.foldl_cons]
      simp [List.getD,show k<gs.length by omega]
    rw[hst] at hI
    obtain⟨g,eg⟩: ∃g,gs.getD k []=g:=⟨_,rfl⟩
    rw[eg] at hI a1
    have b1:=Nat.le_trans (Xe (Xg X g)) (Yo X g)
    have e9:(k+1)*(M+64*32)=k*(M+64*32)+(M+64*32):=Nat.succ_mul _ _
    repeat(refine zS ?_;intros)
    rw[eg]
    repeat(refine zS ?_;intros)
    exact ag2 (k+1) (Xa (Xg X g)) ⟨by omega,by omega,hI⟩ (entL (.cons (le_pcc (by omega)) (.cons zle .nil)) zk (HLe.none _))
  · obtain rfl:k=gs.length:=by omega
    rw[List.drop_length] at hI
    change X=_ at hI
    rw[←hI] at hK
    repeat(refine zS ?_;intros)
    exact aRet1 rfl zv hK (le_refl _)⟩
end Go.Proofs.YtjdpemcnlejpfaaGreatDoor
namespace Go.Proofs.YtjdpemcnlejpfaaGreatDoor
open Go.RowKit Go.Gx Go.Am Tryz
set_option maxHeartbeats 2000000 in
instance QyD:TK prog 229 (∀{M Mg Mm m:Nat}{F G:List Int}(_:M≤1048576)(_:Mg≤65536)(_:Mm≤65536)(_:0<m)(_:F.length≤4096)(_:G.length≤64)(_:1≤(Xa G).length),AC prog 229 [] [pv M F,pv Mg G,iv Mm (m:Int)] fun K=>K [] [pc Mm (QfL m F G)]):=⟨fun {M Mg Mm m F G} hM hMg hMm hm hF hG hG1=>by
  refine aEnter func229 rfl ntmps229 rfl fun K C hC hK=> ?_
  have own:=Qgs (M:=M) (Mm:=Mm) (m:=m) (f:=F) (by omega) (by omega) hm (by omega)
  have hT:=Xe G
  have hN:=Zu m F
  obtain⟨d,hd⟩: ∃d,(Xa G).length=d+1:=⟨(Xa G).length -1,by omega⟩
  have hdeg:AC prog 19 [] [pv Mg G] fun K=>K [] [N d]:=by
    have :=c19.k (M:=Mg) (l:=G) (by omega)
    rw[show((Xa G).length:Int) -1=(d:Int) by omega] at this
    exact this
  repeat(refine zS ?_;intros)
  rename_i g5 g7
  obtain⟨R0,eR⟩: ∃R0,Zg m F=R0:=⟨_,rfl⟩
  rw[eR] at hN
  rw[eR]
  refine aL2 [1,5,7,8] (fun(u:Nat) _=>[(9,I .i64 ((u:Int) -1))]) (fun u R=>[.arr 25 2 (R.map (it (Mm+Mg+1+(R0.length -u)*64))),.arr 25 2 [iv Mm m]]) (fun u R=>u≤R0.length∧R.length=R0.length∧Qb1 m G d (u -d) R=Qb1 m G d (R0.length -d) R0) (fun u _=>u) R0.length R0 ⟨by omega,rfl,rfl⟩ (entL (.cons zle .nil) zk (.cons (ob_it rfl (by omega)) (.cons (ob_refl _) .nil))) fun u R ⟨hu,hR,hI⟩=> ?_
  repeat(refine zS ?_;intros)
  refine zB ?_ ?_<;>intro h
  · obtain⟨w,rfl⟩: ∃w,u=w+1:=⟨u -1,by omega⟩
    refine AW.ent (entSub (s:=9) (a:=N w) leI) ?_
    obtain⟨f,hf⟩: ∃f,R.getD w 0=f:=⟨_,rfl⟩
    obtain⟨B,hB⟩: ∃B,Mm+Mg+1+(R0.length -(w+1))*64=B:=⟨_,rfl⟩
    rw[hB]
    repeat(refine zS ?_;intros)
    refine aJ1 [1,5,7,8,9] (fun g10=>[(10,lpt 1 g10 0)]) (fun g10=>[(some g10,.arr 25 1 (itl Mm (YY m f))),(some g7,.arr 25 2 (R.map (it B))),(some g5,.arr 25 2 [iv Mm m])]) (fun _=>True) ?_ ?_
    · refine aDr1 [9,0,1,2,3,4,5,6,7,8,10,11] ?_
      repeat' (first | (refine zR ?_;intros)| (refine zC ?_;intros)| (refine adO1 (by exact rfl) (zst ?_);intros)| (refine adO2 (by exact rfl) (zst ?_) (zst ?_)<;>intros))
      all_goals rename_i ga
      all_goals exact jd1 ga trivial (entL (.cons zle .nil) zk (.cons (ob_i (by rw[hf]) (Nat.le_refl _)) (HLe.refl _)))
    rintro g10 -
    repeat(refine zS ?_;intros)
    rename_i sg s1 s2 s3 s4 s5
    refine zB ?_ ?_<;>intro h3
    · have hz:=QoH (u:=w+1) hI (by omega) (by omega) (show YY m (R.getD (w+1 -1) 0)=0 by rw[Nat.add_sub_cancel,hf];omega)
      rw[show w+1 -1 -d=w -d by omega] at hz
      repeat(refine zS ?_;intros)
      exact ag2 w R ⟨by omega,hR,hz⟩ (entL (.cons zle .nil) zk (.drop (.cons (ob_it rfl (by omega)) (.cons (ob_refl _) .nil))))
    obtain⟨c,hc⟩: ∃c,YY m f=c:=⟨_,rfl⟩
    rw[hc] at s1
    rw[hc]
    repeat(refine zS ?_;intros)
    refine aL1 [1,5,7,8,9,10] (fun j=>[(12,N j)]) (fun j=>[.arr 25 1 (itl Mm c),.arr 25 2 ((QcO R G (w -d) j c).map (it (B+j))),.arr 25 2 [iv Mm m]]) (fun j=>j≤d) (fun j=>d -j) 0 (by omega) (entL (.cons zle .nil) zk (.cons (ob_refl _) (.cons (ob_it Qmh (by omega)) (.cons (ob_refl _) .nil)))) fun j hj=> ?_
    have hsl:(QcO R G (w -d) j c).length=R0.length:=Qb4.trans hR
    repeat(refine zS ?_;intros)
    refine zB ?_ ?_<;>intro h4
    · have hst:=Qmg (R:=R) (G:=G) (L:=QcO R G (w -d) j c) (n:=w -d) (k:=j) (c:=c) rfl (by omega) rfl
      repeat(refine zS ?_;intros)
      exact ag1 (j+1) (by omega) (entL (.cons zle .nil) zk (.cons (ob_refl _) (.cons (ob_it hst (by omega)) (.cons (ob_refl _) .nil))))
    · obtain rfl:j=d:=by omega
      have hz:=QqX (u:=w+1) hI (by omega) (by omega) (show c=YY m (R.getD (w+1 -1) 0) by rw[Nat.add_sub_cancel,hf,hc]) (by omega) (by rw[Nat.add_sub_cancel]) rfl
      rw[Nat.add_sub_cancel] at hz
      repeat(refine zS ?_;intros)
      exact ag2 w (QcO R G (w -j) j c) ⟨by omega,hsl,hz⟩ (entL (.cons zle .nil) zk (.drop (.cons (ob_it rfl (by omega)) (.cons (ob_refl _) .nil))))
  · repeat(refine zS ?_;intros)
    refine AD.ent (entFz hC (s:=70) (by exact rfl) 0 (by exact rfl) (by rw[List.length_map,hR];omega)) ?_
    refine AD.ent (entSub (s:=70) (a:=pc (Mm+Mg+1+(R0.length -u)*64) (R.take (min R0.length d))) (.of_eq (show sl 2 (((R.map (it (Mm+Mg+1+(R0.length -u)*64))).drop 0).take (min R0.length d))=pc _ (R.take (min R0.length d)) by rw[List.drop_zero,←List.map_take]))) ?_
    have htl:(R.take (min R0.length d)).length≤4096:=by rw[List.length_take];omega
    have hfin:=QqW (G:=G) (R:=R) (n:=u -d) (m:=m) (F:=F) (r:=Zg m (R.take (min R0.length d))) hd eR.symm rfl hI (by omega) rfl
    rw[←hfin] at hK
    repeat(refine zS ?_;intros)
    exact aRet1 rfl zv hK (le_refl _)⟩
end Go.Proofs.YtjdpemcnlejpfaaGreatDoor
namespace Go.Proofs.YtjdpemcnlejpfaaGreatDoor
open Go.RowKit Go.Gx Go.Am Tryz
theorem Qsq{a:List Nat}{r l:Nat}(ha: ∀d∈a,d<BS)(h0:a.length≠0)(h1:a.getD (a.length -1) 0<2^r)(h2:a.getD (a.length -1) 0=0∨2^ (r -1)≤a.getD (a.length -1) 0)(hc:Canon isZ a)(hl:l=32*(a.length -1)+r):val a<2^l∧(val a=0∨2^ (l -1)≤val a):=by
  rcases Xw a with h| ⟨p,x,rfl⟩
  · subst h;simp at h0
  · have hx:isZ x=false:=Yp.1 hc
    have hx0:x≠0:=by intro e;subst e;simp [isZ] at hx
    have e:(p++[x]).getD ((p++[x]).length -1) 0=x:=by simp [List.getD]
    rw[e] at h1 h2
    have hp:=Za p fun d hd=>ha d (by simp [hd])
    have e2:BS^p.length=2^ (32*p.length):=by rw[show(BS:Nat)=2^32 from rfl,←Nat.pow_mul]
    have hr:1≤r:=by
      rcases Nat.eq_zero_or_pos r with h|h
      · subst h;simp at h1;omega
      · exact h
    have h3:=h2.resolve_left hx0
    rw[YQ,hl,show(p++[x]).length -1=p.length by simp]
    rw[e2] at hp⊢
    constructor
    · have :2^ (32*p.length)*(x+1)≤2^ (32*p.length)*2^r:=Nat.mul_le_mul_left _ h1
      rw[Nat.pow_add,Nat.mul_add,Nat.mul_one] at *
      omega
    · right
      rw[show 32*p.length+r -1=32*p.length+(r -1) by omega,Nat.pow_add]
      exact Nat.le_trans (Nat.mul_le_mul_left _ h3) (Nat.le_add_left _ _)
instance QyS:TK prog 261 (∀{M x:Nat}(_:M≤1099511627776),AC prog 261 [] [num M x] fun K=> ∀r,x<2^r→(x=0∨2^ (r -1)≤x)→r≤32*M→K [] [N r]):=⟨fun {M x} hM=>by
  refine aEnter func261 rfl ntmps261 rfl fun K C hC hK=> ?_
  repeat(refine zS ?_;intros)
  rename_i a a1 a2 a3 a4 _
  refine zB ?_ ?_<;>intro h0<;>repeat(refine zS ?_;intros)
  · have :a=[]:=List.eq_nil_of_length_eq_zero (by omega)
    subst this
    exact aRet1 rfl zv (hK 0 (by rw[←a3];decide) (.inl (by rw[←a3];rfl)) (by omega)) zle
  have :=dlt (i:=a.length -1) a2
  repeat(refine zS ?_;intros)
  rename_i r r1 r2 r3
  repeat(refine zS ?_;intros)
  have⟨b1,b2⟩:=Qsq a2 (by omega) r1 r2 a4 rfl
  exact aRet1 rfl zv (hK _ (a3▸b1) (a3▸b2) (by omega)) zle⟩
end Go.Proofs.YtjdpemcnlejpfaaGreatDoor
namespace Go.Proofs.YtjdpemcnlejpfaaGreatDoor
open Go.RowKit Go.Gx Go.Am Tryz
instance Qxy:TK prog 115 (∀{x:Nat}(_:x<256),AC prog 115 [] [I .u64 x] fun K=> ∀r,x<2^r→(x=0∨2^ (r -1)≤x)→r≤8→K [] [N r]):=⟨fun {x} hx=>by
  refine aEnter func115 rfl ntmps115 rfl fun K C hC hK=> ?_
  repeat(refine zS ?_;intros)
  rename_i r h1 h2 h3
  exact aRet1 rfl zv (hK r h1 h2 h3) zle⟩
instance QyV:TK prog 265 (∀{M a:Nat}(_:M≤1024)(_:a<65536),AC prog 265 [] [num M a,N 2] fun K=>K [] [cnum 2 (a*a)]):=⟨fun {M a} hM ha=>by
  refine aEnter func265 rfl ntmps265 rfl fun K C hC hK=> ?_
  have h2:a*a<BS^2:=by have :=Nat.mul_le_mul (show a≤65536 by omega) (show a≤65536 by omega);simp only[BS];omega
  have h1:a<BS^2:=by simp only[BS];omega
  repeat(refine zS ?_;intros)
  rename_i n n1 n2 n3
  obtain rfl:=Qtd rfl n1 n2
  repeat(refine zS ?_;intros)
  refine aL2 [0,1] (fun(k:Nat) v=>[(6,I .i64 ((k:Int) -1)),(5,cnum 2 v)]) (fun _ _=>[]) (fun k v=>k=2∧v=1∨k=1∧v=a∨k=0∧v=a*a) (fun k _=>k) 2 1 (by omega) (entL (.cons zle (.cons zle .nil)) zk .nil) fun k v hk=> ?_
  rcases hk with⟨rfl,hv⟩| ⟨rfl,hv⟩| ⟨rfl,hv⟩
  · refine AW.ent (entSub (s:=6) (a:=N 1) leI) ?_
    repeat(refine zS ?_;intros)
    exact ag2 1 a (by omega) (entL (.cons zle (.cons (by rw[hv,Nat.one_mul,Nat.one_mul];exact cn_lt h1) .nil)) zk .nil)
  · refine AW.ent (entSub (s:=6) (a:=N 0) leI) ?_
    repeat(refine zS ?_;intros)
    exact ag2 0 (a*a) (by omega) (entL (.cons zle (.cons (by rw[hv];exact cn_lt h2) .nil)) zk .nil)
  · repeat(refine zS ?_;intros)
    exact aRet1 rfl zv hK (by rw[hv];exact le_refl _)⟩
instance QyT:TK prog 262 (∀{M a s:Nat}(_:M≤1024)(_:s≤8)(_:a<2^s*2^s),AC prog 262 [] [num M a,N 2,N s] fun K=> ∀r,r*r≤a→a<(r+1)*(r+1)→K [] [cnum 2 r]):=⟨fun {M a s} hM hs ha=>by
  refine aEnter func262 rfl ntmps262 rfl fun K C hC hK=> ?_
  have h9:2^s≤2^8:=Nat.pow_le_pow_right (by omega) hs
  repeat(refine zS ?_;intros)
  refine aL2 [0,1] (fun(k:Nat) s=>[(8,I .i64 ((k:Int) -1)),(7,I .u64 ((s:Nat):Int))]) (fun _ _=>[]) (fun k s=>k≤8∧RtI a s k∧s+2^k≤256∧s<256) (fun k _=>k) s 0 ⟨hs,RtI.start ha,by omega,by omega⟩ (entL (.cons zle (.cons zle .nil)) zk .nil) fun k s ⟨hk,hI,h3,h4⟩=> ?_
  repeat(refine zS ?_;intros)
  refine zB ?_ ?_<;>intro h
  · obtain⟨j,rfl⟩: ∃j,k=j+1:=⟨k -1,by omega⟩
    have hp:2^ (j+1)=2*2^j:=by rw[Nat.pow_succ];omega
    have ho:s|||2^j=s+2^j:=hI.or (by omega)
    have h5:0<2^j:=Nat.two_pow_pos j
    refine AW.ent (entSub (s:=8) (a:=N j) leI) ?_
    repeat(refine zS ?_;intros)
    rename_i c c1 c2 c3 c4
    refine zB ?_ ?_<;>intro h6<;>repeat(refine zS ?_;intros)
    · exact ag2 j (s+2^j) ⟨by omega,hI.yes (by omega) rfl rfl (by simpa using(show(s+2^j)*(s+2^j)≤a by omega)),by omega,by omega⟩ (entL (.cons zle (.cons zle .nil)) zk .nil)
    · exact ag2 j s ⟨by omega,hI.no (by omega) rfl rfl (by simpa using(show a<(s+2^j)*(s+2^j) by omega)),by omega,by omega⟩ (entL (.cons zle (.cons zle .nil)) zk .nil)
  · obtain rfl:k=0:=by omega
    have⟨e1,e2⟩:=hI.done rfl
    repeat(refine zS ?_;intros)
    exact aRet1 rfl zv (hK s e1 e2) (le_refl _)⟩
instance QyO:TK prog 253 (∀{M a:Nat}(_:M≤1024)(_:1≤a)(_:a<65536),AC prog 253 [] [num M a,N 2] fun K=> ∀r,r*r≤a→a<(r+1)*(r+1)→K [] [cnum 2 r]):=⟨fun {M a} hM ha1 ha=>by
  refine aEnter func253 rfl ntmps253 rfl fun K C hC hK=> ?_
  repeat(refine zS ?_;intros)
  rename_i r r1 r2 r3
  have hl:=Qvr r2 ha (by omega)
  refine zB ?_ ?_<;>intro h<;>repeat(refine zS ?_;intros)
  · have⟨e1,e2⟩:=QjQ r1 (by omega) ha1
    exact aRet1 rfl zv (hK 1 e1 e2) (le_refl _)
  have hs:=QoL r1
  repeat(refine zS ?_;intros)
  rename_i q q1 q2
  exact aRet1 rfl zv (hK q q1 q2) (le_refl _)⟩
instance Qyw:TK prog 221 (∀{M a:Nat}(_:M≤1024)(_:a<65536),AC prog 221 [] [iv M (a:Int),N 2] fun K=> ∀r:Nat,r*r≤a→a<(r+1)*(r+1)→K [] [it 2 (r:Int),I .i64 0]):=⟨fun {M a} hM ha=>by
  refine aEnter func221 rfl ntmps221 rfl fun K C hC hK=>opI 0 rfl fun b x hx=> ?_
  have hx':x=a:=by rw[←Int.natAbs_natCast a,←hx,sg_abs]
  subst hx'
  have hb:x<BS^2:=by simp only[BS];omega
  repeat(refine zS ?_;intros)
  refine zB ?_ ?_<;>intro h<;>repeat(refine zS ?_;intros)
  · obtain rfl:x=0:=by omega
    exact aRet (rs:=[_,_]) rfl rfl (List.nil_sublist _) (arW0 zv 0 rfl rfl (by kernel_rfl) (it_lt (by simp [BS])) zr) (hK 0 (by omega) (by omega))
  have hx1:1≤x:=by omega
  repeat(refine zS ?_;intros)
  rename_i r r1 r2
  exact aRZ (rs:=[_,_]) rfl (hK r r1 r2)⟩
instance Qyh:TK prog 183 (∀{M a:Nat}(_:M≤1024)(_:a<65536),AC prog 183 [] [iv M (a:Int)] fun K=> ∀r:Nat,r*r≤a→a<(r+1)*(r+1)→ ∀z,K [] [it 2 (r:Int),it (M+8) z,I .i64 0]):=⟨fun {M a} hM ha=>by
  refine aEnter func183 rfl ntmps183 rfl fun K C hC hK=> ?_
  repeat(refine zS ?_;intros)
  rename_i r r1 r2
  exact aRet (rs:=[_,_,_]) rfl rfl (List.nil_sublist _) (arW0 zv 1 rfl rfl (by kernel_rfl) (le_itt (by omega)) (arW0 zv 0 rfl rfl (by kernel_rfl) (le_itt (by omega)) zr)) (hK r r1 r2 _)⟩
end Go.Proofs.YtjdpemcnlejpfaaGreatDoor
namespace Go.Proofs.YtjdpemcnlejpfaaGreatDoor
open Go.RowKit Go.Gx Go.Am Tryz
set_option maxHeartbeats 4000000 in
instance QyC:TK prog 227 (∀{M Mm m:Nat}{x:Int}(_:M≤1099511627)(_:Mm≤1099511627)(_:0<m)(_:Int.gcd x m=1),AC prog 227 [] [iv M x,iv Mm (m:Int)] fun K=> ∀u v:Int,(∃k:Int,u*x=1+m*k)→u=YY m u→K [] [it 2 1,it Mm u,it (M+Mm+8) v]):=⟨fun {M Mm m x} hM hMm hm hg=>by
  refine aEnter func227 rfl ntmps227 rfl fun K C hC hK=>bdI 1 rfl fun hb=> ?_
  repeat(refine zS ?_;intros)
  refine zB ?_ ?_<;>intro h
  · omega
  repeat(refine zS ?_;intros)
  rename_i g2 g3 g4 g5 g6
  refine aJ2 [2,3,4,5,6] (fun g7 g8=>[(7,lpt 1 g7 0),(8,lpt 1 g8 0)]) (fun g7 g8=>[(some g8,.arr 25 1 (itl Mm m)),(some g7,.arr 25 1 (itl M x)),(some g6,.arr 25 1 [Bo false,nilS]),(some g5,.arr 25 1 [Bo false,nilS]),(some g4,.arr 25 1 [Bo false,nilS]),(some g3,.arr 25 2 [iv Mm m]),(some g2,.arr 25 2 [iv M x])]) (fun _ _=>True) ?_ ?_
  · refine aDr1 [4,5,0,1,2,3,6,7] ?_
    repeat' (first | (refine zR ?_;intros)| (refine adO1 (by exact rfl) (zst ?_);intros)| (refine adO2 (by exact rfl) (zst ?_) (zst ?_)<;>intros)| (refine adO3 (by exact rfl) (zst ?_) (zst ?_) (zst ?_)<;>intros))
    all_goals rename_i ga gb
    all_goals first | exact jd2 ga gb trivial (entL (.cons zle (.cons zle .nil)) zk (.cons (ob_refl _) (.cons (ob_refl _) (HLe.refl _))))| exact jd2 ga gb trivial (entL (.cons zle (.cons zle .nil)) zk (.pick 1 rfl (ob_refl _) (.cons (ob_refl _) (HLe.refl _))))| exact jd2 gb ga trivial (entL (.cons zle (.cons zle .nil)) zk (.cons (ob_refl _) (.cons (ob_refl _) (HLe.refl _))))| exact jd2 gb ga trivial (entL (.cons zle (.cons zle .nil)) zk (.pick 1 rfl (ob_refl _) (.cons (ob_refl _) (HLe.refl _))))
  rintro g7 g8 -
  have hm1:(1:Int).natAbs<BS^Mm:=by rw[Int.natAbs_natCast] at hb;omega
  have hb': ∀z:Int,z.natAbs≤(m:Int).natAbs→z.natAbs<BS^Mm:=fun z h=>Nat.lt_of_le_of_lt h hb
  repeat(refine zS ?_;intros)
  rename_i g9
  refine aL4 [2,3,4,5,6,7,8,9] (fun _ _ _ _=>[]) (fun R S X Y=>[.arr 25 1 (itl Mm Y),.arr 25 1 (itl (max M Mm) S),.arr 25 1 (itl (max M Mm) R),.arr 25 1 [Bo false,nilS],.arr 25 1 (itl Mm X),.arr 25 1 [Bo false,nilS],.arr 25 2 [iv Mm m],.arr 25 2 [iv M x]]) (fun R S X Y=>XgI x m R S X Y) (fun _ S _ _=>S.natAbs) x m 1 0 (XgI.start (by omega) hg) (entL .nil zk (.cons (ob_il (hb' 0 (by omega))) (.cons (ob_i rfl (by omega)) (.cons (ob_i rfl (by omega)) (.cons (ob_refl _) (.cons (ob_il hm1) (.cons (ob_refl _) (HLe.refl _)))))))) fun R S X Y hI=> ?_
  repeat(refine zS ?_;intros)
  refine zB ?_ ?_<;>intro h1
  · have hS:S≠0:=h1
    have hn:=hI.step hS
    repeat(refine zS ?_;intros)
    refine aDrT [(2,g7)] [0,1,2,3] (zS ?_)
    refine adEw (q:=0) (js:=[(2,4)]) (by exact rfl) ye (by exact rfl) zg (by kernel_rfl) zjs1 ?_
    repeat(refine zS ?_;intros)
    exact ag4 S (R.tmod S) Y (X -R.tdiv S*Y) hn (entL .nil zk (.drop (.drop (.cons (ob_il (hb' _ hn.by_)) (.cons (ob_i rfl (by omega)) (.cons (ob_i rfl (by omega)) (.cons (ob_refl _) (.cons (ob_i rfl (by omega)) (.cons (ob_refl _) (HLe.refl _)))))))))) (Que rfl hS)
  obtain rfl:S=0:=by omega
  have hR:=hI.done
  repeat(refine zS ?_;intros)
  rename_i s s1 s2 s3 s4 s5
  refine aJ1 [2,3,4,5,6,7] (fun _=>[]) (fun X=>[(some g9,.arr 25 1 (itl Mm Y)),(some g8,.arr 25 1 (itl (max M Mm) 0)),(some g7,.arr 25 1 (itl (max M Mm) 1)),(some g6,.arr 25 1 [Bo false,nilS]),(some g5,.arr 25 1 (itl Mm X)),(some g4,.arr 25 1 [Bo false,nilS]),(some g3,.arr 25 2 [iv Mm m]),(some g2,.arr 25 2 [iv M x])]) (fun X=> ∃k:Int,X*x=1+m*k) ?_ ?_
  · refine zB ?_ ?_<;>intro h2
    · have⟨e1,e2⟩:=Qv6 hI.cx hR (by omega) rfl rfl
      repeat(refine zS ?_;intros)
      exact jd1 (-X) e2 (entL .nil zk (.cons (ob_refl _) (.cons (ob_refl _) (.cons (ob_i e1 (by omega)) (.cons (ob_refl _) (.cons (ob_i rfl (by omega)) (HLe.refl _)))))))
    · have⟨e1,e2⟩:=Qv7 hI.cx hR (by omega)
      repeat(refine zS ?_;intros)
      exact jd1 X e2 (entL .nil zk (.cons (ob_refl _) (.cons (ob_refl _) (.cons (ob_i e1 (by omega)) (HLe.refl _)))))
  intro X hX
  repeat(refine zS ?_;intros)
  rw[Int.tdiv_one]
  repeat(refine zS ?_;intros)
  refine aDrT [(3,g4),(4,g5)] [0,1,2,3,4,5] (zS ?_)
  refine adEw (q:=6) (js:=[(3,7)]) (by exact rfl) ye (by exact rfl) zg (by kernel_rfl) zjs1 ?_
  refine adEw (q:=5) (js:=[(3,7),(4,6)]) (by exact rfl) ye (by exact rfl) zg (by kernel_rfl) zjs ?_
  repeat(refine zS ?_;intros)
  have h3: ∃k:Int,YY m X*x=1+m*k:=by
    obtain⟨k,hk⟩:=hX
    obtain⟨l,hl⟩:=QfF m X
    exact⟨k+l*x,by rw[hl,Int.add_mul,hk];grind⟩
  exact aRet (rs:=[_,_,_]) rfl rfl (List.nil_sublist _) (arW0 zv 7 rfl rfl (by kernel_rfl) (it_lt (by simp [BS])) (arW0 zv 6 rfl rfl (by kernel_rfl) (le_itt (by omega)) (arW0 zv 5 rfl rfl (by kernel_rfl) (le_itt (by omega)) zr))) (hK _ _ h3 (Qdu hm X).symm)⟩
end Go.Proofs.YtjdpemcnlejpfaaGreatDoor
