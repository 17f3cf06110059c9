/- Layer 7: what is read, written, lost and rebuilt, by the program and by the reference. -/
import Derived.Test.YtlgjbfdojbmmgaaP7b
set_option linter.unusedSimpArgs false
set_option linter.unusedVariables false
namespace Go.Proofs.Ytlgjbfdojbmmgaa
open Go.SX
noncomputable def hasB (b:Banks) (k:Int):Bool:=zbj b&&(decide (0≤k)&&decide (k<((Banks.Rows b).length:Int)))
theorem zsI (r:Bool) (k n:Int):((
  (some r:Option Bool).bind fun v2 =>
  if v2 then
   if decide ((0:Int)≤k) then
    some ((decide (k<n)))
   else
    some (false)
  else
   some (false):Option Bool).bind fun v2 =>
 some (v2))=some (r&&(decide (0≤k)&&decide (k<n))):=by
 cases r
 ·rfl
 ·by_cases h:0≤k
  ·simp [h]
  ·simp [h]
theorem zex {b:Banks}(hb:BOk b) (k:Int):zdh b k=some (hasB b k):=by
 unfold zdh hasB
 rw [zdF hb]
 exact zsI _ _ _
noncomputable def zkZ (b:Banks) (k a:Int):Bool:=hasB b k&&(decide (0≤a)&&decide (a<((Banks.Par b).length:Int)))
theorem zlN (r:Bool) (a n:Int):(
  (some r:Option Bool).bind fun v3 =>
  if !v3 then
   some (true)
  else
   if decide (a<(0:Int)) then
    some (true)
   else
    some ((decide (n≤a))):Option Bool)=some (!(r&&(decide (0≤a)&&decide (a<n)))):=by
 cases r
 ·rfl
 ·by_cases h:a<0
  ·have h':¬ 0≤a:=by omega
   simp [h,h']
  ·have h':0≤a:=by omega
   by_cases h2:n≤a
   ·have h2':¬ a<n:=by omega
    simp [h,h',h2,h2']
   ·have h2':a<n:=by omega
    simp [h,h',h2,h2']
theorem zoh {b:Banks}{k:Int}(h:hasB b k=true):zbj b=true∧0≤k∧k<((Banks.Rows b).length:Int):=by
 unfold hasB at h
 simp only [wD0,decide_eq_true_eq] at h
 exact h
theorem zly {b:Banks}{k a:Int}(h:zkZ b k a=true):zbj b=true∧(0≤k∧k<((Banks.Rows b).length:Int))∧0≤a∧a<((Banks.Par b).length:Int):=by
 unfold zkZ at h
 simp only [wD0,decide_eq_true_eq] at h
 obtain ⟨h1,h2,h3⟩:=zoh h.1
 exact ⟨h1,⟨h2,h3⟩,h.2⟩
theorem zau {b:Banks}(h:zbj b=true):zmx b∧∀ r∈Banks.Rows b,r.length=(Banks.Par b).length:=by
 unfold zbj at h
 rw [wD0] at h
 exact ziv h.1
theorem znX {b:Banks}(h:zbj b=true) (hl:Banks.Lost b=0) {a:Nat}(ha:a<(Banks.Par b).length):za0 (Banks.Rows b) a (-1) (Banks.Rows b).length=zay (Banks.Par b) a:=by
 unfold zbj at h
 rw [wD0,if_pos hl,zbH] at h
 exact of_decide_eq_true (h.2 a ha)
theorem zrj {b:Banks}(h:zbj b=true) (hl:¬ Banks.Lost b=0) (a:Nat):zay (rowAt (Banks.Rows b) (Banks.Lost b - 1).toNat) a=0:=by
 unfold zbj at h
 rw [wD0,if_neg hl,List.all_eq_true] at h
 unfold zay
 cases e:(rowAt (Banks.Rows b) (Banks.Lost b - 1).toNat)[a]? with
 | none=>rfl
 | some x=>exact of_decide_eq_true (h.2 x (List.mem_of_getElem? e))
noncomputable def zsL (b:Banks) (k a:Int):Int×Int :=
 if zkZ b k a=true then (if Banks.Lost b=k + 1 then (0,8) else (cell (Banks.Rows b) k.toNat a.toNat,0)) else (0,1)
theorem zrz {b:Banks}(hb:BOk b) (k a:Int):((some (!(zkZ b k a)):Option Bool).bind fun v3 =>
 if v3 then
  some (((0:Int),(1:Int)))
 else
  if decide ((Banks.Lost b)=(w64 (k + (1:Int)))) then
   some (((0:Int),(8:Int)))
  else
   (getO (Banks.Rows b) k).bind fun v8 =>
   (getO v8 a).bind fun v9 =>
   some ((v9,(0:Int))))=some (zsL b k a):=by
 unfold zsL
 cases hw:zkZ b k a
 ·rfl
 ·obtain ⟨h1,⟨h2,h3⟩,h4,h5⟩:=zly hw
  obtain ⟨_,hr⟩:=zau h1
  obtain ⟨i,rfl⟩:∃ i:Nat,k=(i:Int):=⟨k.toNat,by omega⟩
  obtain ⟨j,rfl⟩:∃ j:Nat,a=(j:Int):=⟨a.toNat,by omega⟩
  have hi:i<(Banks.Rows b).length:=by omega
  have hbl:=hb.rl
  have hj:j<(Banks.Rows b)[i].length:=by rw [hr _ (List.getElem_mem hi)];omega
  have hw:w64 ((i:Int) + 1)=(i:Int) + 1:=zcM (by omega) (by omega)
  have hc:cell (Banks.Rows b) i j=(Banks.Rows b)[i][j]:=by unfold cell;rw [zdM hi,zcb hj]
  simp only [wH0,wC0,wA0,if_false,if_true,hw,zat hi,zat hj,Int.toNat_natCast,hc]
  by_cases hl:Banks.Lost b=(i:Int) + 1
  ·simp only [hl,decide_true,if_true]
  ·simp only [hl,decide_false,wA0,if_false]
theorem zdY {b:Banks}(hb:BOk b) (k a:Int):zdy b k a=some (zsL b k a):=by
 unfold zdy
 rw [zex hb,zlN]
 exact zrz hb k a
theorem zn0 {rows:List (List Int)}(hn:rows.length≤1000) (hr:∀ r∈rows,r.length≤1000):zaz (zae rows (List.length rows:Int)) ((0:Int),([]:List (List Int)))=some rows:=by
 have lp:=zaN (f:=zae rows (List.length rows:Int)) (n:=rows.length) (e:=rows) (fun i=>((i:Int),rows.take i)) (fun i hi=>by
  have hlt:(i:Int)<(List.length rows:Int):=by omega
  have hl:=hr rows[i] (List.getElem_mem hi)
  have h1:zaO 4 rows[i]=some rows[i]:=zdN (by omega) (by omega)
  have h2:appO 24 (rows.take i) [rows[i]]=some (rows.take i++[rows[i]]):=zdf (by simp;omega) (by omega)
  unfold zae
  simp only [hlt,decide_true,if_true,zat hi,wC0,h1,h2,zb5 hi,zaD (show i<4611686018427387904 by omega)]) (by
  unfold zae
  simp only [show ¬ (List.length rows:Int)<(List.length rows:Int) by omega,decide_false,wA0,if_false,List.take_length])
 simpa using lp
theorem zpT {b:Banks}(hb:BOk b):(
  (zaO 4 (Banks.Par b)).bind fun v5 =>
  let v8:Int:=(List.length (Banks.Rows b):Int)
  (
   zaz (zae (Banks.Rows b) v8) ((0:Int),([]:List (List Int))):Option (List (List Int))).bind fun v9 =>
  some ((Banks.Lost b,v9,v5)):Option (Int×(List (List Int))×(List Int)))=some (Banks.Lost b,Banks.Rows b,Banks.Par b):=by
 have h1:zaO 4 (Banks.Par b)=some (Banks.Par b):=zdN (by have:=hb.pl;omega) (by omega)
 dsimp only
 rw [h1,wC0,zn0 (by have:=hb.rl;omega) (fun r hr=>by have:=hb.el r hr;omega)]
 rfl
noncomputable def zbL (b:Banks) (k a:Nat) (w:Int):Banks :=
 Banks.mk ((Banks.Rows b).set k ((rowAt (Banks.Rows b) k).set a w)) ((Banks.Par b).set a (xo (zay (Banks.Par b) a) (xo (cell (Banks.Rows b) k a) w))) (Banks.Lost b)
noncomputable def zsY (b:Banks) (k a w:Int):Banks×Int :=
 if zkZ b k a=true then (if 0<Banks.Lost b then (b,8) else (zbL b k.toNat a.toNat w,0)) else (b,1)
theorem zky {b:Banks}(hb:BOk b) (k a w:Int):zbw b k a w=some (zsY b k a w):=by
 unfold zbw zsY
 rw [zpT hb,zex hb,zlN,show (hasB b k&&(decide (0≤a)&&decide (a<((Banks.Par b).length:Int))))=zkZ b k a from rfl]
 cases hw:zkZ b k a
 ·rfl
 ·obtain ⟨h1,⟨h2,h3⟩,h4,h5⟩:=zly hw
  obtain ⟨_,hr⟩:=zau h1
  obtain ⟨i,rfl⟩:∃ i:Nat,k=(i:Int):=⟨k.toNat,by omega⟩
  obtain ⟨j,rfl⟩:∃ j:Nat,a=(j:Int):=⟨a.toNat,by omega⟩
  have hi:i<(Banks.Rows b).length:=by omega
  have hjp:j<(Banks.Par b).length:=by omega
  have hj:j<(Banks.Rows b)[i].length:=by rw [hr _ (List.getElem_mem hi)];omega
  have hc:cell (Banks.Rows b) i j=(Banks.Rows b)[i][j]:=by unfold cell;rw [zdM hi,zcb hj]
  by_cases hl:0<Banks.Lost b
  ·simp only [wC0,wH0,wA0,if_false,if_true,hl,decide_true]
   rfl
  ·simp only [wC0,wH0,wA0,if_false,if_true,hl,decide_false,zdV hi,zdV hjp,zat hi,zat hjp,zdV hj,zat hj,zgb hj,zgb hi,zgb hjp,Int.toNat_natCast]
   unfold zbL
   rw [hc,zdM hi,zcb hjp]
   rfl
theorem zs8 {b:Banks}(hb:BOk b) (hr:zbj b=true) (hl:Banks.Lost b=0) {i j:Nat}(hi:i<(Banks.Rows b).length) (hj:j<(Banks.Par b).length) {w:Int}(hw:wd w) :
  za0 ((Banks.Rows b).set i ((rowAt (Banks.Rows b) i).set j w)) j (-1) (Banks.Rows b).length=xo (zay (Banks.Par b) j) (xo (cell (Banks.Rows b) i j) w):=by
 obtain ⟨_,hf⟩:=zau hr
 have hrow:j<(rowAt (Banks.Rows b) i).length:=by rw [hf _ (zdt hi)];exact hj
 have hrw:∀ x∈rowAt (Banks.Rows b) i,wd x:=hb.rw _ (zdt hi)
 have w1:=zfD hb.rw j (i:Int) (Banks.Rows b).length
 have w2:=zgG hb.rw i j
 rw [zs7 hb.rw (zph hrw hw) hi hi,zik hrow,← znX hr hl hj,zeu hb.rw hi,zhf w1 w2 (zuj w2 hw),← zhf w2 w2 hw,zsP w2,zts hw]
noncomputable def zc0 (b:Banks) (k:Nat):Banks:=Banks.mk ((Banks.Rows b).set k (List.replicate (Banks.Par b).length 0)) (Banks.Par b) ((k:Int) + 1)
noncomputable def zpo (b:Banks) (k:Int):Banks×Int:=if hasB b k=true then (if 0<Banks.Lost b then (b,8) else (zc0 b k.toNat,0)) else (b,1)
theorem zdU {b:Banks}(hb:BOk b) (k:Int):zdp b k=some (zpo b k):=by
 unfold zdp zpo
 have hc:=zpT hb
 rw [show zf9=zae from rfl,hc,zex hb]
 cases hw:hasB b k
 ·rfl
 ·obtain ⟨h1,h2,h3⟩:=zoh hw
  obtain ⟨_,hr⟩:=zau h1
  obtain ⟨i,rfl⟩:∃ i:Nat,k=(i:Int):=⟨k.toNat,by omega⟩
  have hi:i<(Banks.Rows b).length:=by omega
  have hn:=hb.rl
  have hw:w64 ((i:Int) + 1)=(i:Int) + 1:=zcM (by omega) (by omega)
  by_cases hl:0<Banks.Lost b
  ·simp only [wC0,wH0,wA0,if_false,if_true,hl,decide_true]
   rfl
  ·simp only [wC0,wH0,wA0,if_false,if_true,hl,decide_false,zdV hi,zat hi,zgb hi,Int.toNat_natCast,hw,hr _ (List.getElem_mem hi)]
   rfl
noncomputable def zhG (b:Banks):List Int:=(List.range (Banks.Par b).length).map fun a=>xo (za0 (Banks.Rows b) a (((Banks.Lost b - 1).toNat:Nat):Int) (Banks.Rows b).length) (zay (Banks.Par b) a)
noncomputable def zjf (b:Banks):Banks:=Banks.mk ((Banks.Rows b).set (Banks.Lost b - 1).toNat (zhG b)) (Banks.Par b) 0
noncomputable def zgO (b:Banks):Banks×Int:=if zbj b=true then (if Banks.Lost b=0 then (b,8) else (zjf b,0)) else (b,1)
theorem zni {rows:List (List Int)}{r:List Int}{i:Nat}(h:i<rows.length):rowAt (rows++[r]) i=rowAt rows i:=by
 unfold rowAt
 rw [List.getElem?_append_left h]
theorem ztm {rows:List (List Int)}{r:List Int}:rowAt (rows++[r]) rows.length=r:=by
 unfold rowAt
 simp
theorem ztY {b:Banks}(hb:BOk b) (hr:zbj b=true) (hl:¬ Banks.Lost b=0):tog (Banks.Rows b++[Banks.Par b]) (Banks.Par b).length=zhG b:=by
 obtain ⟨⟨_,_,_,_,h5,h6⟩,_⟩:=zau hr
 have hk:(Banks.Lost b - 1).toNat<(Banks.Rows b).length:=by omega
 unfold tog zhG
 apply List.map_congr_left
 intro a ha
 have hlen:(Banks.Rows b++[Banks.Par b]).length=(Banks.Rows b).length + 1:=by simp
 have c1:¬ (((Banks.Rows b).length:Int)=-1):=by omega
 rw [hlen,za0,if_neg c1]
 have e1:cell (Banks.Rows b++[Banks.Par b]) (Banks.Rows b).length a=zay (Banks.Par b) a:=by unfold cell;rw [ztm]
 have e2:za0 (Banks.Rows b++[Banks.Par b]) a (-1) (Banks.Rows b).length=za0 (Banks.Rows b) a (-1) (Banks.Rows b).length:=zds _ fun i hi _=>by unfold cell;rw [zni hi]
 rw [e1,e2,zeu hb.rw hk]
 have e3:cell (Banks.Rows b) (Banks.Lost b - 1).toNat a=0:=zrj hr hl a
 rw [e3,zpa (zfD hb.rw _ _ _)]
theorem zcj {b:Banks}(hb:BOk b):zbO b=some (zgO b):=by
 unfold zbO zgO
 have hc:=zpT hb
 rw [show zbB=zae from rfl,show zeg=za6 from rfl,hc,zdF hb]
 cases hr:zbj b
 ·rfl
 ·obtain ⟨⟨h1,h2,h3,h4,h5,h6⟩,hf⟩:=zau hr
  by_cases hl:Banks.Lost b=0
  ·simp only [wC0,wH0,wA0,if_false,if_true,hl,decide_true]
   rw [← hl]
   rfl
  ·obtain ⟨k,hk⟩:∃ k:Nat,Banks.Lost b - 1=(k:Int):=⟨(Banks.Lost b - 1).toNat,by omega⟩
   have hkn:k<(Banks.Rows b).length:=by omega
   have h0:0<(Banks.Rows b).length:=by omega
   have g0:=zat h0
   rw [show (((0:Nat):Int))=0 from rfl] at g0
   have a1:appO 24 (Banks.Rows b) [Banks.Par b]=some (Banks.Rows b++[Banks.Par b]):=zdf (by simp;omega) (by omega)
   have r1:=zfH (z:=(0:Int)) (b:=4) (n:=(Banks.Par b).length) (by omega) (by omega)
   have tl:=zqm (rows:=Banks.Rows b++[Banks.Par b]) (words:=(Banks.Par b).length) (by simp;omega) (by omega) (fun r hr'=>by
    rcases List.mem_append.1 hr' with q|q
    ·exact hf r q
    ·rw [List.mem_singleton.1 q])
   rw [ztY hb hr hl] at tl
   simp only [wC0,wH0,wA0,if_false,if_true,hl,decide_false,g0,a1,r1,tl,(show w64 (Banks.Lost b - 1)=(k:Int) from (zqu h5 (show Banks.Lost b≤1000 by omega)).trans hk),zdV hkn,zgb hkn]
   unfold zjf
   rw [hk,Int.toNat_natCast]
theorem zl2 {b:Banks}(h1:(Banks.Rows b).length≤1000) (h2:(Banks.Par b).length≤1000) (h3:∀ r∈Banks.Rows b,r.length≤1000):zhr b b=some true:=by
 unfold zhr
 have l3:=zaN (f:=zeL b b) (n:=(Banks.Par b).length) (e:=(Sum.inl ():Unit⊕Bool)) (fun i=>(i:Int)) (fun i hi=>by
  have hlt:(i:Int)<(List.length (Banks.Par b):Int):=by omega
  unfold zeL
  simp only [hlt,decide_true,if_true,zat hi,wC0,wH0,wA0,if_false,zaD (show i<4611686018427387904 by omega)]) (by
  unfold zeL
  simp only [show ¬ (List.length (Banks.Par b):Int)<(List.length (Banks.Par b):Int) by omega,decide_false,wA0,if_false])
 have l2:=zaN (f:=zeT b b) (n:=(Banks.Rows b).length) (e:=(Sum.inl ():Unit⊕Bool)) (fun i=>(i:Int)) (fun i hi=>by
  have hlt:(i:Int)<(List.length (Banks.Rows b):Int):=by omega
  have hrl:=h3 _ (List.getElem_mem hi)
  have l1:=zaN (f:=zeG b b (i:Int)) (n:=(Banks.Rows b)[i].length) (e:=(Sum.inl ():Unit⊕Int⊕Unit⊕Bool)) (fun j=>(j:Int)) (fun j hj=>by
   have hlt:(j:Int)<(List.length (Banks.Rows b)[i]:Int):=by omega
   unfold zeG
   simp only [zat hi,hlt,decide_true,if_true,zat hj,wC0,wH0,wA0,if_false,zaD (show j<4611686018427387904 by omega)]) (by
   unfold zeG
   simp only [zat hi,wC0,show ¬ (List.length (Banks.Rows b)[i]:Int)<(List.length (Banks.Rows b)[i]:Int) by omega,decide_false,wA0,if_false])
  rw [show (((0:Nat):Int))=0 from rfl] at l1
  unfold zeT
  simp only [hlt,decide_true,if_true,zat hi,wC0,wH0,wA0,if_false,l1,zbn,zaD (show i<4611686018427387904 by omega)]) (by
  unfold zeT
  simp only [show ¬ (List.length (Banks.Rows b):Int)<(List.length (Banks.Rows b):Int) by omega,decide_false,wA0,if_false])
 rw [show (((0:Nat):Int))=0 from rfl] at l2 l3
 simp only [decide_true,wH0,Bool.or_self,wA0,if_false,l3,l2,zbn]
theorem zuW {b:Banks}(h:BOk b):zhr b b=some true:=zl2 (by have:=h.rl;omega) (by have:=h.pl;omega) (fun r hr=>by have:=h.el r hr;omega)
noncomputable def newB (n m:Nat):Banks:=Banks.mk (List.replicate n (List.replicate m 0)) (List.replicate m 0) 0
theorem zt8 {n m:Nat}(hn:n≤1000) (hm:m≤1000):zaz (zeq (n:Int) (m:Int)) ((0:Int),([]:List (List Int)))=some (List.replicate n (List.replicate m 0)):=by
 have lp:=zaN (f:=zeq (n:Int) (m:Int)) (n:=n) (e:=List.replicate n (List.replicate m (0:Int))) (fun i=>((i:Int),List.replicate i (List.replicate m (0:Int)))) (fun i hi=>by
  have hlt:(i:Int)<(n:Int):=by omega
  have r1:=zfH (z:=(0:Int)) (b:=4) (n:=m) (by omega) (by omega)
  have a1:appO 24 (List.replicate i (List.replicate m (0:Int))) [List.replicate m (0:Int)]=some (List.replicate (i + 1) (List.replicate m (0:Int))):=by
   rw [zdf (by simp;omega) (by omega),← List.replicate_succ']
  unfold zeq
  simp only [hlt,decide_true,if_true,r1,a1,wC0,zaD (show i<4611686018427387904 by omega)]) (by
  unfold zeq
  simp only [show ¬ (n:Int)<(n:Int) by omega,decide_false,wA0,if_false])
 simpa using lp
end Go.Proofs.Ytlgjbfdojbmmgaa
