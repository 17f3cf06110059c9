/- Layer 7: what is read, written, lost and rebuilt, by the program and by the reference. -/
import Derived.Test.YtlgjbfdojbmmgaaP7b
set_option linter.unusedSimpArgs false
set_option linter.unusedVariables false
namespace Go.Proofs.Ytlgjbfdojbmmgaa
open Go.SX
noncomputable def hasB (b:Banks) (k:Int):Bool:=zbf b&&(decide (0≤k)&&decide (k<((Banks.Rows b).length:Int)))
theorem zoP (r:Bool) (k n:Int):((
  (some r:Option Bool).bind fun v2 =>
  if v2 then
   if decide ((0:Int)≤k) then
    some ((decide (k<n)))
   else
    some (false)
  else
   some (false):Option Bool).bind fun v2 =>
 some (v2))=some (r&&(decide (0≤k)&&decide (k<n))):=by
 cases r
 ·rfl
 ·by_cases h:0≤k
  ·simp [h]
  ·simp [h]
theorem ze7 {b:Banks}(hb:BOk b) (k:Int):zdp b k=some (hasB b k):=by
 unfold zdp hasB
 rw [zdJ hb]
 exact zoP _ _ _
theorem zjb {b:Banks}(hb:BOk b) (k:Int):ziQ b k=some (hasB b k):=by
 unfold ziQ hasB
 rw [zf7 hb]
 exact zoP _ _ _
noncomputable def zjW (b:Banks) (k a:Int):Bool:=hasB b k&&(decide (0≤a)&&decide (a<((Banks.Par b).length:Int)))
theorem zgg (r:Bool) (a n:Int):(
  (some r:Option Bool).bind fun v3 =>
  if !v3 then
   some (true)
  else
   if decide (a<(0:Int)) then
    some (true)
   else
    some ((decide (n≤a))):Option Bool)=some (!(r&&(decide (0≤a)&&decide (a<n)))):=by
 cases r
 ·rfl
 ·by_cases h:a<0
  ·have h':¬ 0≤a:=by omega
   simp [h,h']
  ·have h':0≤a:=by omega
   by_cases h2:n≤a
   ·have h2':¬ a<n:=by omega
    simp [h,h',h2,h2']
   ·have h2':a<n:=by omega
    simp [h,h',h2,h2']
theorem zlm {b:Banks}{k:Int}(h:hasB b k=true):zbf b=true∧0≤k∧k<((Banks.Rows b).length:Int):=by
 unfold hasB at h
 simp only [wD0,decide_eq_true_eq] at h
 exact h
theorem ziy {b:Banks}{k a:Int}(h:zjW b k a=true):zbf b=true∧(0≤k∧k<((Banks.Rows b).length:Int))∧0≤a∧a<((Banks.Par b).length:Int):=by
 unfold zjW at h
 simp only [wD0,decide_eq_true_eq] at h
 obtain ⟨h1,h2,h3⟩:=zlm h.1
 exact ⟨h1,⟨h2,h3⟩,h.2⟩
theorem zas {b:Banks}(h:zbf b=true):zmn b∧∀ r∈Banks.Rows b,r.length=(Banks.Par b).length:=by
 unfold zbf at h
 rw [wD0] at h
 exact zjR h.1
theorem zpv {b:Banks}(h:zbf b=true) (hl:Banks.Lost b=0) {a:Nat}(ha:a<(Banks.Par b).length):zaO (Banks.Rows b) a (-1) (Banks.Rows b).length=zaC (Banks.Par b) a:=by
 unfold zbf at h
 rw [wD0,if_pos hl,zca] at h
 exact of_decide_eq_true (h.2 a ha)
theorem ztd {b:Banks}(h:zbf b=true) (hl:¬ Banks.Lost b=0) (a:Nat):zaC (rowAt (Banks.Rows b) (Banks.Lost b - 1).toNat) a=0:=by
 unfold zbf at h
 rw [wD0,if_neg hl,List.all_eq_true] at h
 unfold zaC
 cases e:(rowAt (Banks.Rows b) (Banks.Lost b - 1).toNat)[a]? with
 | none=>rfl
 | some x=>exact of_decide_eq_true (h.2 x (List.mem_of_getElem? e))
noncomputable def ztK (b:Banks) (k a:Int):Int×Int :=
 if zjW b k a=true then (if Banks.Lost b=k + 1 then (0,8) else (cell (Banks.Rows b) k.toNat a.toNat,0)) else (0,1)
theorem znv {b:Banks}(hb:BOk b) (k a:Int):((some (!(zjW b k a)):Option Bool).bind fun v3 =>
 if v3 then
  some (((0:Int),(1:Int)))
 else
  if decide ((Banks.Lost b)=(w64 (k + (1:Int)))) then
   some (((0:Int),(8:Int)))
  else
   (getO (Banks.Rows b) k).bind fun v8 =>
   (getO v8 a).bind fun v9 =>
   some ((v9,(0:Int))))=some (ztK b k a):=by
 unfold ztK
 cases hw:zjW b k a
 ·rfl
 ·obtain ⟨h1,⟨h2,h3⟩,h4,h5⟩:=ziy hw
  obtain ⟨_,hr⟩:=zas h1
  obtain ⟨i,rfl⟩:∃ i:Nat,k=(i:Int):=⟨k.toNat,by omega⟩
  obtain ⟨j,rfl⟩:∃ j:Nat,a=(j:Int):=⟨a.toNat,by omega⟩
  have hi:i<(Banks.Rows b).length:=by omega
  have hbl:=hb.rl
  have hj:j<(Banks.Rows b)[i].length:=by rw [hr _ (List.getElem_mem hi)];omega
  have hw:w64 ((i:Int) + 1)=(i:Int) + 1:=zdO (by omega) (by omega)
  have hc:cell (Banks.Rows b) i j=(Banks.Rows b)[i][j]:=by unfold cell;rw [zbo hi,zaJ hj]
  simp only [wH0,wC0,wA0,if_false,if_true,hw,zab hi,zab hj,Int.toNat_natCast,hc]
  by_cases hl:Banks.Lost b=(i:Int) + 1
  ·simp only [hl,decide_true,if_true]
  ·simp only [hl,decide_false,wA0,if_false]
theorem zd7 {b:Banks}(hb:BOk b) (k a:Int):zdu b k a=some (ztK b k a):=by
 unfold zdu
 rw [ze7 hb,zgg]
 exact znv hb k a
theorem zrt {b:Banks}(hb:BOk b) (k a:Int):zkp b k a=some (ztK b k a):=by
 unfold zkp
 rw [zjb hb,zgg]
 exact znv hb k a
theorem zpf {rows:List (List Int)}(hn:rows.length≤1000) (hr:∀ r∈rows,r.length≤1000):zar (zae rows (List.length rows:Int)) ((0:Int),([]:List (List Int)))=some rows:=by
 have lp:=zav (f:=zae rows (List.length rows:Int)) (n:=rows.length) (e:=rows) (fun i=>((i:Int),rows.take i)) (fun i hi=>by
  have hlt:(i:Int)<(List.length rows:Int):=by omega
  have hl:=hr rows[i] (List.getElem_mem hi)
  have h1:zaV 4 rows[i]=some rows[i]:=zd2 (by omega) (by omega)
  have h2:appO 24 (rows.take i) [rows[i]]=some (rows.take i++[rows[i]]):=zaH (by simp;omega) (by omega)
  unfold zae
  simp only [hlt,decide_true,if_true,zab hi,wC0,h1,h2,zaF hi,zah (show i<4611686018427387904 by omega)]) (by
  unfold zae
  simp only [show ¬ (List.length rows:Int)<(List.length rows:Int) by omega,decide_false,wA0,if_false,List.take_length])
 simpa using lp
theorem zrJ {b:Banks}(hb:BOk b):(
  (zaV 4 (Banks.Par b)).bind fun v5 =>
  let v8:Int:=(List.length (Banks.Rows b):Int)
  (
   zar (zae (Banks.Rows b) v8) ((0:Int),([]:List (List Int))):Option (List (List Int))).bind fun v9 =>
  some ((Banks.Lost b,v9,v5)):Option (Int×(List (List Int))×(List Int)))=some (Banks.Lost b,Banks.Rows b,Banks.Par b):=by
 have h1:zaV 4 (Banks.Par b)=some (Banks.Par b):=zd2 (by have:=hb.pl;omega) (by omega)
 dsimp only
 rw [h1,wC0,zpf (by have:=hb.rl;omega) (fun r hr=>by have:=hb.el r hr;omega)]
 rfl
noncomputable def zbj (b:Banks) (k a:Nat) (w:Int):Banks :=
 Banks.mk ((Banks.Rows b).set k ((rowAt (Banks.Rows b) k).set a w)) ((Banks.Par b).set a (xo (zaC (Banks.Par b) a) (xo (cell (Banks.Rows b) k a) w))) (Banks.Lost b)
noncomputable def zmI (b:Banks) (k a w:Int):Banks×Int :=
 if zjW b k a=true then (if 0<Banks.Lost b then (b,8) else (zbj b k.toNat a.toNat w,0)) else (b,1)
theorem zlN {b:Banks}(hb:BOk b) (k a w:Int):zby b k a w=some (zmI b k a w):=by
 unfold zby zmI
 rw [zrJ hb,ze7 hb,zgg,show (hasB b k&&(decide (0≤a)&&decide (a<((Banks.Par b).length:Int))))=zjW b k a from rfl]
 cases hw:zjW b k a
 ·rfl
 ·obtain ⟨h1,⟨h2,h3⟩,h4,h5⟩:=ziy hw
  obtain ⟨_,hr⟩:=zas h1
  obtain ⟨i,rfl⟩:∃ i:Nat,k=(i:Int):=⟨k.toNat,by omega⟩
  obtain ⟨j,rfl⟩:∃ j:Nat,a=(j:Int):=⟨a.toNat,by omega⟩
  have hi:i<(Banks.Rows b).length:=by omega
  have hjp:j<(Banks.Par b).length:=by omega
  have hj:j<(Banks.Rows b)[i].length:=by rw [hr _ (List.getElem_mem hi)];omega
  have hc:cell (Banks.Rows b) i j=(Banks.Rows b)[i][j]:=by unfold cell;rw [zbo hi,zaJ hj]
  by_cases hl:0<Banks.Lost b
  ·simp only [wC0,wH0,wA0,if_false,if_true,hl,decide_true]
   rfl
  ·simp only [wC0,wH0,wA0,if_false,if_true,hl,decide_false,zcm hi,zcm hjp,zab hi,zab hjp,zcm hj,zab hj,zcZ hj,zcZ hi,zcZ hjp,Int.toNat_natCast]
   unfold zbj
   rw [hc,zbo hi,zaJ hjp]
   rfl
theorem zhs {b:Banks}(hb:BOk b) {i:Nat}(hi:i<(Banks.Rows b).length) (r:List Int):zgk b (i:Int) r=some (Banks.mk ((Banks.Rows b).set i r) (Banks.Par b) (Banks.Lost b)):=by
 unfold zgk
 rw [zaH (by have:=hb.rl;simp;omega) (by omega),List.nil_append]
 simp only [wC0,zcm hi,zcZ hi]
theorem zoQ {b:Banks}(hb:BOk b) (hr:zbf b=true) (hl:Banks.Lost b=0) {i j:Nat}(hi:i<(Banks.Rows b).length) (hj:j<(Banks.Par b).length) {w:Int}(hw:wd w) :
  zaO ((Banks.Rows b).set i ((rowAt (Banks.Rows b) i).set j w)) j (-1) (Banks.Rows b).length=xo (zaC (Banks.Par b) j) (xo (cell (Banks.Rows b) i j) w):=by
 obtain ⟨_,hf⟩:=zas hr
 have hrow:j<(rowAt (Banks.Rows b) i).length:=by rw [hf _ (zdt hi)];exact hj
 have hrw:∀ x∈rowAt (Banks.Rows b) i,wd x:=hb.rw _ (zdt hi)
 have w1:=zfj hb.rw j (i:Int) (Banks.Rows b).length
 have w2:=ziz hb.rw i j
 rw [zun hb.rw (zjk hrw hw) hi hi,ziE hrow,← zpv hr hl hj,zhg hb.rw hi,zki w1 w2 (zuB w2 hw),← zki w2 w2 hw,zxt w2,zxx hw]
theorem zpY {b:Banks}(hb:BOk b) (k a w:Int) (hw:wd w):zfD b k a w=some (zmI b k a w):=by
 unfold zfD zmI
 rw [zjb hb,zgg,show (hasB b k&&(decide (0≤a)&&decide (a<((Banks.Par b).length:Int))))=zjW b k a from rfl]
 cases hwb:zjW b k a
 ·rfl
 ·obtain ⟨h1,⟨h2,h3⟩,h4,h5⟩:=ziy hwb
  obtain ⟨hsz,hr⟩:=zas h1
  obtain ⟨i,rfl⟩:∃ i:Nat,k=(i:Int):=⟨k.toNat,by omega⟩
  obtain ⟨j,rfl⟩:∃ j:Nat,a=(j:Int):=⟨a.toNat,by omega⟩
  have hi:i<(Banks.Rows b).length:=by omega
  have hjp:j<(Banks.Par b).length:=by omega
  have hrow:=hr _ (List.getElem_mem hi)
  have hj:j<(Banks.Rows b)[i].length:=by rw [hrow];omega
  have hn:=hb.rl
  have hp:=hb.pl
  obtain ⟨_,_,_,_,hl0,_⟩:=hsz
  by_cases hl:Banks.Lost b=0
  ·have hl':¬ 0<Banks.Lost b:=by omega
   have a1:appO 4 ([]:List Int) (Banks.Rows b)[i]=some (Banks.Rows b)[i]:=by rw [zaH (by simp;omega) (by omega),List.nil_append]
   have a2:appO 4 ([]:List Int) (Banks.Par b)=some (Banks.Par b):=by rw [zaH (by simp;omega) (by omega),List.nil_append]
   have hset:∀ r∈(Banks.Rows b).set i ((Banks.Rows b)[i].set j w),j<r.length:=by
    intro r hrm
    rcases List.mem_or_eq_of_mem_set hrm with q|q
    ·rw [hr r q];exact hjp
    ·rw [q,List.length_set];exact hj
   have hcol:=zfg (rows:=(Banks.Rows b).set i ((Banks.Rows b)[i].set j w)) (a:=j) (by rw [List.length_set];omega) hset (-1)
   have hpar:=zoQ hb h1 hl hi hjp hw
   rw [zbo hi] at hpar
   rw [List.length_set,hpar] at hcol
   simp only [wC0,wH0,wA0,if_false,if_true,hl,hl',decide_true,zab hi,a1,zcm hj,zcZ hj,zhs hb hi,Banks.Par_mk,Banks.Rows_mk,Banks.Lost_mk,a2,hcol,zcm hjp,zcZ hjp,Int.toNat_natCast,show ¬ (0:Int)<0 by omega]
   unfold zbj
   rw [zbo hi,hl]
  ·have hl':0<Banks.Lost b:=by omega
   simp only [wC0,wH0,wA0,if_false,if_true,hl,hl',decide_false,Bool.not_false]
noncomputable def zxP (b:Banks) (k:Nat):Banks:=Banks.mk ((Banks.Rows b).set k (List.replicate (Banks.Par b).length 0)) (Banks.Par b) ((k:Int) + 1)
noncomputable def zmx (b:Banks) (k:Int):Banks×Int:=if hasB b k=true then (if 0<Banks.Lost b then (b,8) else (zxP b k.toNat,0)) else (b,1)
theorem zmb {b:Banks}(hb:BOk b) (k:Int):ze6 b k=some (zmx b k):=by
 unfold ze6 zmx
 have hc:=zrJ hb
 rw [show zgI=zae from rfl,hc,ze7 hb]
 cases hw:hasB b k
 ·rfl
 ·obtain ⟨h1,h2,h3⟩:=zlm hw
  obtain ⟨_,hr⟩:=zas h1
  obtain ⟨i,rfl⟩:∃ i:Nat,k=(i:Int):=⟨k.toNat,by omega⟩
  have hi:i<(Banks.Rows b).length:=by omega
  have hn:=hb.rl
  have hw:w64 ((i:Int) + 1)=(i:Int) + 1:=zdO (by omega) (by omega)
  by_cases hl:0<Banks.Lost b
  ·simp only [wC0,wH0,wA0,if_false,if_true,hl,decide_true]
   rfl
  ·simp only [wC0,wH0,wA0,if_false,if_true,hl,decide_false,zcm hi,zab hi,zcZ hi,Int.toNat_natCast,hw,hr _ (List.getElem_mem hi)]
   rfl
theorem zrQ {b:Banks}(hb:BOk b) (k:Int):zj9 b k=some (zmx b k):=by
 unfold zj9 zmx
 rw [zjb hb]
 cases hw:hasB b k
 ·rfl
 ·obtain ⟨h1,h2,h3⟩:=zlm hw
  obtain ⟨hsz,hr⟩:=zas h1
  obtain ⟨i,rfl⟩:∃ i:Nat,k=(i:Int):=⟨k.toNat,by omega⟩
  have hi:i<(Banks.Rows b).length:=by omega
  have hn:=hb.rl
  have hp:=hb.pl
  have hw:w64 ((i:Int) + 1)=(i:Int) + 1:=zdO (by omega) (by omega)
  have r1:=zb9 (z:=(0:Int)) (b:=4) (n:=(Banks.Par b).length) (by omega) (by omega)
  obtain ⟨_,_,_,_,hl0,_⟩:=hsz
  by_cases hl:Banks.Lost b=0
  ·have hl':¬ 0<Banks.Lost b:=by omega
   simp only [wC0,wH0,wA0,if_false,if_true,hl,hl',decide_true,r1,zhs hb hi,hw,Int.toNat_natCast,show ¬ (0:Int)<0 by omega,Banks.setLost_eq,Banks.Rows_mk,Banks.Par_mk]
   rfl
  ·have hl':0<Banks.Lost b:=by omega
   simp only [wC0,wH0,wA0,if_false,if_true,hl,hl',decide_false,Bool.not_false]
noncomputable def zb4 (b:Banks):List Int:=(List.range (Banks.Par b).length).map fun a=>xo (zaO (Banks.Rows b) a (((Banks.Lost b - 1).toNat:Nat):Int) (Banks.Rows b).length) (zaC (Banks.Par b) a)
noncomputable def zkh (b:Banks):Banks:=Banks.mk ((Banks.Rows b).set (Banks.Lost b - 1).toNat (zb4 b)) (Banks.Par b) 0
noncomputable def zcL (b:Banks):Banks×Int:=if zbf b=true then (if Banks.Lost b=0 then (b,8) else (zkh b,0)) else (b,1)
theorem zo2 {rows:List (List Int)}{r:List Int}{i:Nat}(h:i<rows.length):rowAt (rows++[r]) i=rowAt rows i:=by
 unfold rowAt
 rw [List.getElem?_append_left h]
theorem zuK {rows:List (List Int)}{r:List Int}:rowAt (rows++[r]) rows.length=r:=by
 unfold rowAt
 simp
theorem zwA {b:Banks}(hb:BOk b) (hr:zbf b=true) (hl:¬ Banks.Lost b=0):tog (Banks.Rows b++[Banks.Par b]) (Banks.Par b).length=zb4 b:=by
 obtain ⟨⟨_,_,_,_,h5,h6⟩,_⟩:=zas hr
 have hk:(Banks.Lost b - 1).toNat<(Banks.Rows b).length:=by omega
 unfold tog zb4
 apply List.map_congr_left
 intro a ha
 have hlen:(Banks.Rows b++[Banks.Par b]).length=(Banks.Rows b).length + 1:=by simp
 have c1:¬ (((Banks.Rows b).length:Int)=-1):=by omega
 rw [hlen,zaO,if_neg c1]
 have e1:cell (Banks.Rows b++[Banks.Par b]) (Banks.Rows b).length a=zaC (Banks.Par b) a:=by unfold cell;rw [zuK]
 have e2:zaO (Banks.Rows b++[Banks.Par b]) a (-1) (Banks.Rows b).length=zaO (Banks.Rows b) a (-1) (Banks.Rows b).length:=zeF _ fun i hi _=>by unfold cell;rw [zo2 hi]
 rw [e1,e2,zhg hb.rw hk]
 have e3:cell (Banks.Rows b) (Banks.Lost b - 1).toNat a=0:=ztd hr hl a
 rw [e3,zuV (zfj hb.rw _ _ _)]
theorem ziK {b:Banks}(hb:BOk b):zcF b=some (zcL b):=by
 unfold zcF zcL
 have hc:=zrJ hb
 rw [show zbH=zae from rfl,show zel=zbg from rfl,hc,zdJ hb]
 cases hr:zbf b
 ·rfl
 ·obtain ⟨⟨h1,h2,h3,h4,h5,h6⟩,hf⟩:=zas hr
  by_cases hl:Banks.Lost b=0
  ·simp only [wC0,wH0,wA0,if_false,if_true,hl,decide_true]
   rw [← hl]
   rfl
  ·obtain ⟨k,hk⟩:∃ k:Nat,Banks.Lost b - 1=(k:Int):=⟨(Banks.Lost b - 1).toNat,by omega⟩
   have hkn:k<(Banks.Rows b).length:=by omega
   have h0:0<(Banks.Rows b).length:=by omega
   have g0:=zab h0
   rw [show (((0:Nat):Int))=0 from rfl] at g0
   have a1:appO 24 (Banks.Rows b) [Banks.Par b]=some (Banks.Rows b++[Banks.Par b]):=zaH (by simp;omega) (by omega)
   have r1:=zb9 (z:=(0:Int)) (b:=4) (n:=(Banks.Par b).length) (by omega) (by omega)
   have tl:=zsL (rows:=Banks.Rows b++[Banks.Par b]) (words:=(Banks.Par b).length) (by simp;omega) (by omega) (fun r hr'=>by
    rcases List.mem_append.1 hr' with q|q
    ·exact hf r q
    ·rw [List.mem_singleton.1 q])
   rw [zwA hb hr hl] at tl
   simp only [wC0,wH0,wA0,if_false,if_true,hl,decide_false,g0,a1,r1,tl,(show w64 (Banks.Lost b - 1)=(k:Int) from (zh7 h5 (show Banks.Lost b≤1000 by omega)).trans hk),zcm hkn,zcZ hkn]
   unfold zkh
   rw [hk,Int.toNat_natCast]
theorem zl5 {b:Banks}(hb:BOk b):zfe b=some (zcL b):=by
 unfold zfe zcL
 rw [zf7 hb]
 cases hr:zbf b
 ·rfl
 ·obtain ⟨⟨h1,h2,h3,h4,h5,h6⟩,hf⟩:=zas hr
  by_cases hl:Banks.Lost b=0
  ·simp only [wC0,wH0,wA0,if_false,if_true,hl,decide_true]
  ·obtain ⟨k,hk⟩:∃ k:Nat,Banks.Lost b - 1=(k:Int):=⟨(Banks.Lost b - 1).toNat,by omega⟩
   have hkn:k<(Banks.Rows b).length:=by omega
   have lp:=zav (f:=zcC b) (n:=(Banks.Par b).length) (e:=zb4 b) (fun i=>((i:Int),(zb4 b).take i)) (fun i hi=>by
    have hlt:(i:Int)<(List.length (Banks.Par b):Int):=by omega
    have hbl:(zb4 b).length=(Banks.Par b).length:=by simp [zb4]
    have hib:i<(zb4 b).length:=by omega
    have hcol:=zfg (rows:=Banks.Rows b) (a:=i) (by omega) (fun r hr'=>by rw [hf r hr'];exact hi) (k:Int)
    have hv:(zb4 b)[i]=bXor .u32 (Banks.Par b)[i] (zaO (Banks.Rows b) i (k:Int) (Banks.Rows b).length):=by
     have hpi:zaC (Banks.Par b) i=(Banks.Par b)[i]:=zaJ hi
     have hwp:wd (Banks.Par b)[i]:=hb.pw _ (List.getElem_mem hi)
     simp only [zb4,List.getElem_map,List.getElem_range,hk,Int.toNat_natCast]
     rw [hpi,zqV (zfj hb.rw _ _ _) hwp]
     rfl
    have ha:appO 4 ((zb4 b).take i) [bXor .u32 (Banks.Par b)[i] (zaO (Banks.Rows b) i (k:Int) (Banks.Rows b).length)]=some ((zb4 b).take (i + 1)):=by
     rw [zaH (by simp;omega) (by omega),zaF hib,hv]
    unfold zcC
    simp only [hlt,decide_true,if_true,zab hi,wC0,(show w64 (Banks.Lost b - 1)=(k:Int) from (zh7 h5 (show Banks.Lost b≤1000 by omega)).trans hk),hcol,ha,zah (show i<4611686018427387904 by omega)]) (by
    have hbl:(zb4 b).length=(Banks.Par b).length:=by simp [zb4]
    unfold zcC
    simp only [show ¬ (List.length (Banks.Par b):Int)<(List.length (Banks.Par b):Int) by omega,decide_false,wA0,if_false]
    rw [← hbl,List.take_length])
   rw [show (((0:Nat):Int))=0 from rfl,List.take_zero] at lp
   simp only [wC0,wH0,wA0,if_false,if_true,hl,decide_false,lp,(show w64 (Banks.Lost b - 1)=(k:Int) from (zh7 h5 (show Banks.Lost b≤1000 by omega)).trans hk),zhs hb hkn,Banks.setLost_eq,Banks.Rows_mk,Banks.Par_mk]
   unfold zkh
   rw [hk,Int.toNat_natCast]
theorem zn9 {b:Banks}(h1:(Banks.Rows b).length≤1000) (h2:(Banks.Par b).length≤1000) (h3:∀ r∈Banks.Rows b,r.length≤1000):zfl b b=some true:=by
 unfold zfl
 have l3:=zav (f:=zfi b b) (n:=(Banks.Par b).length) (e:=(Sum.inl ():Unit⊕Bool)) (fun i=>(i:Int)) (fun i hi=>by
  have hlt:(i:Int)<(List.length (Banks.Par b):Int):=by omega
  unfold zfi
  simp only [hlt,decide_true,if_true,zab hi,wC0,wH0,wA0,if_false,zah (show i<4611686018427387904 by omega)]) (by
  unfold zfi
  simp only [show ¬ (List.length (Banks.Par b):Int)<(List.length (Banks.Par b):Int) by omega,decide_false,wA0,if_false])
 have l2:=zav (f:=zeV b b) (n:=(Banks.Rows b).length) (e:=(Sum.inl ():Unit⊕Bool)) (fun i=>(i:Int)) (fun i hi=>by
  have hlt:(i:Int)<(List.length (Banks.Rows b):Int):=by omega
  have hrl:=h3 _ (List.getElem_mem hi)
  have l1:=zav (f:=zeU b b (i:Int)) (n:=(Banks.Rows b)[i].length) (e:=(Sum.inl ():Unit⊕Int⊕Unit⊕Bool)) (fun j=>(j:Int)) (fun j hj=>by
   have hlt:(j:Int)<(List.length (Banks.Rows b)[i]:Int):=by omega
   unfold zeU
   simp only [zab hi,hlt,decide_true,if_true,zab hj,wC0,wH0,wA0,if_false,zah (show j<4611686018427387904 by omega)]) (by
   unfold zeU
   simp only [zab hi,wC0,show ¬ (List.length (Banks.Rows b)[i]:Int)<(List.length (Banks.Rows b)[i]:Int) by omega,decide_false,wA0,if_false])
  rw [show (((0:Nat):Int))=0 from rfl] at l1
  unfold zeV
  simp only [hlt,decide_true,if_true,zab hi,wC0,wH0,wA0,if_false,l1,zeA,zah (show i<4611686018427387904 by omega)]) (by
  unfold zeV
  simp only [show ¬ (List.length (Banks.Rows b):Int)<(List.length (Banks.Rows b):Int) by omega,decide_false,wA0,if_false])
 rw [show (((0:Nat):Int))=0 from rfl] at l2 l3
 simp only [decide_true,wH0,Bool.or_self,wA0,if_false,l3,l2,zeA]
theorem zqL {b:Banks}(h:BOk b):zfl b b=some true:=zn9 (by have:=h.rl;omega) (by have:=h.pl;omega) (fun r hr=>by have:=h.el r hr;omega)
noncomputable def newB (n m:Nat):Banks:=Banks.mk (List.replicate n (List.replicate m 0)) (List.replicate m 0) 0
theorem zsF {n m:Nat}(hn:n≤1000) (hm:m≤1000):zar (zdk (n:Int) (m:Int)) ((0:Int),([]:List (List Int)))=some (List.replicate n (List.replicate m 0)):=by
 have lp:=zav (f:=zdk (n:Int) (m:Int)) (n:=n) (e:=List.replicate n (List.replicate m (0:Int))) (fun i=>((i:Int),List.replicate i (List.replicate m (0:Int)))) (fun i hi=>by
  have hlt:(i:Int)<(n:Int):=by omega
  have r1:=zb9 (z:=(0:Int)) (b:=4) (n:=m) (by omega) (by omega)
  have a1:appO 24 (List.replicate i (List.replicate m (0:Int))) [List.replicate m (0:Int)]=some (List.replicate (i + 1) (List.replicate m (0:Int))):=by
   rw [zaH (by simp;omega) (by omega),← List.replicate_succ']
  unfold zdk
  simp only [hlt,decide_true,if_true,r1,a1,wC0,zah (show i<4611686018427387904 by omega)]) (by
  unfold zdk
  simp only [show ¬ (n:Int)<(n:Int) by omega,decide_false,wA0,if_false])
 simpa using lp
def newP (n m:Int):Bool:=decide (1≤n∧n≤8∧1≤m∧m≤64)
theorem zwr (n m:Int):((decide (n<(1:Int)))||((decide ((8:Int)<n))||((decide (m<(1:Int)))||(decide ((64:Int)<m)))))=!newP n m:=by
 unfold newP
 by_cases h:1≤n∧n≤8∧1≤m∧m≤64
 ·rw [decide_eq_true h]
  simp only [wH0,Bool.or_eq_false_iff,decide_eq_false_iff_not]
  omega
 ·rw [decide_eq_false h]
  simp only [Bool.not_false,Bool.or_eq_true,decide_eq_true_eq]
  omega
theorem ztO (n m:Int):zod n m=some (if newP n m=true then (newB n.toNat m.toNat,0) else (Banks.mk [] [] 0,1)):=by
 unfold zod
 rw [zwr]
 cases h:newP n m
 ·rfl
 ·unfold newP at h
  rw [decide_eq_true_eq] at h
  obtain ⟨i,rfl⟩:∃ i:Nat,n=(i:Int):=⟨n.toNat,by omega⟩
  obtain ⟨j,rfl⟩:∃ j:Nat,m=(j:Int):=⟨m.toNat,by omega⟩
  have r1:=zb9 (z:=(0:Int)) (b:=4) (n:=j) (by omega) (by omega)
  simp only [wH0,wA0,if_false,if_true,r1,wC0,zsF (show i≤1000 by omega) (show j≤1000 by omega),Int.toNat_natCast]
  rfl
end Go.Proofs.Ytlgjbfdojbmmgaa
