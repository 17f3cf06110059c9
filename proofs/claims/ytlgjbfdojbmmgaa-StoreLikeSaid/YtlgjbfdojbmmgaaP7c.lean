/- Layer 7: what is read, written, lost and rebuilt, by the program and by the reference. -/
import Derived.Test.YtlgjbfdojbmmgaaP7b
set_option linter.unusedSimpArgs false
set_option linter.unusedVariables false
namespace Go.Proofs.Ytlgjbfdojbmmgaa
open Go.SX
noncomputable def hasB (b:Banks) (k:Int):Bool:=zb9 b&&(decide (0≤k)&&decide (k<((Banks.Rows b).length:Int)))
theorem zr2 (r:Bool) (k n:Int):((
  (some r:Option Bool).bind fun v2 =>
  if v2 then
   if decide ((0:Int)≤k) then
    some ((decide (k<n)))
   else
    some (false)
  else
   some (false):Option Bool).bind fun v2 =>
 some (v2))=some (r&&(decide (0≤k)&&decide (k<n))):=by
 cases r
 ·rfl
 ·by_cases h:0≤k
  ·simp [h]
  ·simp [h]
theorem zgx {b:Banks}(hb:BOk b) (k:Int):zed b k=some (hasB b k):=by
 unfold zed hasB
 rw [zfh hb]
 exact zr2 _ _ _
noncomputable def zko (b:Banks) (k a:Int):Bool:=hasB b k&&(decide (0≤a)&&decide (a<((Banks.Par b).length:Int)))
theorem zlw (r:Bool) (a n:Int):(
  (some r:Option Bool).bind fun v3 =>
  if !v3 then
   some (true)
  else
   if decide (a<(0:Int)) then
    some (true)
   else
    some ((decide (n≤a))):Option Bool)=some (!(r&&(decide (0≤a)&&decide (a<n)))):=by
 cases r
 ·rfl
 ·by_cases h:a<0
  ·have h':¬ 0≤a:=by omega
   simp [h,h']
  ·have h':0≤a:=by omega
   by_cases h2:n≤a
   ·have h2':¬ a<n:=by omega
    simp [h,h',h2,h2']
   ·have h2':a<n:=by omega
    simp [h,h',h2,h2']
theorem zrZ {b:Banks}{k:Int}(h:hasB b k=true):zb9 b=true∧0≤k∧k<((Banks.Rows b).length:Int):=by
 unfold hasB at h
 simp only [wD0,decide_eq_true_eq] at h
 exact h
theorem zlA {b:Banks}{k a:Int}(h:zko b k a=true):zb9 b=true∧(0≤k∧k<((Banks.Rows b).length:Int))∧0≤a∧a<((Banks.Par b).length:Int):=by
 unfold zko at h
 simp only [wD0,decide_eq_true_eq] at h
 obtain ⟨h1,h2,h3⟩:=zrZ h.1
 exact ⟨h1,⟨h2,h3⟩,h.2⟩
theorem zaU {b:Banks}(h:zb9 b=true):zmY b∧∀ r∈Banks.Rows b,r.length=(Banks.Par b).length:=by
 unfold zb9 at h
 rw [wD0] at h
 exact zh9 h.1
theorem zmM {b:Banks}(h:zb9 b=true) (hl:Banks.Lost b=0) {a:Nat}(ha:a<(Banks.Par b).length):zbg (Banks.Rows b) a (-1) (Banks.Rows b).length=zaC (Banks.Par b) a:=by
 unfold zb9 at h
 rw [wD0,if_pos hl,zbi] at h
 exact of_decide_eq_true (h.2 a ha)
noncomputable def zrx (b:Banks) (k a:Int):Int×Int :=
 if zko b k a=true then (if Banks.Lost b=k + 1 then (0,8) else (cell (Banks.Rows b) k.toNat a.toNat,0)) else (0,1)
theorem zri {b:Banks}(hb:BOk b) (k a:Int):((some (!(zko b k a)):Option Bool).bind fun v3 =>
 if v3 then
  some (((0:Int),(1:Int)))
 else
  if decide ((Banks.Lost b)=(w64 (k + (1:Int)))) then
   some (((0:Int),(8:Int)))
  else
   (getO (Banks.Rows b) k).bind fun v8 =>
   (getO v8 a).bind fun v9 =>
   some ((v9,(0:Int))))=some (zrx b k a):=by
 unfold zrx
 cases hw:zko b k a
 ·rfl
 ·obtain ⟨h1,⟨h2,h3⟩,h4,h5⟩:=zlA hw
  obtain ⟨_,hr⟩:=zaU h1
  obtain ⟨i,rfl⟩:∃ i:Nat,k=(i:Int):=⟨k.toNat,by omega⟩
  obtain ⟨j,rfl⟩:∃ j:Nat,a=(j:Int):=⟨a.toNat,by omega⟩
  have hi:i<(Banks.Rows b).length:=by omega
  have hbl:=hb.rl
  have hj:j<(Banks.Rows b)[i].length:=by rw [hr _ (List.getElem_mem hi)];omega
  have hw:w64 ((i:Int) + 1)=(i:Int) + 1:=zdE (by omega) (by omega)
  have hc:cell (Banks.Rows b) i j=(Banks.Rows b)[i][j]:=by unfold cell;rw [zek hi,zcF hj]
  simp only [wH0,wC0,wA0,if_false,if_true,hw,zat hi,zat hj,Int.toNat_natCast,hc]
  by_cases hl:Banks.Lost b=(i:Int) + 1
  ·simp only [hl,decide_true,if_true]
  ·simp only [hl,decide_false,wA0,if_false]
theorem zdH {b:Banks}(hb:BOk b) (k a:Int):zdf b k a=some (zrx b k a):=by
 unfold zdf
 rw [zgx hb,zlw]
 exact zri hb k a
theorem znJ {rows:List (List Int)}(hn:rows.length≤1000) (hr:∀ r∈rows,r.length≤1000):zaA (zao rows (List.length rows:Int)) ((0:Int),([]:List (List Int)))=some rows:=by
 have lp:=za5 (f:=zao rows (List.length rows:Int)) (n:=rows.length) (e:=rows) (fun i=>((i:Int),rows.take i)) (fun i hi=>by
  have hlt:(i:Int)<(List.length rows:Int):=by omega
  have hl:=hr rows[i] (List.getElem_mem hi)
  have h1:zaD 4 rows[i]=some rows[i]:=zbT (by omega) (by omega)
  have h2:appO 24 (rows.take i) [rows[i]]=some (rows.take i++[rows[i]]):=zdR (by simp;omega) (by omega)
  unfold zao
  simp only [hlt,decide_true,if_true,zat hi,wC0,h1,h2,zb3 hi,zav (show i<4611686018427387904 by omega)]) (by
  unfold zao
  simp only [show ¬ (List.length rows:Int)<(List.length rows:Int) by omega,decide_false,wA0,if_false,List.take_length])
 simpa using lp
theorem zuz {b:Banks}(hb:BOk b):(
  (zaD 4 (Banks.Par b)).bind fun v5 =>
  let v8:Int:=(List.length (Banks.Rows b):Int)
  (
   zaA (zao (Banks.Rows b) v8) ((0:Int),([]:List (List Int))):Option (List (List Int))).bind fun v9 =>
  some ((Banks.Lost b,v9,v5)):Option (Int×(List (List Int))×(List Int)))=some (Banks.Lost b,Banks.Rows b,Banks.Par b):=by
 have h1:zaD 4 (Banks.Par b)=some (Banks.Par b):=zbT (by have:=hb.pl;omega) (by omega)
 dsimp only
 rw [h1,wC0,znJ (by have:=hb.rl;omega) (fun r hr=>by have:=hb.el r hr;omega)]
 rfl
noncomputable def zbz (b:Banks) (k a:Nat) (w:Int):Banks :=
 Banks.mk ((Banks.Rows b).set k ((rowAt (Banks.Rows b) k).set a w)) ((Banks.Par b).set a (xo (zaC (Banks.Par b) a) (xo (cell (Banks.Rows b) k a) w))) (Banks.Lost b)
noncomputable def zsM (b:Banks) (k a w:Int):Banks×Int :=
 if zko b k a=true then (if 0<Banks.Lost b then (b,8) else (zbz b k.toNat a.toNat w,0)) else (b,1)
theorem zjZ {b:Banks}(hb:BOk b) (k a w:Int):zbo b k a w=some (zsM b k a w):=by
 unfold zbo zsM
 rw [zuz hb,zgx hb,zlw,show (hasB b k&&(decide (0≤a)&&decide (a<((Banks.Par b).length:Int))))=zko b k a from rfl]
 cases hw:zko b k a
 ·rfl
 ·obtain ⟨h1,⟨h2,h3⟩,h4,h5⟩:=zlA hw
  obtain ⟨_,hr⟩:=zaU h1
  obtain ⟨i,rfl⟩:∃ i:Nat,k=(i:Int):=⟨k.toNat,by omega⟩
  obtain ⟨j,rfl⟩:∃ j:Nat,a=(j:Int):=⟨a.toNat,by omega⟩
  have hi:i<(Banks.Rows b).length:=by omega
  have hjp:j<(Banks.Par b).length:=by omega
  have hj:j<(Banks.Rows b)[i].length:=by rw [hr _ (List.getElem_mem hi)];omega
  have hc:cell (Banks.Rows b) i j=(Banks.Rows b)[i][j]:=by unfold cell;rw [zek hi,zcF hj]
  by_cases hl:0<Banks.Lost b
  ·simp only [wC0,wH0,wA0,if_false,if_true,hl,decide_true]
   rfl
  ·simp only [wC0,wH0,wA0,if_false,if_true,hl,decide_false,zci hi,zci hjp,zat hi,zat hjp,zci hj,zat hj,zeL hj,zeL hi,zeL hjp,Int.toNat_natCast]
   unfold zbz
   rw [hc,zek hi,zcF hjp]
   rfl
theorem zrL {b:Banks}(hb:BOk b) (hr:zb9 b=true) (hl:Banks.Lost b=0) {i j:Nat}(hi:i<(Banks.Rows b).length) (hj:j<(Banks.Par b).length) {w:Int}(hw:wd w) :
  zbg ((Banks.Rows b).set i ((rowAt (Banks.Rows b) i).set j w)) j (-1) (Banks.Rows b).length=xo (zaC (Banks.Par b) j) (xo (cell (Banks.Rows b) i j) w):=by
 obtain ⟨_,hf⟩:=zaU hr
 have hrow:j<(rowAt (Banks.Rows b) i).length:=by rw [hf _ (zdh hi)];exact hj
 have hrw:∀ x∈rowAt (Banks.Rows b) i,wd x:=hb.rw _ (zdh hi)
 have w1:=ziE hb.rw j (i:Int) (Banks.Rows b).length
 have w2:=zhw hb.rw i j
 rw [zsA hb.rw (zpB hrw hw) hi hi,zhx hrow,← zmM hr hl hj,zjh hb.rw hi,ziC w1 w2 (ztu w2 hw),← ziC w2 w2 hw,zuY w2,zuQ hw]
noncomputable def newB (n m:Nat):Banks:=Banks.mk (List.replicate n (List.replicate m 0)) (List.replicate m 0) 0
theorem ztI {n m:Nat}(hn:n≤1000) (hm:m≤1000):zaA (zdQ (n:Int) (m:Int)) ((0:Int),([]:List (List Int)))=some (List.replicate n (List.replicate m 0)):=by
 have lp:=za5 (f:=zdQ (n:Int) (m:Int)) (n:=n) (e:=List.replicate n (List.replicate m (0:Int))) (fun i=>((i:Int),List.replicate i (List.replicate m (0:Int)))) (fun i hi=>by
  have hlt:(i:Int)<(n:Int):=by omega
  have r1:=zfl (z:=(0:Int)) (b:=4) (n:=m) (by omega) (by omega)
  have a1:appO 24 (List.replicate i (List.replicate m (0:Int))) [List.replicate m (0:Int)]=some (List.replicate (i + 1) (List.replicate m (0:Int))):=by
   rw [zdR (by simp;omega) (by omega),← List.replicate_succ']
  unfold zdQ
  simp only [hlt,decide_true,if_true,r1,a1,wC0,zav (show i<4611686018427387904 by omega)]) (by
  unfold zdQ
  simp only [show ¬ (n:Int)<(n:Int) by omega,decide_false,wA0,if_false])
 simpa using lp
end Go.Proofs.Ytlgjbfdojbmmgaa
