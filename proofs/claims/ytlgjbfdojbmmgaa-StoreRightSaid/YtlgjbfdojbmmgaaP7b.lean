/- Layer 7: which banks are right, by the program and by the reference. -/
import Derived.Test.YtlgjbfdojbmmgaaP7a
import Derived.Test.YtlgjbfdojbmmgaaD423
set_option linter.unusedSimpArgs false
set_option linter.unusedVariables false
namespace Go.Proofs.Ytlgjbfdojbmmgaa
open Go.SX
structure BOk (b:Banks):Prop where
 rl:(Banks.Rows b).length≤10
 pl:(Banks.Par b).length≤80
 el:∀ r∈Banks.Rows b,r.length≤80
 rw:zhW (Banks.Rows b)
 pw:∀ x∈Banks.Par b,wd x
def zmS (b:Banks):Bool:=decide ((Banks.Rows b).length≤10∧(Banks.Par b).length≤80)&&(Banks.Rows b).all fun r=>decide (r.length≤80)
theorem zqH (b:Banks):zhP b=some (zmS b):=by
 unfold zhP zmS
 by_cases h:(Banks.Rows b).length≤10∧(Banks.Par b).length≤80
 ·have h':((decide ((10:Int)<(List.length (Banks.Rows b):Int)))||(decide ((80:Int)<(List.length (Banks.Par b):Int))))=false:=by
   rw [Bool.or_eq_false_iff]
   exact ⟨decide_eq_false (by omega),decide_eq_false (by omega)⟩
  have lp:=zdz (f:=zd3 b) (n:=(Banks.Rows b).length) (g:=fun _=>some true) (fun i=>(i:Int)) (fun i=>optT (fun r=>decide (r.length≤80)) (Banks.Rows b)[i]?) (fun i hi _=>by
   have hlt:(i:Int)<(List.length (Banks.Rows b):Int):=by omega
   rw [zce hi]
   unfold zd3
   simp only [hlt,decide_true,if_true,zab hi,wC0,zah (show i<4611686018427387904 by omega)]
   by_cases h:(Banks.Rows b)[i].length≤80
   ·have h':¬ (80:Int)<((Banks.Rows b)[i].length:Int):=by omega
    simp only [h,h',decide_true,decide_false,wA0,if_false,if_true]
   ·have h':(80:Int)<((Banks.Rows b)[i].length:Int):=by omega
    simp only [h,h',decide_true,decide_false,wA0,if_false,if_true]) (fun _=>by
   unfold zd3
   simp only [show ¬ (List.length (Banks.Rows b):Int)<(List.length (Banks.Rows b):Int) by omega,decide_false,wA0,if_false])
  rw [show (((0:Nat):Int))=0 from rfl] at lp
  rw [h',if_neg (by simp),lp,decide_eq_true h,← zfs,Bool.true_and]
  cases (Banks.Rows b).all fun r=>decide (r.length≤80)<;>rfl
 ·have h':((decide ((10:Int)<(List.length (Banks.Rows b):Int)))||(decide ((80:Int)<(List.length (Banks.Par b):Int))))=true:=by
   rw [Bool.or_eq_true,decide_eq_true_eq,decide_eq_true_eq]
   omega
  rw [h',if_pos rfl,decide_eq_false h]
  rfl
theorem zvZ {b:Banks}(h:zmS b=true) (h1:zhW (Banks.Rows b)) (h2:∀ x∈Banks.Par b,wd x):BOk b:=by
 unfold zmS at h
 rw [wD0,decide_eq_true_eq,List.all_eq_true] at h
 exact ⟨h.1.1,h.1.2,fun r hr=>of_decide_eq_true (h.2 r hr),h1,h2⟩
def zmn (b:Banks):Prop:=1≤(Banks.Rows b).length∧(Banks.Rows b).length≤8∧1≤(Banks.Par b).length∧(Banks.Par b).length≤64∧0≤Banks.Lost b∧Banks.Lost b≤((Banks.Rows b).length:Int)
instance (b:Banks):Decidable (zmn b):=by unfold zmn;exact inferInstance
def zf0 (b:Banks):Bool:=decide (zmn b)&&(Banks.Rows b).all fun r=>decide (r.length=(Banks.Par b).length)
noncomputable def zbf (b:Banks):Bool :=
 zf0 b&&(if Banks.Lost b=0 then (List.range (Banks.Par b).length).all fun a=>decide (zaO (Banks.Rows b) a (-1) (Banks.Rows b).length=zaC (Banks.Par b) a) else (rowAt (Banks.Rows b) (Banks.Lost b - 1).toNat).all fun x=>decide (x=0))
theorem zjR {b:Banks}(h:zf0 b=true):zmn b∧∀ r∈Banks.Rows b,r.length=(Banks.Par b).length:=by
 unfold zf0 at h
 rw [wD0,decide_eq_true_eq,List.all_eq_true] at h
 exact ⟨h.1,fun r hr=>of_decide_eq_true (h.2 r hr)⟩
theorem zj0 (b:Banks):zde b=some (zf0 b):=by
 unfold zde zf0
 dsimp only
 by_cases h:zmn b
 ·obtain ⟨h1,h2,h3,h4,h5,h6⟩:=id h
  have hc:((decide ((List.length (Banks.Rows b):Int)<(1:Int)))||((decide ((8:Int)<(List.length (Banks.Rows b):Int)))||((decide ((List.length (Banks.Par b):Int)<(1:Int)))||((decide ((64:Int)<(List.length (Banks.Par b):Int)))||((decide ((Banks.Lost b)<(0:Int)))||(decide ((List.length (Banks.Rows b):Int)<(Banks.Lost b))))))))=false:=by
   simp only [Bool.or_eq_false_iff,decide_eq_false_iff_not]
   omega
  have lp:=zmE (f:=zbZ (List.length (Banks.Par b):Int) (Banks.Rows b) (List.length (Banks.Rows b):Int)) (n:=(Banks.Rows b).length) (fun i=>(i:Int)) (fun i=>optT (fun r=>decide (r.length=(Banks.Par b).length)) (Banks.Rows b)[i]?) (e:=(Sum.inl ():Unit⊕Int)) (r:=fun i=>.inr (i:Int)) (fun i hi _=>by
   have hlt:(i:Int)<(List.length (Banks.Rows b):Int):=by omega
   rw [zce hi]
   unfold zbZ
   simp only [hlt,decide_true,if_true,zab hi,wC0,zah (show i<4611686018427387904 by omega)]
   by_cases hq:(Banks.Rows b)[i].length=(Banks.Par b).length
   ·have hq':((Banks.Rows b)[i].length:Int)=((Banks.Par b).length:Int):=by omega
    simp only [hq,decide_true,wH0,wA0,if_false,if_true]
   ·have hq':¬ ((Banks.Rows b)[i].length:Int)=((Banks.Par b).length:Int):=by omega
    simp only [hq,hq',decide_false,Bool.not_false,if_true,wA0,if_false]) (fun _=>by
   unfold zbZ
   simp only [show ¬ (List.length (Banks.Rows b):Int)<(List.length (Banks.Rows b):Int) by omega,decide_false,wA0,if_false])
  rw [show (((0:Nat):Int))=0 from rfl] at lp
  have f2:=zi9 (ok:=fun i=>optT (fun r=>decide (r.length=(Banks.Par b).length)) (Banks.Rows b)[i]?) (n:=(Banks.Rows b).length)
  rw [← zca,← zfs] at f2
  have f1:=(zcU (fun i=>optT (fun r=>decide (r.length=(Banks.Par b).length)) (Banks.Rows b)[i]?) (Banks.Rows b).length).1
  rw [hc,if_neg (by simp)]
  simp only [lp]
  rw [decide_eq_true h,Bool.true_and]
  by_cases ha:(Banks.Rows b).all (fun r=>decide (r.length=(Banks.Par b).length))=true
  ·have:=f2.2 ha
   rw [if_neg (by omega),ha]
   rfl
  ·have:zbO (fun i=>optT (fun r=>decide (r.length=(Banks.Par b).length)) (Banks.Rows b)[i]?) (Banks.Rows b).length<(Banks.Rows b).length:=by
    rcases Nat.lt_or_ge (zbO (fun i=>optT (fun r=>decide (r.length=(Banks.Par b).length)) (Banks.Rows b)[i]?) (Banks.Rows b).length) (Banks.Rows b).length with q|q
    ·exact q
    ·exact absurd (f2.1 (by omega)) ha
   rw [if_pos this,Bool.eq_false_iff.2 ha]
   have h0:(0:Int)≤((zbO (fun i=>optT (fun r=>decide (r.length=(Banks.Par b).length)) (Banks.Rows b)[i]?) (Banks.Rows b).length:Nat):Int):=by omega
   simp only [zgu,wC0,h0,decide_true,wH0]
 ·have hc:((decide ((List.length (Banks.Rows b):Int)<(1:Int)))||((decide ((8:Int)<(List.length (Banks.Rows b):Int)))||((decide ((List.length (Banks.Par b):Int)<(1:Int)))||((decide ((64:Int)<(List.length (Banks.Par b):Int)))||((decide ((Banks.Lost b)<(0:Int)))||(decide ((List.length (Banks.Rows b):Int)<(Banks.Lost b))))))))=true:=by
   unfold zmn at h
   simp only [Bool.or_eq_true,decide_eq_true_eq]
   omega
  rw [hc,if_pos rfl,decide_eq_false h]
  rfl
theorem map_set {n i:Nat}(hi:i<n) (G:Nat→Int) (v:Int):((List.range n).map G).set i v=(List.range n).map fun a=>if a=i then v else G a:=by
 apply List.ext_getElem?
 intro j
 rw [List.getElem?_set]
 simp only [List.length_map,List.length_range]
 by_cases hj:i=j
 ·subst hj
  rw [if_pos rfl,if_pos hi,List.getElem?_map,List.getElem?_range hi]
  simp
 ·rw [if_neg hj,List.getElem?_map,List.getElem?_map]
  by_cases hjn:j<n
  ·rw [List.getElem?_range hjn]
   simp [Ne.symm hj]
  ·rw [List.getElem?_eq_none (by simpa using hjn)]
   rfl
theorem zvR {words:Nat}(hw:words≤1000) (row:List Int) (hr:row.length=words) (F:Nat→Int) :
  zar (zbz row (List.length row:Int)) ((0:Int),(List.range words).map F)=some ((List.range words).map fun a=>xo (F a) (zaC row a)):=by
 have lp:=zav (f:=zbz row (List.length row:Int)) (n:=words) (e:=((List.range words).map fun a=>xo (F a) (zaC row a))) (fun i=>((i:Int),(List.range words).map fun a=>if a<i then xo (F a) (zaC row a) else F a)) (fun i hi=>by
  have hlt:(i:Int)<(List.length row:Int):=by omega
  have hl:((List.range words).map fun a=>if a<i then xo (F a) (zaC row a) else F a).length=words:=by simp
  have hi':i<row.length:=by omega
  have hg:getO ((List.range words).map fun a=>if a<i then xo (F a) (zaC row a) else F a) (i:Int)=some (F i):=by
   rw [zab (by rw [hl];exact hi)]
   simp
  have hs:setO ((List.range words).map fun a=>if a<i then xo (F a) (zaC row a) else F a) (i:Int) (bXor .u32 (F i) row[i])=some ((List.range words).map fun a=>if a<i + 1 then xo (F a) (zaC row a) else F a):=by
   rw [zcZ (by rw [hl];exact hi),map_set hi]
   congr 1
   apply List.map_congr_left
   intro a _
   by_cases ha:a=i
   ·subst ha
    rw [if_pos rfl,if_pos (by omega),zaJ hi']
    rfl
   ·by_cases hb:a<i
    ·rw [if_neg ha,if_pos hb,if_pos (by omega)]
    ·rw [if_neg ha,if_neg hb,if_neg (by omega)]
  unfold zbz
  simp only [hlt,decide_true,if_true,zab hi',wC0,hl,zcm hi,hg,hs,zah (show i<4611686018427387904 by omega)]) (by
  unfold zbz
  have:¬ (words:Int)<(List.length row:Int):=by omega
  simp only [this,decide_false,wA0,if_false]
  congr 2
  apply List.map_congr_left
  intro a ha
  rw [if_pos (List.mem_range.1 ha)])
 simpa using lp
theorem zsL {rows:List (List Int)}{words:Nat}(hn:rows.length≤1000) (hw:words≤1000) (hr:∀ r∈rows,r.length=words) :
  zar (zbg rows (List.length rows:Int)) ((0:Int),List.replicate words (0:Int))=some (tog rows words):=by
 have e0:List.replicate words (0:Int)=(List.range words).map fun a=>zaO rows a (-1) 0:=by
  apply List.ext_getElem?
  intro j
  rw [List.getElem?_replicate,List.getElem?_map]
  by_cases hj:j<words
  ·rw [if_pos hj,List.getElem?_range hj];rfl
  ·rw [if_neg hj,List.getElem?_eq_none (by simpa using hj)];rfl
 rw [e0]
 exact zav (f:=zbg rows (List.length rows:Int)) (n:=rows.length) (e:=tog rows words) (fun i=>((i:Int),(List.range words).map fun a=>zaO rows a (-1) i)) (fun i hi=>by
  have hlt:(i:Int)<(List.length rows:Int):=by omega
  have hl:=hr rows[i] (List.getElem_mem hi)
  unfold zbg
  simp only [hlt,decide_true,if_true,zab hi,wC0,zvR hw rows[i] hl,zah (show i<4611686018427387904 by omega)]
  congr 3
  apply List.map_congr_left
  intro a _
  have c1:¬ ((i:Int)=-1):=by omega
  rw [zaO,if_neg c1]
  unfold cell
  rw [zbo hi]) (by
  unfold zbg
  simp only [show ¬ (List.length rows:Int)<(List.length rows:Int) by omega,decide_false,wA0,if_false]
  rfl)
theorem zgr (rows:List (List Int)) (words:Nat):(tog rows words).length=words:=by simp [tog]
theorem zlz {x y:List Int}(hl:x.length=y.length) (hx:x.length≤1000):zaI x y=some ((List.range x.length).all fun i=>decide (zaC x i=zaC y i)):=by
 unfold zaI
 have hl':(List.length x:Int)=(List.length y:Int):=by omega
 have lp:=zdz (f:=zaA x y (List.length x:Int)) (n:=x.length) (g:=fun _=>some true) (fun i=>(i:Int)) (fun i=>decide (zaC x i=zaC y i)) (fun i hi _=>by
  have hlt:(i:Int)<(List.length x:Int):=by omega
  have hy:i<y.length:=by omega
  unfold zaA
  simp only [hlt,decide_true,if_true,zab hi,zab hy,wC0,zaJ hi,zaJ hy,zah (show i<4611686018427387904 by omega)]
  cases decide (x[i]=y[i])<;>rfl) (fun _=>by
  unfold zaA
  simp only [show ¬ (List.length x:Int)<(List.length x:Int) by omega,decide_false,wA0,if_false])
 rw [show (((0:Nat):Int))=0 from rfl] at lp
 simp only [hl',decide_true,wH0,wA0,if_false]
 rw [← hl',lp]
 cases (List.range x.length).all fun i=>decide (zaC x i=zaC y i)<;>rfl
theorem zmU {rows:List (List Int)}{words a:Nat}(h:a<words):zaC (tog rows words) a=zaO rows a (-1) rows.length:=by
 rw [zaJ (by rw [zgr];exact h)]
 simp [tog]
theorem zh7 {x:Int}(h0:0≤x) (h1:x≤1000):w64 (x - 1)=x - 1:=zdO (by omega) (by omega)
theorem zdJ {b:Banks}(hb:BOk b):zb8 b=some (zbf b):=by
 unfold zb8 zbf
 rw [zj0]
 cases hf:zf0 b
 ·rfl
 obtain ⟨⟨h1,h2,h3,h4,h5,h6⟩,h7⟩:=zjR hf
 simp only [wC0,wH0,wA0,if_false,Bool.true_and]
 by_cases hl:(0:Int)<Banks.Lost b
 ·have hl':¬ Banks.Lost b=0:=by omega
  obtain ⟨k,hk⟩:∃ k:Nat,Banks.Lost b - 1=(k:Int):=⟨(Banks.Lost b - 1).toNat,by omega⟩
  have hkn:k<(Banks.Rows b).length:=by omega
  have hrow:(Banks.Rows b)[k].length≤80:=hb.el _ (List.getElem_mem hkn)
  rw [decide_eq_true hl,if_pos rfl,if_neg hl',zh7 h5 (by omega),hk,Int.toNat_natCast,zbo hkn]
  simp only [zab hkn,wC0]
  have lp:=zmE (f:=zck (Banks.Rows b)[k] (List.length (Banks.Rows b)[k]:Int)) (n:=(Banks.Rows b)[k].length) (fun i=>(i:Int)) (fun i=>optT (fun x=>decide (x=0)) (Banks.Rows b)[k][i]?) (e:=(Sum.inl ():Unit⊕Int)) (r:=fun i=>.inr (i:Int)) (fun i hi _=>by
   have hlt:(i:Int)<(List.length (Banks.Rows b)[k]:Int):=by omega
   rw [zce hi]
   unfold zck zeg
   simp only [hlt,decide_true,if_true,zab hi,wC0,zah (show i<4611686018427387904 by omega)]
   cases decide ((Banks.Rows b)[k][i]=0)<;>rfl) (fun _=>by
   unfold zck
   simp only [show ¬ (List.length (Banks.Rows b)[k]:Int)<(List.length (Banks.Rows b)[k]:Int) by omega,decide_false,wA0,if_false])
  rw [show (((0:Nat):Int))=0 from rfl] at lp
  have f2:=zi9 (ok:=fun i=>optT (fun x=>decide (x=0)) (Banks.Rows b)[k][i]?) (n:=(Banks.Rows b)[k].length)
  rw [← zca,← zfs] at f2
  have f1:=(zcU (fun i=>optT (fun x=>decide (x=0)) (Banks.Rows b)[k][i]?) (Banks.Rows b)[k].length).1
  simp only [lp]
  by_cases ha:(Banks.Rows b)[k].all (fun x=>decide (x=0))=true
  ·have:=f2.2 ha
   rw [if_neg (by omega),ha]
   rfl
  ·have:zbO (fun i=>optT (fun x=>decide (x=0)) (Banks.Rows b)[k][i]?) (Banks.Rows b)[k].length<(Banks.Rows b)[k].length:=by
    rcases Nat.lt_or_ge (zbO (fun i=>optT (fun x=>decide (x=0)) (Banks.Rows b)[k][i]?) (Banks.Rows b)[k].length) (Banks.Rows b)[k].length with q|q
    ·exact q
    ·exact absurd (f2.1 (by omega)) ha
   rw [if_pos this,Bool.eq_false_iff.2 ha]
   have h0:(0:Int)≤((zbO (fun i=>optT (fun x=>decide (x=0)) (Banks.Rows b)[k][i]?) (Banks.Rows b)[k].length:Nat):Int):=by omega
   simp only [zgu,wC0,h0,decide_true,wH0]
 ·have hl':Banks.Lost b=0:=by omega
  have r1:=zb9 (z:=(0:Int)) (b:=4) (n:=(Banks.Par b).length) (by omega) (by omega)
  rw [decide_eq_false hl,if_neg (by simp),if_pos hl']
  simp only [r1,wC0,zsL (rows:=Banks.Rows b) (words:=(Banks.Par b).length) (by omega) (by omega) h7]
  rw [zlz (zgr _ _) (by rw [zgr];omega),zgr]
  simp only [wC0]
  congr 1
  rw [Bool.eq_iff_iff,zca,zca]
  constructor
  ·intro h a ha
   have:=h a ha
   rwa [zmU ha] at this
  ·intro h a ha
   have:=h a ha
   rwa [zmU ha]
theorem zfg {rows:List (List Int)}{a:Nat}(hn:rows.length≤1000) (ha:∀ r∈rows,a<r.length) (but:Int):zdo rows (a:Int) but=some (zaO rows a but rows.length):=by
 unfold zdo
 have lp:=zav (f:=zdb rows (a:Int) but) (n:=rows.length) (e:=zaO rows a but rows.length) (fun i=>(zaO rows a but i,(i:Int))) (fun i hi=>by
  have hlt:(i:Int)<(List.length rows:Int):=by omega
  have hl:=ha rows[i] (List.getElem_mem hi)
  unfold zdb
  simp only [hlt,decide_true,if_true]
  by_cases hb:(i:Int)=but
  ·have e:zaO rows a but (i + 1)=zaO rows a but i:=by rw [zaO,if_pos hb]
   simp only [hb,decide_true,wH0,wA0,if_false,wC0,e]
   rw [← hb,zah (show i<4611686018427387904 by omega)]
  ·have e:zaO rows a but (i + 1)=xo (zaO rows a but i) (cell rows i a):=by rw [zaO,if_neg hb]
   have hc:cell rows i a=rows[i][a]:=by unfold cell;rw [zbo hi,zaJ hl]
   simp only [hb,decide_false,Bool.not_false,if_true,zab hi,zab hl,wC0,e,hc,zah (show i<4611686018427387904 by omega)]
   rfl) (by
  unfold zdb
  simp only [show ¬ (List.length rows:Int)<(List.length rows:Int) by omega,decide_false,wA0,if_false])
 have e0:zaO rows a but 0=0:=rfl
 rw [e0,show (((0:Nat):Int))=0 from rfl] at lp
 rw [lp]
 rfl
theorem zf7 {b:Banks}(hb:BOk b):zey b=some (zbf b):=by
 unfold zey zbf zf0
 by_cases h:zmn b
 ·obtain ⟨h1,h2,h3,h4,h5,h6⟩:=id h
  have hc:((decide ((List.length (Banks.Rows b):Int)=(0:Int)))||((decide ((8:Int)<(List.length (Banks.Rows b):Int)))||((decide ((List.length (Banks.Par b):Int)=(0:Int)))||((decide ((64:Int)<(List.length (Banks.Par b):Int)))||((decide ((Banks.Lost b)<(0:Int)))||(decide ((List.length (Banks.Rows b):Int)<(Banks.Lost b))))))))=false:=by
   simp only [Bool.or_eq_false_iff,decide_eq_false_iff_not]
   omega
  have lp:=zdz (f:=zdZ b) (n:=(Banks.Rows b).length) (g:=fun _=>zbw (zar (zbi b) (0:Int):Option (Unit⊕Bool)) fun _=>some true) (fun i=>(i:Int)) (fun i=>optT (fun r=>decide (r.length=(Banks.Par b).length)) (Banks.Rows b)[i]?) (fun i hi _=>by
   have hlt:(i:Int)<(List.length (Banks.Rows b):Int):=by omega
   rw [zce hi]
   unfold zdZ
   simp only [hlt,decide_true,if_true,zab hi,wC0,zah (show i<4611686018427387904 by omega)]
   by_cases hq:(Banks.Rows b)[i].length=(Banks.Par b).length
   ·simp only [hq,decide_true,wH0,wA0,if_false,if_true]
   ·have hq':¬ ((Banks.Rows b)[i].length:Int)=((Banks.Par b).length:Int):=by omega
    simp only [hq,hq',decide_false,Bool.not_false,if_true,wA0,if_false]) (fun _=>by
   unfold zdZ
   simp only [show ¬ (List.length (Banks.Rows b):Int)<(List.length (Banks.Rows b):Int) by omega,decide_false,wA0,if_false])
  rw [show (((0:Nat):Int))=0 from rfl] at lp
  rw [hc,if_neg (by simp),lp,decide_eq_true h,Bool.true_and,← zfs]
  by_cases ha:(Banks.Rows b).all (fun r=>decide (r.length=(Banks.Par b).length))=true
  ·rw [if_pos ha,ha,Bool.true_and]
   rw [List.all_eq_true] at ha
   have hr:∀ r∈Banks.Rows b,r.length=(Banks.Par b).length:=fun r hr=>of_decide_eq_true (ha r hr)
   by_cases hl:Banks.Lost b=0
   ·have hl':¬ (0:Int)<Banks.Lost b:=by omega
    have lq:=zdz (f:=zbi b) (n:=(Banks.Par b).length) (g:=fun _=>some true) (fun i=>(i:Int)) (fun a=>decide (zaO (Banks.Rows b) a (-1) (Banks.Rows b).length=zaC (Banks.Par b) a)) (fun i hi _=>by
     have hlt:(i:Int)<(List.length (Banks.Par b):Int):=by omega
     have hcol:=zfg (rows:=Banks.Rows b) (a:=i) (by omega) (fun r hr'=>by rw [hr r hr'];exact hi) (-1)
     unfold zbi
     simp only [hlt,hl,decide_true,if_true,hcol,zab hi,wC0,zaJ hi,zah (show i<4611686018427387904 by omega)]
     by_cases hq:zaO (Banks.Rows b) i (-1) (Banks.Rows b).length=(Banks.Par b)[i]
     ·simp only [hq,decide_true,wH0,wA0,if_false,show ¬ (0:Int)<0 by omega,decide_false,wC0,if_true]
     ·simp only [hq,decide_false,Bool.not_false,if_true,wC0,wA0,if_false]) (fun _=>by
     unfold zbi
     simp only [show ¬ (List.length (Banks.Par b):Int)<(List.length (Banks.Par b):Int) by omega,decide_false,wA0,if_false])
    rw [show (((0:Nat):Int))=0 from rfl] at lq
    rw [lq,if_pos hl]
    cases (List.range (Banks.Par b).length).all fun a=>decide (zaO (Banks.Rows b) a (-1) (Banks.Rows b).length=zaC (Banks.Par b) a)<;>rfl
   ·have hl':(0:Int)<Banks.Lost b:=by omega
    obtain ⟨k,hk⟩:∃ k:Nat,Banks.Lost b - 1=(k:Int):=⟨(Banks.Lost b - 1).toNat,by omega⟩
    have hkn:k<(Banks.Rows b).length:=by omega
    have hrow:(Banks.Rows b)[k].length=(Banks.Par b).length:=hr _ (List.getElem_mem hkn)
    have lq:=zdz (f:=zbi b) (n:=(Banks.Rows b)[k].length) (g:=fun _=>some true) (fun i=>(i:Int)) (fun i=>optT (fun x=>decide (x=0)) (Banks.Rows b)[k][i]?) (fun i hi _=>by
     have hlt:(i:Int)<(List.length (Banks.Par b):Int):=by omega
     rw [zce hi]
     unfold zbi
     simp only [hlt,hl,hl',decide_true,decide_false,wA0,if_false,if_true,(show w64 (Banks.Lost b - 1)=(k:Int) from (zh7 h5 (show Banks.Lost b≤1000 by omega)).trans hk),zab hkn,zab hi,wC0,zah (show i<4611686018427387904 by omega)]
     cases decide ((Banks.Rows b)[k][i]=0)<;>rfl) (fun _=>by
     unfold zbi
     simp only [show ¬ ((Banks.Rows b)[k].length:Int)<(List.length (Banks.Par b):Int) by omega,decide_false,wA0,if_false])
    rw [show (((0:Nat):Int))=0 from rfl] at lq
    rw [lq,if_neg hl,hk,Int.toNat_natCast,zbo hkn,← zfs]
    cases (Banks.Rows b)[k].all fun x=>decide (x=0)<;>rfl
  ·rw [if_neg ha,Bool.eq_false_iff.2 ha]
   rfl
 ·have hc:((decide ((List.length (Banks.Rows b):Int)=(0:Int)))||((decide ((8:Int)<(List.length (Banks.Rows b):Int)))||((decide ((List.length (Banks.Par b):Int)=(0:Int)))||((decide ((64:Int)<(List.length (Banks.Par b):Int)))||((decide ((Banks.Lost b)<(0:Int)))||(decide ((List.length (Banks.Rows b):Int)<(Banks.Lost b))))))))=true:=by
   unfold zmn at h
   simp only [Bool.or_eq_true,decide_eq_true_eq]
   omega
  rw [hc,if_pos rfl,decide_eq_false h]
  rfl
end Go.Proofs.Ytlgjbfdojbmmgaa
