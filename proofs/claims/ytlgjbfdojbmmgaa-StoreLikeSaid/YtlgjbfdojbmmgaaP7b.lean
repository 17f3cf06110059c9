/- Layer 7: which banks are right, by the program and by the reference. -/
import Derived.Test.YtlgjbfdojbmmgaaP7a
import Derived.Test.YtlgjbfdojbmmgaaD415
set_option linter.unusedSimpArgs false
set_option linter.unusedVariables false
namespace Go.Proofs.Ytlgjbfdojbmmgaa
open Go.SX
structure BOk (b:Banks):Prop where
 rl:(Banks.Rows b).length≤10
 pl:(Banks.Par b).length≤80
 el:∀ r∈Banks.Rows b,r.length≤80
 rw:zhX (Banks.Rows b)
 pw:∀ x∈Banks.Par b,wd x
def zmY (b:Banks):Prop:=1≤(Banks.Rows b).length∧(Banks.Rows b).length≤8∧1≤(Banks.Par b).length∧(Banks.Par b).length≤64∧0≤Banks.Lost b∧Banks.Lost b≤((Banks.Rows b).length:Int)
instance (b:Banks):Decidable (zmY b):=by unfold zmY;exact inferInstance
def zgt (b:Banks):Bool:=decide (zmY b)&&(Banks.Rows b).all fun r=>decide (r.length=(Banks.Par b).length)
noncomputable def zb9 (b:Banks):Bool :=
 zgt b&&(if Banks.Lost b=0 then (List.range (Banks.Par b).length).all fun a=>decide (zbg (Banks.Rows b) a (-1) (Banks.Rows b).length=zaC (Banks.Par b) a) else (rowAt (Banks.Rows b) (Banks.Lost b - 1).toNat).all fun x=>decide (x=0))
theorem zh9 {b:Banks}(h:zgt b=true):zmY b∧∀ r∈Banks.Rows b,r.length=(Banks.Par b).length:=by
 unfold zgt at h
 rw [wD0,decide_eq_true_eq,List.all_eq_true] at h
 exact ⟨h.1,fun r hr=>of_decide_eq_true (h.2 r hr)⟩
theorem ziy (b:Banks):zcY b=some (zgt b):=by
 unfold zcY zgt
 dsimp only
 by_cases h:zmY b
 ·obtain ⟨h1,h2,h3,h4,h5,h6⟩:=id h
  have hc:((decide ((List.length (Banks.Rows b):Int)<(1:Int)))||((decide ((8:Int)<(List.length (Banks.Rows b):Int)))||((decide ((List.length (Banks.Par b):Int)<(1:Int)))||((decide ((64:Int)<(List.length (Banks.Par b):Int)))||((decide ((Banks.Lost b)<(0:Int)))||(decide ((List.length (Banks.Rows b):Int)<(Banks.Lost b))))))))=false:=by
   simp only [Bool.or_eq_false_iff,decide_eq_false_iff_not]
   omega
  have lp:=zlp (f:=zbH (List.length (Banks.Par b):Int) (Banks.Rows b) (List.length (Banks.Rows b):Int)) (n:=(Banks.Rows b).length) (fun i=>(i:Int)) (fun i=>optT (fun r=>decide (r.length=(Banks.Par b).length)) (Banks.Rows b)[i]?) (e:=(Sum.inl ():Unit⊕Int)) (r:=fun i=>.inr (i:Int)) (fun i hi _=>by
   have hlt:(i:Int)<(List.length (Banks.Rows b):Int):=by omega
   rw [zbv hi]
   unfold zbH
   simp only [hlt,decide_true,if_true,zat hi,wC0,zav (show i<4611686018427387904 by omega)]
   by_cases hq:(Banks.Rows b)[i].length=(Banks.Par b).length
   ·have hq':((Banks.Rows b)[i].length:Int)=((Banks.Par b).length:Int):=by omega
    simp only [hq,decide_true,wH0,wA0,if_false,if_true]
   ·have hq':¬ ((Banks.Rows b)[i].length:Int)=((Banks.Par b).length:Int):=by omega
    simp only [hq,hq',decide_false,Bool.not_false,if_true,wA0,if_false]) (fun _=>by
   unfold zbH
   simp only [show ¬ (List.length (Banks.Rows b):Int)<(List.length (Banks.Rows b):Int) by omega,decide_false,wA0,if_false])
  rw [show (((0:Nat):Int))=0 from rfl] at lp
  have f2:=zhq (ok:=fun i=>optT (fun r=>decide (r.length=(Banks.Par b).length)) (Banks.Rows b)[i]?) (n:=(Banks.Rows b).length)
  rw [← zbi,← zok] at f2
  have f1:=(zcH (fun i=>optT (fun r=>decide (r.length=(Banks.Par b).length)) (Banks.Rows b)[i]?) (Banks.Rows b).length).1
  rw [hc,if_neg (by simp)]
  simp only [lp]
  rw [decide_eq_true h,Bool.true_and]
  by_cases ha:(Banks.Rows b).all (fun r=>decide (r.length=(Banks.Par b).length))=true
  ·have:=f2.2 ha
   rw [if_neg (by omega),ha]
   rfl
  ·have:zbG (fun i=>optT (fun r=>decide (r.length=(Banks.Par b).length)) (Banks.Rows b)[i]?) (Banks.Rows b).length<(Banks.Rows b).length:=by
    rcases Nat.lt_or_ge (zbG (fun i=>optT (fun r=>decide (r.length=(Banks.Par b).length)) (Banks.Rows b)[i]?) (Banks.Rows b).length) (Banks.Rows b).length with q|q
    ·exact q
    ·exact absurd (f2.1 (by omega)) ha
   rw [if_pos this,Bool.eq_false_iff.2 ha]
   have h0:(0:Int)≤((zbG (fun i=>optT (fun r=>decide (r.length=(Banks.Par b).length)) (Banks.Rows b)[i]?) (Banks.Rows b).length:Nat):Int):=by omega
   simp only [zdP,wC0,h0,decide_true,wH0]
 ·have hc:((decide ((List.length (Banks.Rows b):Int)<(1:Int)))||((decide ((8:Int)<(List.length (Banks.Rows b):Int)))||((decide ((List.length (Banks.Par b):Int)<(1:Int)))||((decide ((64:Int)<(List.length (Banks.Par b):Int)))||((decide ((Banks.Lost b)<(0:Int)))||(decide ((List.length (Banks.Rows b):Int)<(Banks.Lost b))))))))=true:=by
   unfold zmY at h
   simp only [Bool.or_eq_true,decide_eq_true_eq]
   omega
  rw [hc,if_pos rfl,decide_eq_false h]
  rfl
theorem map_set {n i:Nat}(hi:i<n) (G:Nat→Int) (v:Int):((List.range n).map G).set i v=(List.range n).map fun a=>if a=i then v else G a:=by
 apply List.ext_getElem?
 intro j
 rw [List.getElem?_set]
 simp only [List.length_map,List.length_range]
 by_cases hj:i=j
 ·subst hj
  rw [if_pos rfl,if_pos hi,List.getElem?_map,List.getElem?_range hi]
  simp
 ·rw [if_neg hj,List.getElem?_map,List.getElem?_map]
  by_cases hjn:j<n
  ·rw [List.getElem?_range hjn]
   simp [Ne.symm hj]
  ·rw [List.getElem?_eq_none (by simpa using hjn)]
   rfl
theorem zte {words:Nat}(hw:words≤1000) (row:List Int) (hr:row.length=words) (F:Nat→Int) :
  zaA (zbj row (List.length row:Int)) ((0:Int),(List.range words).map F)=some ((List.range words).map fun a=>xo (F a) (zaC row a)):=by
 have lp:=za5 (f:=zbj row (List.length row:Int)) (n:=words) (e:=((List.range words).map fun a=>xo (F a) (zaC row a))) (fun i=>((i:Int),(List.range words).map fun a=>if a<i then xo (F a) (zaC row a) else F a)) (fun i hi=>by
  have hlt:(i:Int)<(List.length row:Int):=by omega
  have hl:((List.range words).map fun a=>if a<i then xo (F a) (zaC row a) else F a).length=words:=by simp
  have hi':i<row.length:=by omega
  have hg:getO ((List.range words).map fun a=>if a<i then xo (F a) (zaC row a) else F a) (i:Int)=some (F i):=by
   rw [zat (by rw [hl];exact hi)]
   simp
  have hs:setO ((List.range words).map fun a=>if a<i then xo (F a) (zaC row a) else F a) (i:Int) (bXor .u32 (F i) row[i])=some ((List.range words).map fun a=>if a<i + 1 then xo (F a) (zaC row a) else F a):=by
   rw [zeL (by rw [hl];exact hi),map_set hi]
   congr 1
   apply List.map_congr_left
   intro a _
   by_cases ha:a=i
   ·subst ha
    rw [if_pos rfl,if_pos (by omega),zcF hi']
    rfl
   ·by_cases hb:a<i
    ·rw [if_neg ha,if_pos hb,if_pos (by omega)]
    ·rw [if_neg ha,if_neg hb,if_neg (by omega)]
  unfold zbj
  simp only [hlt,decide_true,if_true,zat hi',wC0,hl,zci hi,hg,hs,zav (show i<4611686018427387904 by omega)]) (by
  unfold zbj
  have:¬ (words:Int)<(List.length row:Int):=by omega
  simp only [this,decide_false,wA0,if_false]
  congr 2
  apply List.map_congr_left
  intro a ha
  rw [if_pos (List.mem_range.1 ha)])
 simpa using lp
theorem ztT {rows:List (List Int)}{words:Nat}(hn:rows.length≤1000) (hw:words≤1000) (hr:∀ r∈rows,r.length=words) :
  zaA (zbm rows (List.length rows:Int)) ((0:Int),List.replicate words (0:Int))=some (tog rows words):=by
 have e0:List.replicate words (0:Int)=(List.range words).map fun a=>zbg rows a (-1) 0:=by
  apply List.ext_getElem?
  intro j
  rw [List.getElem?_replicate,List.getElem?_map]
  by_cases hj:j<words
  ·rw [if_pos hj,List.getElem?_range hj];rfl
  ·rw [if_neg hj,List.getElem?_eq_none (by simpa using hj)];rfl
 rw [e0]
 exact za5 (f:=zbm rows (List.length rows:Int)) (n:=rows.length) (e:=tog rows words) (fun i=>((i:Int),(List.range words).map fun a=>zbg rows a (-1) i)) (fun i hi=>by
  have hlt:(i:Int)<(List.length rows:Int):=by omega
  have hl:=hr rows[i] (List.getElem_mem hi)
  unfold zbm
  simp only [hlt,decide_true,if_true,zat hi,wC0,zte hw rows[i] hl,zav (show i<4611686018427387904 by omega)]
  congr 3
  apply List.map_congr_left
  intro a _
  have c1:¬ ((i:Int)=-1):=by omega
  rw [zbg,if_neg c1]
  unfold cell
  rw [zek hi]) (by
  unfold zbm
  simp only [show ¬ (List.length rows:Int)<(List.length rows:Int) by omega,decide_false,wA0,if_false]
  rfl)
theorem zfm (rows:List (List Int)) (words:Nat):(tog rows words).length=words:=by simp [tog]
theorem zi8 {x y:List Int}(hl:x.length=y.length) (hx:x.length≤1000):zaB x y=some ((List.range x.length).all fun i=>decide (zaC x i=zaC y i)):=by
 unfold zaB
 have hl':(List.length x:Int)=(List.length y:Int):=by omega
 have lp:=znm (f:=zau x y (List.length x:Int)) (n:=x.length) (g:=fun _=>some true) (fun i=>(i:Int)) (fun i=>decide (zaC x i=zaC y i)) (fun i hi _=>by
  have hlt:(i:Int)<(List.length x:Int):=by omega
  have hy:i<y.length:=by omega
  unfold zau
  simp only [hlt,decide_true,if_true,zat hi,zat hy,wC0,zcF hi,zcF hy,zav (show i<4611686018427387904 by omega)]
  cases decide (x[i]=y[i])<;>rfl) (fun _=>by
  unfold zau
  simp only [show ¬ (List.length x:Int)<(List.length x:Int) by omega,decide_false,wA0,if_false])
 rw [show (((0:Nat):Int))=0 from rfl] at lp
 simp only [hl',decide_true,wH0,wA0,if_false]
 rw [← hl',lp]
 cases (List.range x.length).all fun i=>decide (zaC x i=zaC y i)<;>rfl
theorem zk8 {rows:List (List Int)}{words a:Nat}(h:a<words):zaC (tog rows words) a=zbg rows a (-1) rows.length:=by
 rw [zcF (by rw [zfm];exact h)]
 simp [tog]
theorem ztp {x:Int}(h0:0≤x) (h1:x≤1000):w64 (x - 1)=x - 1:=zdE (by omega) (by omega)
theorem zfh {b:Banks}(hb:BOk b):zcA b=some (zb9 b):=by
 unfold zcA zb9
 rw [ziy]
 cases hf:zgt b
 ·rfl
 obtain ⟨⟨h1,h2,h3,h4,h5,h6⟩,h7⟩:=zh9 hf
 simp only [wC0,wH0,wA0,if_false,Bool.true_and]
 by_cases hl:(0:Int)<Banks.Lost b
 ·have hl':¬ Banks.Lost b=0:=by omega
  obtain ⟨k,hk⟩:∃ k:Nat,Banks.Lost b - 1=(k:Int):=⟨(Banks.Lost b - 1).toNat,by omega⟩
  have hkn:k<(Banks.Rows b).length:=by omega
  have hrow:(Banks.Rows b)[k].length≤80:=hb.el _ (List.getElem_mem hkn)
  rw [decide_eq_true hl,if_pos rfl,if_neg hl',ztp h5 (by omega),hk,Int.toNat_natCast,zek hkn]
  simp only [zat hkn,wC0]
  have lp:=zlp (f:=zb5 (Banks.Rows b)[k] (List.length (Banks.Rows b)[k]:Int)) (n:=(Banks.Rows b)[k].length) (fun i=>(i:Int)) (fun i=>optT (fun x=>decide (x=0)) (Banks.Rows b)[k][i]?) (e:=(Sum.inl ():Unit⊕Int)) (r:=fun i=>.inr (i:Int)) (fun i hi _=>by
   have hlt:(i:Int)<(List.length (Banks.Rows b)[k]:Int):=by omega
   rw [zbv hi]
   unfold zb5 zdK
   simp only [hlt,decide_true,if_true,zat hi,wC0,zav (show i<4611686018427387904 by omega)]
   cases decide ((Banks.Rows b)[k][i]=0)<;>rfl) (fun _=>by
   unfold zb5
   simp only [show ¬ (List.length (Banks.Rows b)[k]:Int)<(List.length (Banks.Rows b)[k]:Int) by omega,decide_false,wA0,if_false])
  rw [show (((0:Nat):Int))=0 from rfl] at lp
  have f2:=zhq (ok:=fun i=>optT (fun x=>decide (x=0)) (Banks.Rows b)[k][i]?) (n:=(Banks.Rows b)[k].length)
  rw [← zbi,← zok] at f2
  have f1:=(zcH (fun i=>optT (fun x=>decide (x=0)) (Banks.Rows b)[k][i]?) (Banks.Rows b)[k].length).1
  simp only [lp]
  by_cases ha:(Banks.Rows b)[k].all (fun x=>decide (x=0))=true
  ·have:=f2.2 ha
   rw [if_neg (by omega),ha]
   rfl
  ·have:zbG (fun i=>optT (fun x=>decide (x=0)) (Banks.Rows b)[k][i]?) (Banks.Rows b)[k].length<(Banks.Rows b)[k].length:=by
    rcases Nat.lt_or_ge (zbG (fun i=>optT (fun x=>decide (x=0)) (Banks.Rows b)[k][i]?) (Banks.Rows b)[k].length) (Banks.Rows b)[k].length with q|q
    ·exact q
    ·exact absurd (f2.1 (by omega)) ha
   rw [if_pos this,Bool.eq_false_iff.2 ha]
   have h0:(0:Int)≤((zbG (fun i=>optT (fun x=>decide (x=0)) (Banks.Rows b)[k][i]?) (Banks.Rows b)[k].length:Nat):Int):=by omega
   simp only [zdP,wC0,h0,decide_true,wH0]
 ·have hl':Banks.Lost b=0:=by omega
  have r1:=zfl (z:=(0:Int)) (b:=4) (n:=(Banks.Par b).length) (by omega) (by omega)
  rw [decide_eq_false hl,if_neg (by simp),if_pos hl']
  simp only [r1,wC0,ztT (rows:=Banks.Rows b) (words:=(Banks.Par b).length) (by omega) (by omega) h7]
  rw [zi8 (zfm _ _) (by rw [zfm];omega),zfm]
  simp only [wC0]
  congr 1
  rw [Bool.eq_iff_iff,zbi,zbi]
  constructor
  ·intro h a ha
   have:=h a ha
   rwa [zk8 ha] at this
  ·intro h a ha
   have:=h a ha
   rwa [zk8 ha]
end Go.Proofs.Ytlgjbfdojbmmgaa
