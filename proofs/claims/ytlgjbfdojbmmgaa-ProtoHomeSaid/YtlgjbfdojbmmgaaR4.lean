/- Systems. -/
import Derived.Test.YtlgjbfdojbmmgaaR3
set_option linter.unusedSimpArgs false
set_option linter.unusedVariables false
namespace Go.Proofs.Ytlgjbfdojbmmgaa
open Go.SX
def zj9 (l:List (List Int)) (n m:Nat):Bool:=decide (l.length=n)&&l.all fun r=>decide (r.length=m)
theorem zuV (l:List (List Int)) (n m:Nat) (hl:l.length≤1000):zcO l (n:Int) (m:Int)=some (zj9 l n m):=by
 unfold zcO zj9
 by_cases hn:l.length=n
 ·have hn':(l.length:Int)=(n:Int):=by omega
  have lp:=zi6 (f:=zbf l (m:Int) (List.length l:Int)) (n:=l.length) (fun i=>(i:Int)) (fun i=>optT (fun r=>decide (r.length=m)) l[i]?) (e:=(Sum.inl ():Unit⊕Int)) (r:=fun i=>.inr (i:Int)) (fun i hi _=>by
   have hlt:(i:Int)<(List.length l:Int):=by omega
   rw [zdf hi]
   unfold zbf
   simp only [hlt,vE0,if_true,zbA hi,wC0,zaD (show i<4611686018427387904 by omega)]
   by_cases h:l[i].length=m
   ·have h':(l[i].length:Int)=(m:Int):=by omega
    simp only [h,h',vE0,wH0,wA0,if_false,if_true]
   ·have h':¬ (l[i].length:Int)=(m:Int):=by omega
    simp only [h,h',vF0,vH0,wA0,if_false,if_true]) (fun _=>by
   unfold zbf
   simp only [show ¬ (List.length l:Int)<(List.length l:Int) by omega,vF0,wA0,if_false])
  rw [show (((0:Nat):Int))=0 from rfl] at lp
  have f1:=(zcd (fun i=>optT (fun r:List Int=>decide (r.length=m)) l[i]?) l.length).1
  have f2:=zgC (ok:=fun i=>optT (fun r:List Int=>decide (r.length=m)) l[i]?) (n:=l.length)
  rw [← zbK,← zeD] at f2
  rw [vC0 hn',if_pos rfl,vC0 hn,vB1]
  simp only [lp]
  by_cases ha:(l.all fun r=>decide (r.length=m))=true
  ·have:=f2.2 ha
   rw [if_neg (by omega),ha]
   rfl
  ·have:zbs (fun i=>optT (fun r:List Int=>decide (r.length=m)) l[i]?) l.length<l.length:=by
    rcases vU0 (zbs (fun i=>optT (fun r:List Int=>decide (r.length=m)) l[i]?) l.length) l.length with q|q
    ·exact q
    ·exact absurd (f2.1 (by omega)) ha
   rw [if_pos this,Bool.eq_false_iff.2 ha]
   have h0:(0:Int)≤((zbs (fun i=>optT (fun r:List Int=>decide (r.length=m)) l[i]?) l.length:Nat):Int):=by omega
   simp only [zeW,wC0,h0,vE0,wH0]
 ·have hn':¬ (l.length:Int)=(n:Int):=by omega
  rw [vD0 hn',if_neg (by simp),vD0 hn]
  rfl
theorem zvz (l:List (List Int)) (n m:Nat) (hl:l.length≤1000):zcz l (n:Int) (m:Int)=some (zj9 l n m):=zuV l n m hl
theorem zkz {l:List (List Int)}{n m:Nat}(h:zj9 l n m=true):l.length=n∧∀ r∈l,r.length=m:=by
 unfold zj9 at h
 rw [wD0,vG0,List.all_eq_true] at h
 exact ⟨h.1,fun r hr=>of_decide_eq_true (h.2 r hr)⟩
structure Formed (p:Proto):Prop where
 wl:(Proto.Wait p).length≤4
 hl:(Proto.Home p).length≤16
 state:(Proto.State p).length=(Proto.Wait p).length∧∀ r∈Proto.State p,r.length=(Proto.Home p).length
 val:(Proto.Val p).length=(Proto.Wait p).length∧∀ r∈Proto.Val p,r.length=(Proto.Home p).length
 dir:(Proto.Dir p).length=(Proto.Home p).length
 busy:(Proto.Busy p).length=(Proto.Home p).length
structure zuh (p:Proto):Prop where
 state:(Proto.State p).length≤6
 val:(Proto.Val p).length≤6
 wait:(Proto.Wait p).length≤6
 home:(Proto.Home p).length≤20
 frames:(Pool.Frames (Proto.Pool p)).length≤80
def zkQ (h:Nat) (w:Wait):Bool:=(decide (0≤Wait.Line w)&&decide (Wait.Line w≤(h:Int)))&&((decide (0≤Wait.Need w)&&decide (Wait.Need w≤255))&&(decide (0≤Wait.Got w)&&decide (Wait.Got w≤255)))
def stB (s:Int):Bool:=decide (0≤s)&&decide (s≤4)
def zgp (p:Proto) (n:Nat):List Int:=(Proto.State p)[n]?.getD []
def zvt (p:Proto) (n:Nat):List Int:=(Proto.Val p)[n]?.getD []
def zt8 (p:Proto) (n:Nat):Bool:=optT (zkQ (Proto.Home p).length) (Proto.Wait p)[n]?&&(zgp p n).all stB
def ztN (p:Proto) (l:Nat):Bool:=optT (fun e=>mayB e (Proto.Wait p).length) (Proto.Dir p)[l]?&&optT (fun b=>decide (0≤b)&&decide (b≤((Proto.Wait p).length:Int))) (Proto.Busy p)[l]?
def zmD (p:Proto):Bool:=decide (1≤(Proto.Wait p).length∧(Proto.Wait p).length≤4∧1≤(Proto.Home p).length∧(Proto.Home p).length≤16∧(Proto.State p).length=(Proto.Wait p).length∧(Proto.Val p).length=(Proto.Wait p).length∧(Proto.Dir p).length=(Proto.Home p).length∧(Proto.Busy p).length=(Proto.Home p).length)
def rowB (p:Proto) (n:Nat):Bool:=decide ((zgp p n).length=(Proto.Home p).length)&&decide ((zvt p n).length=(Proto.Home p).length)
def zrv (p:Proto):Bool:=(zmD p&&(List.range (Proto.Wait p).length).all (rowB p))&&(zfb (Proto.Pool p)&&((List.range (Proto.Wait p).length).all (zt8 p)&&(List.range (Proto.Home p).length).all (ztN p)))
theorem zuF {p:Proto}(hs:zuh p):zd7 p=some (zmD p&&(List.range (Proto.Wait p).length).all (rowB p)):=by
 have e1:=zuV (Proto.State p) (Proto.Wait p).length (Proto.Home p).length (by have:=hs.state;omega)
 have e2:=zvz (Proto.Val p) (Proto.Wait p).length (Proto.Home p).length (by have:=hs.val;omega)
 unfold zd7
 simp only [e1,e2,wC0]
 by_cases hz:zmD p=true
 ·rw [hz,vB1]
  unfold zmD at hz
  have z:=of_decide_eq_true hz
  obtain ⟨z1,z2,z3,z4,z5,z6,z7,z8⟩:=z
  have hc:((decide ((List.length (Proto.Wait p):Int)<(1:Int)))||((decide ((4:Int)<(List.length (Proto.Wait p):Int)))||((decide ((List.length (Proto.Home p):Int)<(1:Int)))||(decide ((16:Int)<(List.length (Proto.Home p):Int))))))=false:=by
   rw [Bool.eq_false_iff]
   simp only [ne_eq,Bool.or_eq_true,vG0]
   omega
  have h3:(List.length (Proto.Dir p):Int)=(List.length (Proto.Home p):Int):=by omega
  have h4:(List.length (Proto.Busy p):Int)=(List.length (Proto.Home p):Int):=by omega
  have hr:(List.range (Proto.Wait p).length).all (rowB p)=(zj9 (Proto.State p) (Proto.Wait p).length (Proto.Home p).length&&zj9 (Proto.Val p) (Proto.Wait p).length (Proto.Home p).length):=by
   unfold zj9
   rw [vC0 z5,vC0 z6,vB1,vB1,zeD (l:=Proto.State p),zeD (l:=Proto.Val p),z5,z6,Bool.eq_iff_iff,wD0,zbK,zbK,zbK]
   constructor
   ·intro q
    constructor
    ·intro i hi
     have:=q i hi
     unfold rowB zgp at this
     rw [wD0] at this
     have t:=this.1
     have hil:i<(Proto.State p).length:=by omega
     rw [wF0 hil] at t ⊢
     exact t
    ·intro i hi
     have:=q i hi
     unfold rowB zvt at this
     rw [wD0] at this
     have t:=this.2
     have hil:i<(Proto.Val p).length:=by omega
     rw [wF0 hil] at t ⊢
     exact t
   ·rintro ⟨q1,q2⟩ i hi
    have t1:=q1 i hi
    have t2:=q2 i hi
    have hil:i<(Proto.State p).length:=by omega
    have hil2:i<(Proto.Val p).length:=by omega
    unfold rowB zgp zvt
    rw [wF0 hil] at t1 ⊢
    rw [wF0 hil2] at t2 ⊢
    rw [wD0]
    exact ⟨t1,t2⟩
  rw [hc,hr]
  simp only [wA0,if_false,h3,h4,vE0]
  cases zj9 (Proto.State p) (Proto.Wait p).length (Proto.Home p).length
  ·rfl
  ·cases zj9 (Proto.Val p) (Proto.Wait p).length (Proto.Home p).length<;>rfl
 ·rw [Bool.eq_false_iff.2 hz,vC1]
  by_cases hc:((decide ((List.length (Proto.Wait p):Int)<(1:Int)))||((decide ((4:Int)<(List.length (Proto.Wait p):Int)))||((decide ((List.length (Proto.Home p):Int)<(1:Int)))||(decide ((16:Int)<(List.length (Proto.Home p):Int))))))=true
  ·rw [if_pos hc]
  ·rw [if_neg hc]
   simp only [Bool.or_eq_true,vG0] at hc
   cases h1:zj9 (Proto.State p) (Proto.Wait p).length (Proto.Home p).length
   ·rfl
   cases h2:zj9 (Proto.Val p) (Proto.Wait p).length (Proto.Home p).length
   ·rfl
   have f1:=(zkz h1).1
   have f2:=(zkz h2).1
   by_cases h3:(List.length (Proto.Dir p):Int)=(List.length (Proto.Home p):Int)
   ·have h4:¬ (List.length (Proto.Busy p):Int)=(List.length (Proto.Home p):Int):=fun h4=>hz (by
     unfold zmD
     exact vC0 (by omega))
    simp only [if_true,h3,h4,vE0,vF0,wC0]
   ·simp only [if_true,h3,vF0,wC0,wA0,if_false]
theorem zfL {a b:Int}:zay a (b + 1)=(decide (0≤a)&&decide (a≤b)):=by
 unfold zay
 congr 1
 rw [Bool.eq_iff_iff,vG0,vG0]
 omega
theorem zmn {p:Proto}(hs:zuh p):zb5 p=some (zrv p):=by
 unfold zb5 zrv
 rw [zuF hs,zcl _ (by have:=hs.frames;omega)]
 cases hz:(zmD p&&(List.range (Proto.Wait p).length).all (rowB p))
 ·rfl
 rw [wD0] at hz
 have z:=of_decide_eq_true hz.1
 obtain ⟨z1,z2,z3,z4,z5,z6,z7,z8⟩:=z
 cases zfb (Proto.Pool p)
 ·rfl
 simp only [wC0,wH0,wA0,if_false,vB1]
 have e5:w64 ((List.length (Proto.Home p):Int) + 1)=(List.length (Proto.Home p):Int) + 1:=zcf (by omega) (by omega)
 have e3:w64 ((List.length (Proto.Wait p):Int) + 1)=(List.length (Proto.Wait p):Int) + 1:=zcf (by omega) (by omega)
 have l3:=fun g=>zoz (f:=zcR p (List.length (Proto.Home p):Int) (Proto.Wait p) (List.length (Proto.Wait p):Int)) (n:=(Proto.Wait p).length) (g:=g) (fun i=>(i:Int)) (zt8 p) (fun i hi _=>by
  have hlt:(i:Int)<(List.length (Proto.Wait p):Int):=by omega
  have his:i<(Proto.State p).length:=by omega
  obtain ⟨row,hr⟩:∃ row,row=(Proto.State p)[i]:=⟨_,rfl⟩
  have hsa:zgp p i=row:=by unfold zgp;rw [wF0 his,hr];rfl
  have hrl:row.length≤1000:=by
   have:=zbK.1 hz.2 i hi
   unfold rowB at this
   rw [wD0,hsa] at this
   have:=of_decide_eq_true this.1
   omega
  have l2:=ziC (f:=zcN row (List.length row:Int)) (n:=row.length) (fun j=>optT stB row[j]?) (fun j hj=>by
   have hlt:(j:Int)<(List.length row:Int):=by omega
   rw [zdf hj]
   have h5:zdq row[j]=!stB row[j]:=by
    unfold zdq stB
    rw [show (5:Int)=4 + 1 from rfl,zfL]
   unfold zcN
   simp only [hlt,vE0,if_true,zbA hj,wC0,h5,zaD (show j<4611686018427387904 by omega)]
   cases stB row[j]<;>rfl) (by
   unfold zcN
   simp only [show ¬ (List.length row:Int)<(List.length row:Int) by omega,vF0,wA0,if_false])
  rw [← zeD] at l2
  have hw:((!(zay (Wait.Line (Proto.Wait p)[i]) (w64 ((List.length (Proto.Home p):Int) + (1:Int)))))||((!(zay (Wait.Need (Proto.Wait p)[i]) (256:Int)))||(!(zay (Wait.Got (Proto.Wait p)[i]) (256:Int)))))=!zkQ (Proto.Home p).length (Proto.Wait p)[i]:=by
   rw [e5,show (256:Int)=255 + 1 from rfl,zfL,zfL,zfL]
   unfold zkQ
   cases (decide (0≤Wait.Line (Proto.Wait p)[i])&&decide (Wait.Line (Proto.Wait p)[i]≤((Proto.Home p).length:Int)))<;>cases (decide (0≤Wait.Need (Proto.Wait p)[i])&&decide (Wait.Need (Proto.Wait p)[i]≤255))<;>cases (decide (0≤Wait.Got (Proto.Wait p)[i])&&decide (Wait.Got (Proto.Wait p)[i]≤255))<;>rfl
  unfold zcR zt8
  rw [zdf hi,hsa]
  simp only [hlt,vE0,if_true,zbA hi,zbA his,wC0,hw,← hr,zaD (show i<4611686018427387904 by omega)]
  rw [l2]
  cases zkQ (Proto.Home p).length (Proto.Wait p)[i]
  ·rfl
  ·simp only [wH0,wA0,if_false,wC0,vB1]
   cases row.all stB<;>rfl) (fun _=>by
  unfold zcR
  simp only [show ¬ (List.length (Proto.Wait p):Int)<(List.length (Proto.Wait p):Int) by omega,vF0,wA0,if_false])
 have l1:=zoz (f:=zbY p (List.length (Proto.Wait p):Int) (Proto.Dir p) (List.length (Proto.Dir p):Int)) (n:=(Proto.Home p).length) (g:=fun _=>some true) (fun i=>(i:Int)) (ztN p) (fun i hi _=>by
  have hlt:(i:Int)<(List.length (Proto.Dir p):Int):=by omega
  have hid:i<(Proto.Dir p).length:=by omega
  have hib:i<(Proto.Busy p).length:=by omega
  unfold zbY ztN
  rw [zdf hid,zdf hib]
  simp only [hlt,vE0,if_true,zbA hid,zbA hib,zfV,wC0,e3,zfL,zaD (show i<4611686018427387904 by omega)]
  cases mayB (Proto.Dir p)[i] (Proto.Wait p).length
  ·rfl
  ·simp only [wH0,wA0,if_false,wC0,vB1]
   cases (decide (0≤(Proto.Busy p)[i])&&decide ((Proto.Busy p)[i]≤((Proto.Wait p).length:Int)))<;>rfl) (fun _=>by
  unfold zbY
  have:¬ ((Proto.Home p).length:Int)<(List.length (Proto.Dir p):Int):=by omega
  simp only [this,vF0,wA0,if_false])
 rw [show (((0:Nat):Int))=0 from rfl] at l1
 have l3':=l3 (fun _:Unit=>zbD (zaj (zbY p (List.length (Proto.Wait p):Int) (Proto.Dir p) (List.length (Proto.Dir p):Int)) (0:Int)) fun _:Unit=>some true)
 rw [show (((0:Nat):Int))=0 from rfl] at l3'
 rw [l3',l1]
 cases (List.range (Proto.Wait p).length).all (zt8 p)
 ·rfl
 ·cases (List.range (Proto.Home p).length).all (ztN p)<;>rfl
end Go.Proofs.Ytlgjbfdojbmmgaa
