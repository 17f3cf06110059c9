/- Systems. -/
import Derived.Test.YtlgjbfdojbmmgaaR3
set_option linter.unusedSimpArgs false
set_option linter.unusedVariables false
namespace Go.Proofs.Ytlgjbfdojbmmgaa
open Go.SX
def zkJ (l:List (List Int)) (n m:Nat):Bool:=decide (l.length=n)&&l.all fun r=>decide (r.length=m)
theorem zuo (l:List (List Int)) (n m:Nat) (hl:l.length≤1000):zcT l (n:Int) (m:Int)=some (zkJ l n m):=by
 unfold zcT zkJ
 by_cases hn:l.length=n
 ·have hn':(l.length:Int)=(n:Int):=by omega
  have lp:=zj5 (f:=zbg l (m:Int) (List.length l:Int)) (n:=l.length) (fun i=>(i:Int)) (fun i=>zz4 (fun r=>decide (r.length=m)) l[i]?) (e:=(Sum.inl ():Unit⊕Int)) (r:=fun i=>.inr (i:Int)) (fun i hi _=>by
   have hlt:(i:Int)<(List.length l:Int):=by omega
   rw [zdm hi]
   unfold zbg
   simp only [hlt,vE0,if_true,zbd hi,wC0,zaw (show i<4611686018427387904 by omega)]
   by_cases h:l[i].length=m
   ·have h':(l[i].length:Int)=(m:Int):=by omega
    simp only [h,h',vE0,wH0,wA0,if_false,if_true]
   ·have h':¬ (l[i].length:Int)=(m:Int):=by omega
    simp only [h,h',vF0,vH0,wA0,if_false,if_true]) (fun _=>by
   unfold zbg
   simp only [show ¬ (List.length l:Int)<(List.length l:Int) by omega,vF0,wA0,if_false])
  rw [show (((0:Nat):Int))=0 from rfl] at lp
  have f1:=(zci (fun i=>zz4 (fun r:List Int=>decide (r.length=m)) l[i]?) l.length).1
  have f2:=zhi (ok:=fun i=>zz4 (fun r:List Int=>decide (r.length=m)) l[i]?) (n:=l.length)
  rw [← zbM,← zeN] at f2
  rw [vC0 hn',if_pos rfl,vC0 hn,vB1]
  simp only [lp]
  by_cases ha:(l.all fun r=>decide (r.length=m))=true
  ·have:=f2.2 ha
   rw [if_neg (by omega),ha]
   rfl
  ·have:zbx (fun i=>zz4 (fun r:List Int=>decide (r.length=m)) l[i]?) l.length<l.length:=by
    rcases vU0 (zbx (fun i=>zz4 (fun r:List Int=>decide (r.length=m)) l[i]?) l.length) l.length with q|q
    ·exact q
    ·exact absurd (f2.1 (by omega)) ha
   rw [if_pos this,Bool.eq_false_iff.2 ha]
   have h0:(0:Int)≤((zbx (fun i=>zz4 (fun r:List Int=>decide (r.length=m)) l[i]?) l.length:Nat):Int):=by omega
   simp only [ze1,wC0,h0,vE0,wH0]
 ·have hn':¬ (l.length:Int)=(n:Int):=by omega
  rw [vD0 hn',if_neg (by simp),vD0 hn]
  rfl
theorem zws (l:List (List Int)) (n m:Nat) (hl:l.length≤1000):zcL l (n:Int) (m:Int)=some (zkJ l n m):=zuo l n m hl
theorem zlM {l:List (List Int)}{n m:Nat}(h:zkJ l n m=true):l.length=n∧∀ r∈l,r.length=m:=by
 unfold zkJ at h
 rw [wD0,vG0,List.all_eq_true] at h
 exact ⟨h.1,fun r hr=>of_decide_eq_true (h.2 r hr)⟩
structure Formed (p:Proto):Prop where
 wl:(Proto.Wait p).length≤4
 hl:(Proto.Home p).length≤16
 state:(Proto.State p).length=(Proto.Wait p).length∧∀ r∈Proto.State p,r.length=(Proto.Home p).length
 val:(Proto.Val p).length=(Proto.Wait p).length∧∀ r∈Proto.Val p,r.length=(Proto.Home p).length
 dir:(Proto.Dir p).length=(Proto.Home p).length
 busy:(Proto.Busy p).length=(Proto.Home p).length
structure zu0 (p:Proto):Prop where
 state:(Proto.State p).length≤6
 val:(Proto.Val p).length≤6
 wait:(Proto.Wait p).length≤6
 home:(Proto.Home p).length≤20
 frames:(Pool.Frames (Proto.Pool p)).length≤80
def zmB (h:Nat) (w:Wait):Bool:=(decide (0≤Wait.Line w)&&decide (Wait.Line w≤(h:Int)))&&((decide (0≤Wait.Need w)&&decide (Wait.Need w≤255))&&(decide (0≤Wait.Got w)&&decide (Wait.Got w≤255)))
def stB (s:Int):Bool:=decide (0≤s)&&decide (s≤4)
def zgg (p:Proto) (n:Nat):List Int:=(Proto.State p)[n]?.getD []
def zvP (p:Proto) (n:Nat):List Int:=(Proto.Val p)[n]?.getD []
def ztS (p:Proto) (n:Nat):Bool:=zz4 (zmB (Proto.Home p).length) (Proto.Wait p)[n]?&&(zgg p n).all stB
def zvf (p:Proto) (l:Nat):Bool:=zz4 (fun e=>zz5 e (Proto.Wait p).length) (Proto.Dir p)[l]?&&zz4 (fun b=>decide (0≤b)&&decide (b≤((Proto.Wait p).length:Int))) (Proto.Busy p)[l]?
def znB (p:Proto):Bool:=decide (1≤(Proto.Wait p).length∧(Proto.Wait p).length≤4∧1≤(Proto.Home p).length∧(Proto.Home p).length≤16∧(Proto.State p).length=(Proto.Wait p).length∧(Proto.Val p).length=(Proto.Wait p).length∧(Proto.Dir p).length=(Proto.Home p).length∧(Proto.Busy p).length=(Proto.Home p).length)
def zAu (p:Proto) (n:Nat):Bool:=decide ((zgg p n).length=(Proto.Home p).length)&&decide ((zvP p n).length=(Proto.Home p).length)
def zsN (p:Proto):Bool:=(znB p&&(List.range (Proto.Wait p).length).all (zAu p))&&(zfg (Proto.Pool p)&&((List.range (Proto.Wait p).length).all (ztS p)&&(List.range (Proto.Home p).length).all (zvf p)))
theorem zu5 {p:Proto}(hs:zu0 p):zen p=some (znB p&&(List.range (Proto.Wait p).length).all (zAu p)):=by
 have e1:=zuo (Proto.State p) (Proto.Wait p).length (Proto.Home p).length (by have:=hs.state;omega)
 have e2:=zws (Proto.Val p) (Proto.Wait p).length (Proto.Home p).length (by have:=hs.val;omega)
 unfold zen
 simp only [e1,e2,wC0]
 by_cases hz:znB p=true
 ·rw [hz,vB1]
  unfold znB at hz
  have z:=of_decide_eq_true hz
  obtain ⟨z1,z2,z3,z4,z5,z6,z7,z8⟩:=z
  have hc:((decide ((List.length (Proto.Wait p):Int)<(1:Int)))||((decide ((4:Int)<(List.length (Proto.Wait p):Int)))||((decide ((List.length (Proto.Home p):Int)<(1:Int)))||(decide ((16:Int)<(List.length (Proto.Home p):Int))))))=false:=by
   rw [Bool.eq_false_iff]
   simp only [ne_eq,Bool.or_eq_true,vG0]
   omega
  have h3:(List.length (Proto.Dir p):Int)=(List.length (Proto.Home p):Int):=by omega
  have h4:(List.length (Proto.Busy p):Int)=(List.length (Proto.Home p):Int):=by omega
  have hr:(List.range (Proto.Wait p).length).all (zAu p)=(zkJ (Proto.State p) (Proto.Wait p).length (Proto.Home p).length&&zkJ (Proto.Val p) (Proto.Wait p).length (Proto.Home p).length):=by
   unfold zkJ
   rw [vC0 z5,vC0 z6,vB1,vB1,zeN (l:=Proto.State p),zeN (l:=Proto.Val p),z5,z6,Bool.eq_iff_iff,wD0,zbM,zbM,zbM]
   constructor
   ·intro q
    constructor
    ·intro i hi
     have:=q i hi
     unfold zAu zgg at this
     rw [wD0] at this
     have t:=this.1
     have hil:i<(Proto.State p).length:=by omega
     rw [wF0 hil] at t ⊢
     exact t
    ·intro i hi
     have:=q i hi
     unfold zAu zvP at this
     rw [wD0] at this
     have t:=this.2
     have hil:i<(Proto.Val p).length:=by omega
     rw [wF0 hil] at t ⊢
     exact t
   ·rintro ⟨q1,q2⟩ i hi
    have t1:=q1 i hi
    have t2:=q2 i hi
    have hil:i<(Proto.State p).length:=by omega
    have hil2:i<(Proto.Val p).length:=by omega
    unfold zAu zgg zvP
    rw [wF0 hil] at t1 ⊢
    rw [wF0 hil2] at t2 ⊢
    rw [wD0]
    exact ⟨t1,t2⟩
  rw [hc,hr]
  simp only [wA0,if_false,h3,h4,vE0]
  cases zkJ (Proto.State p) (Proto.Wait p).length (Proto.Home p).length
  ·rfl
  ·cases zkJ (Proto.Val p) (Proto.Wait p).length (Proto.Home p).length<;>rfl
 ·rw [Bool.eq_false_iff.2 hz,vC1]
  by_cases hc:((decide ((List.length (Proto.Wait p):Int)<(1:Int)))||((decide ((4:Int)<(List.length (Proto.Wait p):Int)))||((decide ((List.length (Proto.Home p):Int)<(1:Int)))||(decide ((16:Int)<(List.length (Proto.Home p):Int))))))=true
  ·rw [if_pos hc]
  ·rw [if_neg hc]
   simp only [Bool.or_eq_true,vG0] at hc
   cases h1:zkJ (Proto.State p) (Proto.Wait p).length (Proto.Home p).length
   ·rfl
   cases h2:zkJ (Proto.Val p) (Proto.Wait p).length (Proto.Home p).length
   ·rfl
   have f1:=(zlM h1).1
   have f2:=(zlM h2).1
   by_cases h3:(List.length (Proto.Dir p):Int)=(List.length (Proto.Home p):Int)
   ·have h4:¬ (List.length (Proto.Busy p):Int)=(List.length (Proto.Home p):Int):=fun h4=>hz (by
     unfold znB
     exact vC0 (by omega))
    simp only [if_true,h3,h4,vE0,vF0,wC0]
   ·simp only [if_true,h3,vF0,wC0,wA0,if_false]
theorem zgw {a b:Int}:zaz a (b + 1)=(decide (0≤a)&&decide (a≤b)):=by
 unfold zaz
 congr 1
 rw [Bool.eq_iff_iff,vG0,vG0]
 omega
theorem zmY {p:Proto}(hs:zu0 p):za4 p=some (zsN p):=by
 unfold za4 zsN
 rw [zu5 hs,zct _ (by have:=hs.frames;omega)]
 cases hz:(znB p&&(List.range (Proto.Wait p).length).all (zAu p))
 ·rfl
 rw [wD0] at hz
 have z:=of_decide_eq_true hz.1
 obtain ⟨z1,z2,z3,z4,z5,z6,z7,z8⟩:=z
 cases zfg (Proto.Pool p)
 ·rfl
 simp only [wC0,wH0,wA0,if_false,vB1]
 have e5:w64 ((List.length (Proto.Home p):Int) + 1)=(List.length (Proto.Home p):Int) + 1:=zcu (by omega) (by omega)
 have e3:w64 ((List.length (Proto.Wait p):Int) + 1)=(List.length (Proto.Wait p):Int) + 1:=zcu (by omega) (by omega)
 have l3:=fun g=>zp5 (f:=zcY p (List.length (Proto.Home p):Int) (Proto.Wait p) (List.length (Proto.Wait p):Int)) (n:=(Proto.Wait p).length) (g:=g) (fun i=>(i:Int)) (ztS p) (fun i hi _=>by
  have hlt:(i:Int)<(List.length (Proto.Wait p):Int):=by omega
  have his:i<(Proto.State p).length:=by omega
  obtain ⟨row,hr⟩:∃ row,row=(Proto.State p)[i]:=⟨_,rfl⟩
  have hsa:zgg p i=row:=by unfold zgg;rw [wF0 his,hr];rfl
  have hrl:row.length≤1000:=by
   have:=zbM.1 hz.2 i hi
   unfold zAu at this
   rw [wD0,hsa] at this
   have:=of_decide_eq_true this.1
   omega
  have l2:=ziG (f:=zcU row (List.length row:Int)) (n:=row.length) (fun j=>zz4 stB row[j]?) (fun j hj=>by
   have hlt:(j:Int)<(List.length row:Int):=by omega
   rw [zdm hj]
   have h5:zdD row[j]=!stB row[j]:=by
    unfold zdD stB
    rw [show (5:Int)=4 + 1 from rfl,zgw]
   unfold zcU
   simp only [hlt,vE0,if_true,zbd hj,wC0,h5,zaw (show j<4611686018427387904 by omega)]
   cases stB row[j]<;>rfl) (by
   unfold zcU
   simp only [show ¬ (List.length row:Int)<(List.length row:Int) by omega,vF0,wA0,if_false])
  rw [← zeN] at l2
  have hw:((!(zaz (Wait.Line (Proto.Wait p)[i]) (w64 ((List.length (Proto.Home p):Int) + (1:Int)))))||((!(zaz (Wait.Need (Proto.Wait p)[i]) (256:Int)))||(!(zaz (Wait.Got (Proto.Wait p)[i]) (256:Int)))))=!zmB (Proto.Home p).length (Proto.Wait p)[i]:=by
   rw [e5,show (256:Int)=255 + 1 from rfl,zgw,zgw,zgw]
   unfold zmB
   cases (decide (0≤Wait.Line (Proto.Wait p)[i])&&decide (Wait.Line (Proto.Wait p)[i]≤((Proto.Home p).length:Int)))<;>cases (decide (0≤Wait.Need (Proto.Wait p)[i])&&decide (Wait.Need (Proto.Wait p)[i]≤255))<;>cases (decide (0≤Wait.Got (Proto.Wait p)[i])&&decide (Wait.Got (Proto.Wait p)[i]≤255))<;>rfl
  unfold zcY ztS
  rw [zdm hi,hsa]
  simp only [hlt,vE0,if_true,zbd hi,zbd his,wC0,hw,← hr,zaw (show i<4611686018427387904 by omega)]
  rw [l2]
  cases zmB (Proto.Home p).length (Proto.Wait p)[i]
  ·rfl
  ·simp only [wH0,wA0,if_false,wC0,vB1]
   cases row.all stB<;>rfl) (fun _=>by
  unfold zcY
  simp only [show ¬ (List.length (Proto.Wait p):Int)<(List.length (Proto.Wait p):Int) by omega,vF0,wA0,if_false])
 have l1:=zp5 (f:=zbW p (List.length (Proto.Wait p):Int) (Proto.Dir p) (List.length (Proto.Dir p):Int)) (n:=(Proto.Home p).length) (g:=fun _=>some true) (fun i=>(i:Int)) (zvf p) (fun i hi _=>by
  have hlt:(i:Int)<(List.length (Proto.Dir p):Int):=by omega
  have hid:i<(Proto.Dir p).length:=by omega
  have hib:i<(Proto.Busy p).length:=by omega
  unfold zbW zvf
  rw [zdm hid,zdm hib]
  simp only [hlt,vE0,if_true,zbd hid,zbd hib,zgG,wC0,e3,zgw,zaw (show i<4611686018427387904 by omega)]
  cases zz5 (Proto.Dir p)[i] (Proto.Wait p).length
  ·rfl
  ·simp only [wH0,wA0,if_false,wC0,vB1]
   cases (decide (0≤(Proto.Busy p)[i])&&decide ((Proto.Busy p)[i]≤((Proto.Wait p).length:Int)))<;>rfl) (fun _=>by
  unfold zbW
  have:¬ ((Proto.Home p).length:Int)<(List.length (Proto.Dir p):Int):=by omega
  simp only [this,vF0,wA0,if_false])
 rw [show (((0:Nat):Int))=0 from rfl] at l1
 have l3':=l3 (fun _:Unit=>zbv (zae (zbW p (List.length (Proto.Wait p):Int) (Proto.Dir p) (List.length (Proto.Dir p):Int)) (0:Int)) fun _:Unit=>some true)
 rw [show (((0:Nat):Int))=0 from rfl] at l3'
 rw [l3',l1]
 cases (List.range (Proto.Wait p).length).all (ztS p)
 ·rfl
 ·cases (List.range (Proto.Home p).length).all (zvf p)<;>rfl
end Go.Proofs.Ytlgjbfdojbmmgaa
