/- Copies of rows; what right systems are. -/
import Derived.Test.YtlgjbfdojbmmgaaR4
set_option linter.unusedSimpArgs false
set_option linter.unusedVariables false
namespace Go.Proofs.Ytlgjbfdojbmmgaa
open Go.SX
theorem zmH {b:Nat}{f:(Int×(List (List Int)))→Option ((Int×(List (List Int)))⊕(List (List Int)))}{l:List (List Int)}(hf:∀ s,f s=(if decide (s.1<(List.length l:Int)) then
  (zzG l s.1).bind fun v10 =>
  (zat b v10).bind fun v11 =>
  (zzN 24 s.2 ([v11]:List (List Int))).bind fun v13 =>
  some (Sum.inl (w64 (s.1 + (1:Int)),v13))
 else
  some (Sum.inr (s.2)))) (hb:b≤10000) (hl:l.length≤1000) (hr:∀ r∈l,r.length≤1000):zae f ((0:Int),([]:List (List Int)))=some l:=by
 have lp:=zaF (f:=f) (n:=l.length) (e:=l) (fun i=>((i:Int),l.take i)) (fun i hi=>by
  have hlt:(i:Int)<(List.length l:Int):=by omega
  have hbi:=hr _ (List.getElem_mem hi)
  have hc:zat b l[i]=some l[i]:=zdj (by omega) hb
  have ha:zzN 24 (l.take i) ([l[i]]:List (List Int))=some (l.take (i + 1)):=by
   rw [zcP (by simp;omega) (by omega),zbq hi]
  rw [hf]
  simp only [hlt,vE0,if_true,zbd hi,wC0,hc,ha,zaw (show i<4611686018427387904 by omega)]) (by
  rw [hf]
  simp only [show ¬ (l.length:Int)<(List.length l:Int) by omega,vF0,wA0,if_false,List.take_length])
 exact lp
theorem zuA {f:(Int×(List Entry))→Option ((Int×(List Entry))⊕(List Entry))}{l:List Entry}(hf:∀ s,f s=(if decide (s.1<(List.length l:Int)) then
  (zzG l s.1).bind fun v25 =>
  (zat 1 (Entry.Share v25)).bind fun v28 =>
  (zzN 32 s.2 ([Entry.mk (Entry.Owner v25) v28]:List Entry)).bind fun v31 =>
  some (Sum.inl (w64 (s.1 + (1:Int)),v31))
 else
  some (Sum.inr (s.2)))) (hl:l.length≤1000) (hr:∀ r∈l,(Entry.Share r).length≤1000):zae f ((0:Int),([]:List Entry))=some l:=by
 have lp:=zaF (f:=f) (n:=l.length) (e:=l) (fun i=>((i:Int),l.take i)) (fun i hi=>by
  have hlt:(i:Int)<(List.length l:Int):=by omega
  have hbi:=hr _ (List.getElem_mem hi)
  have hc:zat 1 (Entry.Share l[i])=some (Entry.Share l[i]):=zdj (by omega) (by omega)
  have he:Entry.mk (Entry.Owner l[i]) (Entry.Share l[i])=l[i]:=rfl
  have ha:zzN 32 (l.take i) ([l[i]]:List Entry)=some (l.take (i + 1)):=by
   rw [zcP (by simp;omega) (by omega),zbq hi]
  rw [hf]
  simp only [hlt,vE0,if_true,zbd hi,wC0,hc,he,ha,zaw (show i<4611686018427387904 by omega)]) (by
  rw [hf]
  simp only [show ¬ (l.length:Int)<(List.length l:Int) by omega,vF0,wA0,if_false,List.take_length])
 exact lp
def U32 (x:Int):Prop:=0≤x∧x<4294967296
structure R10 (p:Proto):Prop where
 c1:1≤(Proto.Wait p).length
 c4:(Proto.Wait p).length≤4
 h1:1≤(Proto.Home p).length
 h16:(Proto.Home p).length≤16
 st:(Proto.State p).length=(Proto.Wait p).length
 va:(Proto.Val p).length=(Proto.Wait p).length
 di:(Proto.Dir p).length=(Proto.Home p).length
 bu:(Proto.Busy p).length=(Proto.Home p).length
 sr:∀ n (h:n<(Proto.State p).length),((Proto.State p)[n]).length=(Proto.Home p).length
 vr:∀ n (h:n<(Proto.Val p).length),((Proto.Val p)[n]).length=(Proto.Home p).length
 po:zfg (Proto.Pool p)=true
 wt:∀ n (h:n<(Proto.Wait p).length),zmB (Proto.Home p).length (Proto.Wait p)[n]=true
 sb:∀ n (h:n<(Proto.State p).length),((Proto.State p)[n]).all stB=true
 dm:∀ n (h:n<(Proto.Dir p).length),zz5 (Proto.Dir p)[n] ((Proto.Wait p).length:Int)=true
 bb:∀ n (h:n<(Proto.Busy p).length),0≤(Proto.Busy p)[n]∧(Proto.Busy p)[n]≤((Proto.Wait p).length:Int)
theorem zwn {p:Proto}(R:R10 p):zsN p=true:=by
 unfold zsN
 simp only [wD0]
 refine ⟨⟨vC0 ⟨R.c1,R.c4,R.h1,R.h16,R.st,R.va,R.di,R.bu⟩,zbM.2 fun n hn=>?_⟩,R.po,zbM.2 fun n hn=>?_,zbM.2 fun n hn=>?_⟩
 ·have h1:n<(Proto.State p).length:=by rw [R.st];exact hn
  have h2:n<(Proto.Val p).length:=by rw [R.va];exact hn
  unfold zAu zgg zvP
  rw [wF0 h1,wF0 h2,wD0]
  exact ⟨vC0 (R.sr n h1),vC0 (R.vr n h2)⟩
 ·have h1:n<(Proto.State p).length:=by rw [R.st];exact hn
  unfold ztS zgg
  rw [zdm hn,wF0 h1,wD0]
  exact ⟨R.wt n hn,R.sb n h1⟩
 ·have h1:n<(Proto.Dir p).length:=by rw [R.di];exact hn
  have h2:n<(Proto.Busy p).length:=by rw [R.bu];exact hn
  unfold zvf
  rw [zdm h1,zdm h2,wD0]
  refine ⟨R.dm n h1,?_⟩
  have:=R.bb n h2
  simp only [wD0,vG0]
  exact this
structure zdo (m:Msg):Prop where
 kind:1≤Msg.Kind m∧Msg.Kind m≤11
 src:0≤Msg.From m∧Msg.From m<256
 dst:0≤Msg.To m∧Msg.To m<256
 line:0≤Msg.Line m∧Msg.Line m<256
 hfor:0≤Msg.For m∧Msg.For m<256
 acks:0≤Msg.Acks m∧Msg.Acks m<256
 num:U32 (Msg.Num m)
 val:U32 (Msg.Val m)
theorem u0:U32 0:=⟨by omega,by omega⟩
def w00:Wait:=Wait.mk (0:Int) false false false false false (0:Int) (0:Int) (0:Int)
theorem zqu {h:Nat}{w:Wait}:zmB h w=true↔(0≤Wait.Line w∧Wait.Line w≤(h:Int))∧(0≤Wait.Need w∧Wait.Need w≤255)∧(0≤Wait.Got w∧Wait.Got w≤255):=by
 unfold zmB
 simp only [wD0,vG0]
theorem zxO (h:Nat):zmB h w00=true:=by
 unfold zmB
 rw [show Wait.Line w00=0 from rfl,show Wait.Need w00=0 from rfl,show Wait.Got w00=0 from rfl]
 simp only [wD0,vG0]
 omega
end Go.Proofs.Ytlgjbfdojbmmgaa
