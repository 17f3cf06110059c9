/- Part 4 of a checked symbolic executor: what a function's code does is read off as a tree over plain data. No condition. -/
import Derived.Test.YtlgjbfdojbmmgaaSx3
import Derived.Orders
set_option linter.unusedSimpArgs false
set_option linter.unusedVariables false
namespace Go.SX
open Go.RowKit (Below)
structure Tr (n n0:Nat) (sg:List At) (X X':Ctx):Prop where
 at_:∀ a:At,a.okAt n=true→(a.inst n0 sg).get X.E=a.get X'.E
 w:X'.w=X.w
 A:∀ r,X'.A r↔X.A r
 β:X'.β=X.β
 F:X'.F=X.F
 μ:∀ r,X.A r→X.μ r=(X'.μ r).inst n0 sg
 ok:∀ r,X.A r→(X'.μ r).okAt n=true
section
variable {n n0:Nat} {sg:List At} {X X':Ctx}
theorem Root.inst_own (R:Root) (p:Pl):(R.inst n0 sg).own p=R.own p:=by cases R<;>rfl
theorem Root.inst_there (R:Root):(R.inst n0 sg).there=R.there:=by cases R<;>rfl
theorem Root.inst_row {R:Root}{e:Ty}{a:At}(h:(R.inst n0 sg).row?=some (e,a)):∃ a',R.row?=some (e,a')∧a=a'.inst n0 sg:=by
 cases R<;>simp only [Root.inst,Root.row?,wB0,Prod.mk.injEq,reduceCtorEq] at h
 all_goals (obtain ⟨h1,h2⟩:=h;subst h1 h2;exact ⟨_,rfl,rfl⟩)
theorem Root.row_ok {R:Root}{e:Ty}{a:At}(h:R.row?=some (e,a)) (ho:R.okAt n=true):a.okAt n=true:=by
 cases R<;>simp only [Root.row?,wB0,Prod.mk.injEq,reduceCtorEq] at h
 all_goals (obtain ⟨_,h2⟩:=h;subst h2;first|exact ho|(simp only [Root.okAt,wD0] at ho;exact ho.1))
theorem zgD:∀ {q:List Stp}{T:Ty},tyAt (q.map (Stp.inst n0 sg)) T=tyAt q T
 | [],_=>rfl
 | .f j::q,T=>by
  cases T<;>simp only [List.map_cons,Stp.inst,tyAt]
  split
  ·exact zgD
  ·rfl
 | .i a::q,T=>by
  cases T<;>simp only [List.map_cons,Stp.inst,tyAt]
  exact zgD
theorem zgZ {E E':List D}(hE:∀ a:At,a.okAt n=true→(a.inst n0 sg).get E=a.get E'):∀ {q:List Stp}{T:Ty},zcr n q=true→tOff E (q.map (Stp.inst n0 sg)) T=tOff E' q T
 | [],_,_=>rfl
 | .f j::q,T,h=>by
  simp only [zcr,Stp.okAt,Bool.true_and] at h
  cases T<;>simp only [List.map_cons,Stp.inst,tOff]
  split
  ·rw [zgZ hE h]
  ·rfl
 | .i a::q,T,h=>by
  simp only [zcr,Stp.okAt,wD0] at h
  cases T<;>simp only [List.map_cons,Stp.inst,tOff]
  rw [hE a h.1]
  split
  ·rw [zgZ hE h.2]
  ·rfl
theorem Tr.M (t:Tr n n0 sg X X') (b:Nat):X'.M b↔X.M b:=by
 unfold Ctx.M
 rw [t.F,t.β]
 constructor
 ·rintro (h|⟨r,h1,h2⟩)
  ·exact .inl h
  ·exact .inr ⟨r,(t.A r).1 h1,by rw [t.μ r ((t.A r).1 h1),Root.inst_own];exact h2⟩
 ·rintro (h|⟨r,h1,h2⟩)
  ·exact .inl h
  ·exact .inr ⟨r,(t.A r).2 h1,by rw [t.μ r h1,Root.inst_own] at h2;exact h2⟩
theorem Tr.K (t:Tr n n0 sg X X'):Keeps X.w X'.w X.M X'.M:=by
 rw [t.w]
 exact ⟨fun _ _ _=>rfl,fun _ _ h h'=>h ((t.M _).1 h')⟩
theorem Tr.h (t:Tr n n0 sg X X') {e:Ty}{r:Nat}{vw:Option (At×At)}{v:Value}(hA:X.A r) (ho:znM n vw=true) (h:HRep X e r (zrF n0 sg vw) v):HRep X' e r vw v:=by
 obtain ⟨a,d,h1,h2,h3⟩:=h
 rw [t.μ r hA] at h1
 obtain ⟨a',r1,r2⟩:=Root.inst_row h1
 subst r2
 have hao:=Root.row_ok r1 (t.ok r hA)
 refine ⟨a',d,r1,by rw [← t.at_ a' hao];exact h2,?_⟩
 rw [t.β,t.w]
 rcases h3 with ⟨b1,b2,b4⟩|⟨b,l,b1,b2,b3⟩
 ·refine .inl ⟨b1,b2,?_⟩
  cases vw with
  | none=>trivial
  | some p =>
   obtain ⟨lo,hi⟩:=p
   simp only [znM,wD0] at ho
   obtain ⟨k,k',u,u'⟩:=b4
   exact ⟨k,k',by rw [← t.at_ lo ho.1];exact u,by rw [← t.at_ hi ho.2];exact u'⟩
 ·refine .inr ⟨b,l,b1,b2,?_⟩
  cases vw with
  | none=>exact b3
  | some p =>
   obtain ⟨lo,hi⟩:=p
   simp only [znM,wD0] at ho
   obtain ⟨ad,cap,bs,k,k',i,j,g1,g2,g3⟩:=b3
   exact ⟨ad,cap,bs,k,k',i,j,by rw [← t.at_ lo ho.1];exact g1,by rw [← t.at_ hi ho.2];exact g2,g3⟩
theorem Tr.ref (t:Tr n n0 sg X X') {s:SV}{v:Value}(ho:s.okAt n=true) (h:Ref X (s.inst n0 sg) v):Ref X' s v:=by
 cases s<;>simp only [SV.inst,Ref] at h ⊢<;>try exact h
 case h e r vw =>
  simp only [SV.okAt] at ho
  refine ⟨h.1,(t.A r).2 h.2.1,fun ht=>t.h h.2.1 ho (h.2.2 ?_)⟩
  rw [t.μ r h.2.1,Root.inst_there]
  exact ht
 case hc e r hi =>
  simp only [SV.okAt] at ho
  refine ⟨h.1,(t.A r).2 h.2.1,fun ht=>?_⟩
  obtain ⟨a,d,h1,h2,h3⟩:=h.2.2 (by rw [t.μ r h.2.1,Root.inst_there];exact ht)
  rw [t.μ r h.2.1] at h1
  obtain ⟨a',r1,r2⟩:=Root.inst_row h1
  subst r2
  refine ⟨a',d,r1,by rw [← t.at_ a' (Root.row_ok r1 (t.ok r h.2.1))];exact h2,?_⟩
  rw [t.β,t.w,← t.at_ hi ho]
  exact h3
 case z e a =>
  simp only [SV.okAt] at ho
  obtain ⟨d,l,y,h1,h2⟩:=h
  exact ⟨d,l,y,by rw [← t.at_ a ho];exact h1,h2⟩
 case mr K V r =>
  obtain ⟨hA,b,h1,h2⟩:=h
  exact ⟨(t.A r).2 hA,b,h1,by rw [t.β];exact h2⟩
 case p R T r q =>
  simp only [SV.okAt] at ho
  obtain ⟨hA,b,off,h1,h2,h3,h4⟩:=h
  exact ⟨(t.A r).2 hA,b,off,h1,by rw [t.β];exact h2,by rw [← zgZ t.at_ ho];exact h3,by rw [← zgD];exact h4⟩
 case pd T a =>
  simp only [SV.okAt] at ho
  obtain ⟨ad,d,xs,h1,h2,h3,h4,h5⟩:=h
  exact ⟨ad,d,xs,h1,by rw [← t.at_ a ho];exact h2,h3.keep t.K,by rw [t.w];exact h4,fun hx hM=>h5 hx ((t.M _).1 hM)⟩
 case hb R e n' r q =>
  obtain ⟨hA,h1,h2,b,h3,h4⟩:=h
  have hq:q=[]:=by
   cases q with
   | nil=>rfl
   | cons a l=>simp at h1
  exact ⟨(t.A r).2 hA,hq,h2,b,by rw [t.β];exact h3,h4⟩
 case hr e r ix g =>
  simp only [SV.okAt] at ho
  refine ⟨h.1,(t.A r).2 h.2.1,fun e' a' g' hm=>?_⟩
  have hμ:=t.μ r h.2.1
  have hok:=t.ok r h.2.1
  rw [hm] at hμ hok
  simp only [Root.inst] at hμ
  simp only [Root.okAt] at hok
  obtain ⟨hle,hh⟩:=h.2.2 _ _ _ hμ
  refine ⟨hle,fun eg=>?_⟩
  obtain ⟨he,k,i,ds,d,o,h1,h2,h3,h4,h5⟩:=hh eg
  exact ⟨he,k,i,ds,d,o,by rw [← t.at_ a' hok];exact h1,by rw [← t.at_ ix ho];exact h2,h3,by rw [t.β];exact h4,by rw [t.w];exact h5⟩
 case pm e T r ix q g =>
  simp only [SV.okAt,wD0] at ho
  refine ⟨h.1,(t.A r).2 h.2.1,fun e' a' g' hm=>?_⟩
  have hμ:=t.μ r h.2.1
  rw [hm] at hμ
  simp only [Root.inst] at hμ
  obtain ⟨hle,hh⟩:=h.2.2 _ _ _ hμ
  refine ⟨hle,fun eg=>?_⟩
  obtain ⟨he,k,i,b,off,h1,h2,h3,h4,h5⟩:=hh eg
  exact ⟨he,k,i,b,off,by rw [← t.at_ ix ho.1];exact h1,by rw [t.β];exact h2,h3,by rw [← zgZ t.at_ ho.2];exact h4,by rw [← zgD];exact h5⟩
theorem SV.inst_hasTy {s:SV}{T:Ty}(h:(s.inst n0 sg).hasTy T):s.hasTy T:=by cases s<;>exact h
mutual
theorem Tr.crep (t:Tr n n0 sg X X'):∀ {s:SV}{cs:List Value},s.okAt n=true→CRep X (s.inst n0 sg) cs→CRep X' s cs
 | .un _,cs,_,h=>by simpa only [SV.inst,CRep] using h
 | .cv _,cs,_,h=>by simpa only [SV.inst,CRep] using h
 | .d T a,cs,ho,h=>by
  simp only [SV.inst,CRep] at h ⊢
  simp only [SV.okAt] at ho
  obtain ⟨d,h1,h2⟩:=h
  exact ⟨d,by rw [← t.at_ a ho];exact h1,h2.keep t.K⟩
 | .ag T l,cs,ho,h=>by
  simp only [SV.okAt] at ho
  cases T<;>simp only [SV.inst,CRep] at h ⊢
  exact Tr.crepL t ho h
 | .fn f us caps,cs,ho,h=>by
  simp only [SV.inst,CRep] at h ⊢
  simp only [SV.okAt,wD0] at ho
  obtain ⟨us,vs,h1,h2,h3⟩:=h
  exact ⟨us,vs,h1,Tr.vrepL t ho.1 h2,Tr.vrepL t ho.2 h3⟩
 | .tu _,_,_,h=>by simp only [SV.inst,CRep] at h
 | .h e r vw,cs,ho,h=>by simp only [SV.inst,CRep] at h ⊢;obtain ⟨v,h1,h2⟩:=h;exact ⟨v,h1,t.ref ho h2⟩
 | .hc e r i,cs,ho,h=>by simp only [SV.inst,CRep] at h ⊢;obtain ⟨v,h1,h2⟩:=h;exact ⟨v,h1,t.ref ho h2⟩
 | .mr K V r,cs,ho,h=>by simp only [SV.inst,CRep] at h ⊢;obtain ⟨v,h1,h2⟩:=h;exact ⟨v,h1,t.ref ho h2⟩
 | .z e a,cs,ho,h=>by simp only [SV.inst,CRep] at h ⊢;obtain ⟨v,h1,h2⟩:=h;exact ⟨v,h1,t.ref ho h2⟩
 | .p R T r q,cs,ho,h=>by simp only [SV.inst,CRep] at h ⊢;obtain ⟨v,h1,h2⟩:=h;exact ⟨v,h1,t.ref ho h2⟩
 | .pd T a,cs,ho,h=>by simp only [SV.inst,CRep] at h ⊢;obtain ⟨v,h1,h2⟩:=h;exact ⟨v,h1,t.ref ho h2⟩
 | .hb R e n r q,cs,ho,h=>by simp only [SV.inst,CRep] at h ⊢;obtain ⟨v,h1,h2⟩:=h;exact ⟨v,h1,t.ref ho h2⟩
 | .hr e r i g,cs,ho,h=>by simp only [SV.inst,CRep] at h ⊢;obtain ⟨v,h1,h2⟩:=h;exact ⟨v,h1,t.ref ho h2⟩
 | .pm e T r i q g,cs,ho,h=>by simp only [SV.inst,CRep] at h ⊢;obtain ⟨v,h1,h2⟩:=h;exact ⟨v,h1,t.ref ho h2⟩
theorem Tr.crepL (t:Tr n n0 sg X X'):∀ {l:List SV}{Ts:List Ty}{cs:List Value},SV.okAtL n l=true→CRepL X (SV.instL n0 sg l) Ts cs→CRepL X' l Ts cs
 | [],[],cs,_,h=>by simpa only [SV.instL,CRepL] using h
 | s::l,T::Ts,cs,ho,h=>by
  simp only [SV.instL,CRepL] at h ⊢
  simp only [SV.okAtL,wD0] at ho
  obtain ⟨c1,c2,e,h0,h1,h2⟩:=h
  exact ⟨c1,c2,e,SV.inst_hasTy h0,Tr.crep t ho.1 h1,Tr.crepL t ho.2 h2⟩
 | [],_::_,_,_,h=>by simp only [SV.instL,CRepL] at h
 | _::_,[],_,_,h=>by simp only [SV.instL,CRepL] at h
theorem Tr.vrep (t:Tr n n0 sg X X'):∀ {s:SV}{v:Value},s.okAt n=true→VRep X (s.inst n0 sg) v→VRep X' s v
 | .un _,v,_,h=>by simp only [VRep]
 | .cv v',v,_,h=>by simpa only [SV.inst,VRep] using h
 | .d T a,v,ho,h=>by
  simp only [SV.okAt] at ho
  simp only [SV.inst] at h
  obtain ⟨d,h1,h2⟩:=VRep.data.1 h
  exact VRep.data.2 ⟨d,by rw [← t.at_ a ho];exact h1,h2.keep t.K⟩
 | .ag T l,v,ho,h=>by
  simp only [SV.okAt] at ho
  cases T<;>simp only [SV.inst,VRep] at h ⊢
  obtain ⟨cs,h1,h2⟩:=h
  exact ⟨cs,h1,Tr.crepL t ho h2⟩
 | .fn f us caps,v,ho,h=>by
  simp only [SV.inst,VRep] at h ⊢
  simp only [SV.okAt,wD0] at ho
  obtain ⟨us,vs,h1,h2,h3⟩:=h
  exact ⟨us,vs,h1,Tr.vrepL t ho.1 h2,Tr.vrepL t ho.2 h3⟩
 | .tu l,v,ho,h=>by
  simp only [SV.inst,VRep] at h ⊢
  simp only [SV.okAt] at ho
  obtain ⟨vs,h1,h2⟩:=h
  exact ⟨vs,h1,Tr.vrepL t ho h2⟩
 | .h e r vw,cs,ho,h=>by simp only [SV.inst,VRep] at h ⊢;exact t.ref ho h
 | .hc e r i,cs,ho,h=>by simp only [SV.inst,VRep] at h ⊢;exact t.ref ho h
 | .mr K V r,cs,ho,h=>by simp only [SV.inst,VRep] at h ⊢;exact t.ref ho h
 | .z e a,cs,ho,h=>by simp only [SV.inst,VRep] at h ⊢;exact t.ref ho h
 | .p R T r q,cs,ho,h=>by simp only [SV.inst,VRep] at h ⊢;exact t.ref ho h
 | .pd T a,cs,ho,h=>by simp only [SV.inst,VRep] at h ⊢;exact t.ref ho h
 | .hb R e n r q,cs,ho,h=>by simp only [SV.inst,VRep] at h ⊢;exact t.ref ho h
 | .hr e r i g,cs,ho,h=>by simp only [SV.inst,VRep] at h ⊢;exact t.ref ho h
 | .pm e T r i q g,cs,ho,h=>by simp only [SV.inst,VRep] at h ⊢;exact t.ref ho h
theorem Tr.vrepL (t:Tr n n0 sg X X'):∀ {l:List SV}{vs:List Value},SV.okAtL n l=true→VRepL X (SV.instL n0 sg l) vs→VRepL X' l vs
 | [],vs,_,h=>by simpa only [SV.instL,VRepL] using h
 | s::l,vs,ho,h=>by
  simp only [SV.instL,VRepL] at h ⊢
  simp only [SV.okAtL,wD0] at ho
  obtain ⟨v,r,e,h1,h2⟩:=h
  exact ⟨v,r,e,Tr.vrep t ho.1 h1,Tr.vrepL t ho.2 h2⟩
end
theorem Tr.row (t:Tr n n0 sg X X') {r:Nat}{e:Ty}{a:At}{z:Prop}(ho:a.okAt n=true) (h:RowRep X r e (a.inst n0 sg) z):RowRep X' r e a z:=by
 obtain ⟨d,h1,h2⟩:=h
 refine ⟨d,by rw [← t.at_ a ho];exact h1,?_⟩
 rw [t.β,t.w]
 rcases h2 with h2|⟨b,c,te,fr,l,xs,p1,p2,p3,p4,p5,p6⟩
 ·exact .inl h2
 ·have K:=t.K
  rw [t.w] at K
  exact .inr ⟨b,c,te,fr,l,xs,p1,p2,p3,p4,p5.keep K,p6⟩
theorem Tr.mem {B0:Nat}(t:Tr n n0 sg X X') (m:Mem B0 X):Mem B0 X' where
 rep:=fun r hA'=>by
  have hA:=(t.A r).1 hA'
  have h:=m.rep r hA
  have ho:=t.ok r hA
  rw [t.μ r hA] at h
  cases hR:X'.μ r with
  | dead=>trivial
  | box T v =>
   rw [hR] at h ho
   obtain ⟨b,c,te,h1,h2,h3,h4⟩:=h
   exact ⟨b,c,te,by rw [t.β];exact h1,by rw [t.w];exact h2,SV.inst_hasTy h3,t.crep ho h4⟩
  | row e a=>rw [hR] at h ho;exact t.row ho h
  | fz e a =>
   rw [hR] at h ho
   exact ⟨t.row ho h.1,fun b hb hM=>h.2 b (by rw [t.β] at hb;exact hb) ((t.M b).1 hM)⟩
  | lt e a q=>rw [hR] at h ho;exact t.row ho h
  | ow e a ix r2 =>
   rw [hR] at h ho
   obtain ⟨l,b,c,te,xs,k,i,v2,h1,h2,h3,h4,h5,h6,h7,h8⟩:=h
   have ho':a.okAt n=true∧ix.okAt n=true:=by simpa only [Root.okAt,wD0] using ho
   have K:=t.K
   rw [t.w] at K
   have hv:VRep X' (.h e r2 none) v2:=t.vrep (s:=.h e r2 none) rfl (by simp only [SV.inst,VRep];exact h8)
   simp only [VRep] at hv
   exact ⟨l,b,c,te,xs,k,i,v2,by rw [← t.at_ a ho'.1];exact h1,by rw [t.β];exact h2,by rw [t.w];exact h3,by rw [t.w];exact h4.keep K,by rw [← t.at_ ix ho'.2];exact h5,h6,h7,hv⟩
  | bo e a =>
   rw [hR] at h ho
   refine ⟨t.row ho h.1,fun b hb=>?_⟩
   rcases h.2 b (by rw [t.β] at hb;exact hb) with hn|⟨q,e',a',q1,q2,q3⟩
   ·exact .inl fun hM=>hn ((t.M b).1 hM)
   ·rw [t.μ q q1] at q2
    cases hq:X'.μ q<;>rw [hq] at q2<;>simp only [Root.inst,Root.lt.injEq,reduceCtorEq] at q2
    obtain ⟨_,_,q4⟩:=q2
    subst q4
    exact .inr ⟨q,_,_,(t.A q).2 q1,hq,by rw [t.β];exact q3⟩
  | mat e a g =>
   rw [hR] at h ho
   obtain ⟨d,h1,h2⟩:=h
   refine ⟨d,by rw [← t.at_ a ho];exact h1,?_⟩
   have K:=t.K
   rw [t.w] at K
   rw [t.β,t.w]
   rcases h2 with h2|⟨b,c,te,l,xs,p1,p2,p3,p4,p5⟩
   ·exact .inl h2
   ·exact .inr ⟨b,c,te,l,xs,p1,p2,p3,p4.keep K (fun _ _=>rfl),p5⟩
  | mp kt vt a =>
   rw [hR] at h ho
   obtain ⟨l,b,es,clk,h1,h2,h3,h4⟩:=h
   have K:=t.K
   rw [t.w] at K
   exact ⟨l,b,es,clk,by rw [← t.at_ a ho];exact h1,by rw [t.β];exact h2,by rw [t.w];exact h3,by rw [t.w];exact h4.keep K⟩
 apart:=fun r r' b h1 h2 h3 h4=>m.apart r r' b ((t.A r).1 h1) ((t.A r').1 h2) (by rw [t.μ r ((t.A r).1 h1),Root.inst_own,← t.β];exact h3) (by rw [t.μ r' ((t.A r').1 h2),Root.inst_own,← t.β];exact h4)
 once:=fun r h1=>by
  have:=m.once r ((t.A r).1 h1)
  rw [t.μ r ((t.A r).1 h1),Root.inst_own,← t.β] at this
  exact this
 low:=fun r b h1 h2=>m.low r b ((t.A r).1 h1) (by rw [t.μ r ((t.A r).1 h1),Root.inst_own,← t.β];exact h2)
 frame:=fun b h=>m.frame b (t.F▸h)
theorem Tr.ext {Xe:Ctx}(t:Tr n n0 sg X X') (x:Ext Xe X) (hE:∀ (i:Nat) (d:D),Xe.E[i]?=some d→X'.E[i]?=some d):Ext Xe X' where
 E:=hE
 K:=x.K.trans t.K
 A:=fun r h=>(t.A r).2 (x.A r h)
 F:=t.F.trans x.F
 β:=fun r h=>⟨fun ht=>(x.β r h).1 (by rw [t.μ r (x.A r h),Root.inst_there];exact ht),by rw [t.β];exact (x.β r h).2⟩
 row:=fun r e a d h ht hr hd=>by
  obtain ⟨a',d',r1,r2,r3⟩:=x.row r e a d h (by rw [t.μ r (x.A r h),Root.inst_there];exact ht) hr hd
  rw [t.μ r (x.A r h)] at r1
  obtain ⟨a'',q1,q2⟩:=Root.inst_row r1
  subst q2
  exact ⟨a'',d',q1,by rw [← t.at_ a'' (Root.row_ok q1 (t.ok r (x.A r h)))];exact r2,r3⟩
 mat:=fun r e a' g h hm=>by
  have hμ:=t.μ r (x.A r h)
  have hok:=t.ok r (x.A r h)
  rw [hm] at hμ hok
  simp only [Root.inst] at hμ
  simp only [Root.okAt] at hok
  obtain ⟨a,g0,r1,q⟩:=x.mat r e _ g h hμ
  refine ⟨a,g0,r1,fun eg=>?_⟩
  obtain ⟨q1,q2,q3⟩:=q eg
  rw [t.β,t.w]
  exact ⟨q1,q2,fun d hd=>by rw [← t.at_ a' hok];exact q3 d hd⟩
 gen:=fun r e a g e' a' g' h h1 h2=>by
  have hμ:=t.μ r (x.A r h)
  rw [h2] at hμ
  simp only [Root.inst] at hμ
  exact x.gen r e a g e' _ g' h h1 hμ
 size:=fun r b k h ht hb hk=>by
  rw [t.w]
  exact x.size r b k h (by rw [t.μ r (x.A r h),Root.inst_there];exact ht) hb hk
end
theorem At.inst_nil {n:Nat}{a:At}(h:a.okAt n=true):a.inst n []=a:=by
 cases a with
 | c d=>rfl
 | v i =>
  simp only [At.okAt,Nat.blt_eq] at h
  simp only [At.inst]
  rw [if_neg (by simp only [Nat.ble_eq];omega)]
theorem zb7 {n:Nat}:∀ {q:List Stp},zcr n q=true→q.map (Stp.inst n [])=q
 | [],_=>rfl
 | .f j::q,h=>by
  simp only [zcr,Stp.okAt,Bool.true_and] at h
  simp only [List.map_cons,Stp.inst,zb7 h]
 | .i a::q,h=>by
  simp only [zcr,Stp.okAt,wD0] at h
  simp only [List.map_cons,Stp.inst,At.inst_nil h.1,zb7 h.2]
mutual
theorem SV.inst_nil {n:Nat}:∀ {s:SV},s.okAt n=true→s.inst n []=s
 | .un _,_=>rfl
 | .cv _,_=>rfl
 | .d T a,ho=>by simp only [SV.okAt] at ho;simp only [SV.inst,At.inst_nil ho]
 | .pd T a,ho=>by simp only [SV.okAt] at ho;simp only [SV.inst,At.inst_nil ho]
 | .z e a,ho=>by simp only [SV.okAt] at ho;simp only [SV.inst,At.inst_nil ho]
 | .hc e r a,ho=>by simp only [SV.okAt] at ho;simp only [SV.inst,At.inst_nil ho]
 | .mr _ _ _,_=>rfl
 | .h e r none,_=>rfl
 | .h e r (some (a,b)),ho=>by
  simp only [SV.okAt,znM,wD0] at ho
  simp only [SV.inst,zrF,At.inst_nil ho.1,At.inst_nil ho.2]
 | .p R T r q,ho=>by simp only [SV.okAt] at ho;simp only [SV.inst,zb7 ho]
 | .hb R e k r q,ho=>by simp only [SV.okAt] at ho;simp only [SV.inst,zb7 ho]
 | .hr e r i g,ho=>by simp only [SV.okAt] at ho;simp only [SV.inst,At.inst_nil ho]
 | .pm e T r i q g,ho=>by
  simp only [SV.okAt,wD0] at ho
  simp only [SV.inst,At.inst_nil ho.1,zb7 ho.2]
 | .ag T l,ho=>by simp only [SV.okAt] at ho;simp only [SV.inst,SV.instL_nil ho]
 | .tu l,ho=>by simp only [SV.okAt] at ho;simp only [SV.inst,SV.instL_nil ho]
 | .fn f a l,ho=>by
  simp only [SV.okAt,wD0] at ho
  simp only [SV.inst,SV.instL_nil ho.1,SV.instL_nil ho.2]
theorem SV.instL_nil {n:Nat}:∀ {l:List SV},SV.okAtL n l=true→SV.instL n [] l=l
 | [],_=>rfl
 | s::l,ho=>by
  simp only [SV.okAtL,wD0] at ho
  simp only [SV.instL,SV.inst_nil ho.1,SV.instL_nil ho.2]
end
theorem Root.inst_nil {n:Nat}{R:Root}(h:R.okAt n=true):R.inst n []=R:=by
 cases R<;>simp only [Root.okAt,wD0] at h<;>simp only [Root.inst,At.inst_nil,SV.inst_nil,h]
theorem zbq {n:Nat}:∀ {l:List Root}{r:Nat},zdW n l=true→(zac l r).okAt n=true
 | [],r,_=>by simp [zac,Root.okAt]
 | R::l,0,h=>by simp only [zdW,wD0] at h;exact h.1
 | R::l,r + 1,h=>by
  simp only [zdW,wD0] at h
  exact zbq (l:=l) (r:=r) h.2
end Go.SX
namespace Go.SX
open Go.RowKit (Below)
theorem zfv:∀ {q q':List Stp},zeW q q'=true→q=q'
 | [],[],_=>rfl
 | a::l,b::l',h=>by
  simp only [zeW,wD0] at h
  have h1:a=b:=by
   cases a<;>cases b<;>simp only [Stp.beq,wA0] at h
   ·rw [zad h.1]
   ·exact h.1.elim
   ·exact h.1.elim
   ·rw [At.beq_eq h.1]
  rw [h1,zfv h.2]
 | [],_::_,h=>by simp [zeW] at h
 | _::_,[],h=>by simp [zeW] at h
theorem ztK:∀ {a b:Option (At×At)},zsz a b=true→a=b
 | none,none,_=>rfl
 | some (a,b),some (c,d),h=>by
  simp only [zsz,wD0] at h
  rw [At.beq_eq h.1,At.beq_eq h.2]
 | none,some _,h=>by simp [zsz] at h
 | some _,none,h=>by simp [zsz] at h
theorem zsx {a b:Value}(h:zsu a b=true):a=b:=by
 unfold zsu at h
 split at h<;>simp_all
section
variable {X:Ctx}
mutual
theorem CRep.csize:∀ {s:SV}{cs:List Value},CRep X s cs→cs.length=s.csize
 | .un n,cs,h=>by simp only [CRep] at h;exact h.1
 | .cv v,cs,h=>by
  simp only [CRep] at h
  rw [h.1,SV.csize,h.2.cells]
  rfl
 | .d T' a,cs,h=>by simp only [CRep] at h;obtain ⟨d,_,h⟩:=h;exact h.length
 | .ag T' l,cs,h=>by
  cases T'<;>simp only [CRep] at h
  simp only [SV.csize]
  exact CRepL.csize h
 | .fn _ _ _,cs,h=>by simp only [CRep] at h;obtain ⟨us,vs,h,_⟩:=h;simp [h,SV.csize]
 | .tu _,cs,h=>by simp only [CRep] at h
 | .h _ _ _,cs,h=>by simp only [CRep] at h;obtain ⟨v,h,_⟩:=h;simp [h,SV.csize]
 | .hc _ _ _,cs,h=>by simp only [CRep] at h;obtain ⟨v,h,_⟩:=h;simp [h,SV.csize]
 | .mr _ _ _,cs,h=>by simp only [CRep] at h;obtain ⟨v,h,_⟩:=h;simp [h,SV.csize]
 | .z _ _,cs,h=>by simp only [CRep] at h;obtain ⟨v,h,_⟩:=h;simp [h,SV.csize]
 | .hb _ _ _ _ _,cs,h=>by simp only [CRep] at h;obtain ⟨v,h,_⟩:=h;simp [h,SV.csize]
 | .hr _ _ _ _,cs,h=>by simp only [CRep] at h;obtain ⟨v,h,_⟩:=h;simp [h,SV.csize]
 | .p _ _ _ _,cs,h=>by simp only [CRep] at h;obtain ⟨v,h,_⟩:=h;simp [h,SV.csize]
 | .pm _ _ _ _ _ _,cs,h=>by simp only [CRep] at h;obtain ⟨v,h,_⟩:=h;simp [h,SV.csize]
 | .pd _ _,cs,h=>by simp only [CRep] at h;obtain ⟨v,h,_⟩:=h;simp [h,SV.csize]
theorem CRepL.csize:∀ {l:List SV}{Ts:List Ty}{cs:List Value},CRepL X l Ts cs→cs.length=SV.csizeL l
 | [],[],cs,h=>by simp only [CRepL] at h;simp [h,SV.csizeL]
 | s::l,T::Ts,cs,h=>by
  simp only [CRepL] at h
  obtain ⟨c1,c2,e,ht,h1,h2⟩:=h
  simp [e,SV.csizeL,CRep.csize h1,CRepL.csize h2]
 | [],_::_,_,h=>by simp only [CRepL] at h
 | _::_,[],_,h=>by simp only [CRepL] at h
end
theorem zcv {a b:SV}(hle:a.le b=true):(∃ n,b=.un n∧a.csize=n)∨(∃ T l l',a=.ag T l∧b=.ag T l'∧SV.leL l l'=true)∨(∃ l l',a=.tu l∧b=.tu l'∧SV.leL l l'=true) ∨
  (∃ f u u' l l',a=.fn f u l∧b=.fn f u' l'∧SV.leL u u'=true∧SV.leL l l'=true)∨a=b:=by
 cases b with
 | un n=>exact .inl ⟨n,rfl,zad (by cases a<;>exact hle)⟩
 | cv v=>cases a<;>simp only [SV.le,wA0] at hle;exact .inr (.inr (.inr (.inr (by rw [zsx hle]))))
 | d T x=>cases a<;>simp only [SV.le,wA0,wD0] at hle;exact .inr (.inr (.inr (.inr (by rw [Ty.beq_eq hle.1,At.beq_eq hle.2]))))
 | ag T l =>
  cases a<;>simp only [SV.le,wA0,wD0] at hle
  exact .inr (.inl ⟨_,_,_,by rw [Ty.beq_eq hle.1],rfl,hle.2⟩)
 | h e r vw=>cases a<;>simp only [SV.le,wA0,wD0] at hle;exact .inr (.inr (.inr (.inr (by rw [Ty.beq_eq hle.1.1,zad hle.1.2,ztK hle.2]))))
 | mr K V r=>cases a<;>simp only [SV.le,wA0,wD0] at hle;exact .inr (.inr (.inr (.inr (by rw [Ty.beq_eq hle.1.1,Ty.beq_eq hle.1.2,zad hle.2]))))
 | z e x=>cases a<;>simp only [SV.le,wA0,wD0] at hle;exact .inr (.inr (.inr (.inr (by rw [Ty.beq_eq hle.1,At.beq_eq hle.2]))))
 | p R T r q=>cases a<;>simp only [SV.le,wA0,wD0] at hle;exact .inr (.inr (.inr (.inr (by rw [Ty.beq_eq hle.1.1.1,Ty.beq_eq hle.1.1.2,zad hle.1.2,zfv hle.2]))))
 | pd T x=>cases a<;>simp only [SV.le,wA0,wD0] at hle;exact .inr (.inr (.inr (.inr (by rw [Ty.beq_eq hle.1,At.beq_eq hle.2]))))
 | hb R e n r q=>cases a<;>simp only [SV.le,wA0,wD0] at hle;exact .inr (.inr (.inr (.inr (by rw [Ty.beq_eq hle.1.1.1.1,Ty.beq_eq hle.1.1.1.2,zad hle.1.1.2,zad hle.1.2,zfv hle.2]))))
 | hr e r i g=>cases a<;>simp only [SV.le,wA0,wD0] at hle;exact .inr (.inr (.inr (.inr (by rw [Ty.beq_eq hle.1.1.1,zad hle.1.1.2,At.beq_eq hle.1.2,zad hle.2]))))
 | hc e r i=>cases a<;>simp only [SV.le,wA0,wD0] at hle;exact .inr (.inr (.inr (.inr (by rw [Ty.beq_eq hle.1.1,zad hle.1.2,At.beq_eq hle.2]))))
 | pm e T r i q g=>cases a<;>simp only [SV.le,wA0,wD0] at hle;exact .inr (.inr (.inr (.inr (by rw [Ty.beq_eq hle.1.1.1.1.1,Ty.beq_eq hle.1.1.1.1.2,zad hle.1.1.1.2,At.beq_eq hle.1.1.2,zfv hle.1.2,zad hle.2]))))
 | fn f u l =>
  cases a<;>simp only [SV.le,wA0,wD0] at hle
  exact .inr (.inr (.inr (.inl ⟨f,_,_,_,_,by rw [zad hle.1.1],rfl,hle.1.2,hle.2⟩)))
 | tu l =>
  cases a<;>simp only [SV.le,wA0] at hle
  exact .inr (.inr (.inl ⟨_,_,rfl,rfl,hle⟩))
theorem zpH {a b:SV}{T:Ty}{cs:List Value}(hle:a.le b=true) (ht:a.hasTy T) (hc:CRep X a cs):b.hasTy T:=by
 rcases zcv hle with ⟨n,e,h⟩|⟨T',l,l',e1,e2,_⟩|⟨l,l',e1,e2,_⟩|⟨f,u,u',l,l',e1,e2,_⟩|e
 ·subst e
  simp only [SV.hasTy]
  rw [← h,← CRep.csize hc,CRep.length ht hc]
 ·subst e1 e2;exact ht
 ·subst e1 e2;exact ht
 ·subst e1 e2;exact ht
 ·subst e;exact ht
mutual
theorem zsW:∀ {b a:SV}{cs:List Value},a.le b=true→CRep X a cs→CRep X b cs
 | b,a,cs,hle,hc=>by
  cases hb:b with
  | ag T' l' =>
   subst hb
   rcases zcv hle with ⟨n,e,h⟩|⟨T,l,l1,e1,e2,h⟩|⟨l,l1,e1,e2,_⟩|⟨f,u,u',l,l1,e1,e2,_⟩|e
   ·cases e
   ·injection e2 with e2 e3
    subst e1 e2 e3
    cases T'<;>simp only [CRep] at hc ⊢
    exact zmx h hc
   ·cases e2
   ·cases e2
   ·subst e;exact hc
  | fn f' u' l' =>
   subst hb
   rcases zcv hle with ⟨n,e,h⟩|⟨T,l,l1,e1,e2,h⟩|⟨l,l1,e1,e2,_⟩|⟨f,u,u1,l,l1,e1,e2,h1,h2⟩|e
   ·cases e
   ·cases e2
   ·cases e2
   ·injection e2 with e2 e3 e4
    subst e1 e2 e3 e4
    simp only [CRep] at hc ⊢
    obtain ⟨us,vs,g1,g2,g3⟩:=hc
    exact ⟨us,vs,g1,zfG h1 g2,zfG h2 g3⟩
   ·subst e;exact hc
  | un n =>
   subst hb
   rcases zcv hle with ⟨n',e,h⟩|⟨T,l,l1,e1,e2,h⟩|⟨l,l1,e1,e2,_⟩|⟨f,u,u1,l,l1,e1,e2,h1,h2⟩|e
   ·injection e with e
    subst e
    simp only [CRep]
    exact ⟨by rw [CRep.csize hc,h],CRep.ones hc⟩
   ·cases e2
   ·cases e2
   ·cases e2
   ·subst e;exact hc
  | tu l' =>
   subst hb
   rcases zcv hle with ⟨n',e,h⟩|⟨T,l,l1,e1,e2,h⟩|⟨l,l1,e1,e2,_⟩|⟨f,u,u1,l,l1,e1,e2,h1,h2⟩|e
   ·cases e
   ·cases e2
   ·subst e1;simp only [CRep] at hc
   ·cases e2
   ·subst e;exact hc
  | _ =>
   subst hb
   rcases zcv hle with ⟨n',e,h⟩|⟨T,l,l1,e1,e2,h⟩|⟨l,l1,e1,e2,_⟩|⟨f,u,u1,l,l1,e1,e2,h1,h2⟩|e
   ·cases e
   ·cases e2
   ·cases e2
   ·cases e2
   ·subst e;exact hc
theorem zmx:∀ {l' l:List SV}{Ts:List Ty}{cs:List Value},SV.leL l l'=true→CRepL X l Ts cs→CRepL X l' Ts cs
 | [],[],_,cs,_,h=>h
 | b::l',a::l,T::Ts,cs,hle,h=>by
  simp only [SV.leL,wD0] at hle
  simp only [CRepL] at h ⊢
  obtain ⟨c1,c2,e,h0,h1,h2⟩:=h
  exact ⟨c1,c2,e,zpH hle.1 h0 h1,zsW hle.1 h1,zmx hle.2 h2⟩
 | _::_,[],_,_,h,_=>by simp [SV.leL] at h
 | [],_::_,_,_,h,_=>by simp [SV.leL] at h
 | _::_,_::_,[],_,_,h=>by simp only [CRepL] at h
theorem zsa:∀ {b a:SV}{v:Value},a.le b=true→VRep X a v→VRep X b v
 | b,a,v,hle,hv=>by
  cases hb:b with
  | ag T' l' =>
   subst hb
   rcases zcv hle with ⟨n,e,h⟩|⟨T,l,l1,e1,e2,h⟩|⟨l,l1,e1,e2,_⟩|⟨f,u,u',l,l1,e1,e2,_⟩|e
   ·cases e
   ·injection e2 with e2 e3
    subst e1 e2 e3
    cases T'<;>simp only [VRep] at hv ⊢
    obtain ⟨cs,h1,h2⟩:=hv
    exact ⟨cs,h1,zmx h h2⟩
   ·cases e2
   ·cases e2
   ·subst e;exact hv
  | fn f' u' l' =>
   subst hb
   rcases zcv hle with ⟨n,e,h⟩|⟨T,l,l1,e1,e2,h⟩|⟨l,l1,e1,e2,_⟩|⟨f,u,u1,l,l1,e1,e2,h1,h2⟩|e
   ·cases e
   ·cases e2
   ·cases e2
   ·injection e2 with e2 e3 e4
    subst e1 e2 e3 e4
    simp only [VRep] at hv ⊢
    obtain ⟨us,vs,g1,g2,g3⟩:=hv
    exact ⟨us,vs,g1,zfG h1 g2,zfG h2 g3⟩
   ·subst e;exact hv
  | tu l' =>
   subst hb
   rcases zcv hle with ⟨n',e,h⟩|⟨T,l,l1,e1,e2,h⟩|⟨l,l1,e1,e2,h⟩|⟨f,u,u1,l,l1,e1,e2,h1,h2⟩|e
   ·cases e
   ·cases e2
   ·injection e2 with e2
    subst e1 e2
    simp only [VRep] at hv ⊢
    obtain ⟨vs,g1,g2⟩:=hv
    exact ⟨vs,g1,zfG h g2⟩
   ·cases e2
   ·subst e;exact hv
  | un n=>simp only [VRep]
  | _ =>
   subst hb
   rcases zcv hle with ⟨n',e,h⟩|⟨T,l,l1,e1,e2,h⟩|⟨l,l1,e1,e2,_⟩|⟨f,u,u1,l,l1,e1,e2,h1,h2⟩|e
   ·cases e
   ·cases e2
   ·cases e2
   ·cases e2
   ·subst e;exact hv
theorem zfG:∀ {l' l:List SV}{vs:List Value},SV.leL l l'=true→VRepL X l vs→VRepL X l' vs
 | [],[],_,_,h=>h
 | b::l',a::l,vs,hle,h=>by
  simp only [SV.leL,wD0] at hle
  simp only [VRepL] at h ⊢
  obtain ⟨v,r,e,h1,h2⟩:=h
  exact ⟨v,r,e,zsa hle.1 h1,zfG hle.2 h2⟩
 | _::_,[],_,h,_=>by simp [SV.leL] at h
 | [],_::_,_,h,_=>by simp [SV.leL] at h
end
theorem zo3 {a b:SV}{v:Value}(hle:a.leSlot b=true) (hv:VRep X a v):VRep X b v:=by
 cases b with
 | un n=>simp only [VRep]
 | _=>exact zsa hle hv
variable {B0:Nat}
theorem Mem.rebox (m:Mem B0 X) (hB:B0≤X.w.heap.size) {r:Nat}{T:Ty}{v v':SV}(hA:X.A r) (hR:X.μ r=.box T v) (hle:v.le v'=true):Ext X { X with μ:=upd X.μ r (.box T v') }∧Mem B0 { X with μ:=upd X.μ r (.box T v') }:=by
 refine Mem.change m hB (fun q=>q=r) (fun _ _ h=>h) (fun _ h=>h) (fun q h=>.inl h) (fun q hq=>⟨upd_ne _ _ hq,rfl⟩) (fun _ _ _=>rfl) (fun _ _ h=>h) ?_ ?_ ?_ (fun _ _ _=>rfl) ?_ ?_
 ·intro q b hq _ hb
  subst hq
  simp only [upd_same] at hb
  exact .inr ⟨q,rfl,hA,by rw [hR];exact hb⟩
 ·intro q q' b hq hq' _ _ _ _
  rw [hq,hq']
 ·intro q hq _
  subst hq
  have:=m.once q hA
  rw [hR] at this
  simp only [upd_same]
  exact this
 ·intro q hq _ _
  subst hq
  refine ⟨by rw [hR];rfl,fun e1 a1 d1 hr hd=>?_,fun e1 a1 g1 hr=>?_⟩
  ·rw [hR] at hr
   cases hr
  ·simp only [upd_same] at hr
   cases hr
 ·intro x q hq _
  subst hq
  simp only [upd_same]
  have hrep:=m.rep q hA
  rw [hR] at hrep
  obtain ⟨b,c,te,h1,h2,h3,h4⟩:=hrep
  exact ⟨b,c,te,h1,h2,zpH hle h3 h4,CRep.ext x (zsW hle h4)⟩
theorem Mem.same_root (m:Mem B0 X) {r:Nat}:Ext X { X with μ:=upd X.μ r (X.μ r) }∧Mem B0 { X with μ:=upd X.μ r (X.μ r) }:=by
 have:upd X.μ r (X.μ r)=X.μ:=by
  funext q
  by_cases h:q=r
  ·subst h;rw [upd_same]
  ·rw [upd_ne _ _ h]
 rw [this]
 exact ⟨Ext.refl X,m⟩
theorem Mem.weaken (m:Mem B0 X) (hB:B0≤X.w.heap.size) {r:Nat}{R:Root}(hA:X.A r) (hle:(X.μ r).le R=true):Ext X { X with μ:=upd X.μ r R }∧Mem B0 { X with μ:=upd X.μ r R }:=by
 cases hk:X.μ r with
 | dead =>
  rw [hk] at hle
  cases R<;>simp only [Root.le,wA0] at hle
  exact m.kill hB r (by rw [hk];rfl)
 | box T v =>
  rw [hk] at hle
  cases R with
  | dead=>exact m.kill hB r (by rw [hk];rfl)
  | box T' v' =>
   simp only [Root.le,wD0] at hle
   have:=Ty.beq_eq hle.1
   subst this
   exact m.rebox hB hA hk hle.2
  | _=>simp only [Root.le,wA0] at hle
 | row e a =>
  rw [hk] at hle
  cases R with
  | dead=>exact m.kill hB r (by rw [hk];rfl)
  | row e' a' =>
   simp only [Root.le,wD0] at hle
   have h1:=Ty.beq_eq hle.1
   have h2:=At.beq_eq hle.2
   subst h1 h2
   exact m.lower hB hA (.inl hk) (.inr rfl)
  | fz e' a' =>
   simp only [Root.le,wD0] at hle
   have h1:=Ty.beq_eq hle.1
   have h2:=At.beq_eq hle.2
   subst h1 h2
   exact m.lower hB hA (.inl hk) (.inl rfl)
  | _=>simp only [Root.le,wA0] at hle
 | mat e a g =>
  rw [hk] at hle
  cases R with
  | dead=>exact m.kill hB r (by rw [hk];rfl)
  | row e' a' =>
   simp only [Root.le,wD0] at hle
   have h1:=Ty.beq_eq hle.1
   have h2:=At.beq_eq hle.2
   subst h1 h2
   exact m.lower hB hA (.inr ⟨e,g,rfl,hk⟩) (.inr rfl)
  | fz e' a' =>
   simp only [Root.le,wD0] at hle
   have h1:=Ty.beq_eq hle.1
   have h2:=At.beq_eq hle.2
   subst h1 h2
   exact m.lower hB hA (.inr ⟨e,g,rfl,hk⟩) (.inl rfl)
  | mat e' a' g' =>
   simp only [Root.le,wD0] at hle
   have h1:=Ty.beq_eq hle.1.1
   have h2:=At.beq_eq hle.1.2
   have h3:=zad hle.2
   subst h1 h2 h3
   rw [← hk]
   exact m.same_root
  | _=>simp only [Root.le,wA0] at hle
 | mp K V a =>
  rw [hk] at hle
  cases R with
  | dead=>exact m.kill hB r (by rw [hk];rfl)
  | mp K' V' a' =>
   simp only [Root.le,wD0] at hle
   have h1:=Ty.beq_eq hle.1.1
   have h2:=Ty.beq_eq hle.1.2
   have h3:=At.beq_eq hle.2
   subst h1 h2 h3
   rw [← hk]
   exact m.same_root
  | _=>simp only [Root.le,wA0] at hle
 | fz e a =>
  rw [hk] at hle
  cases R with
  | dead=>exact m.kill hB r (by rw [hk];rfl)
  | fz e' a' =>
   simp only [Root.le,wD0] at hle
   have h1:=Ty.beq_eq hle.1
   have h2:=At.beq_eq hle.2
   subst h1 h2
   rw [← hk]
   exact m.same_root
  | _=>simp only [Root.le,wA0] at hle
 | lt e a q =>
  rw [hk] at hle
  cases R<;>simp only [Root.le,wA0] at hle
 | ow e a ix q =>
  rw [hk] at hle
  cases R with
  | dead=>exact m.kill hB r (by rw [hk];rfl)
  | _=>simp only [Root.le,wA0] at hle
 | bo e a =>
  rw [hk] at hle
  cases R with
  | dead=>exact m.kill hB r (by rw [hk];rfl)
  | _=>simp only [Root.le,wA0] at hle
theorem Mem.outside (m:Mem B0 X) {μ':Nat→Root}(h:∀ r,X.A r→μ' r=X.μ r):Ext X { X with μ:=μ' }∧Mem B0 { X with μ:=μ' }:=by
 have hM:∀ b,Ctx.M { X with μ:=μ' } b→X.M b:=fun b hb=>by
  rcases hb with hb|⟨r,h1,h2⟩
  ·exact .inl hb
  ·exact .inr ⟨r,h1,by rw [← h r h1];exact h2⟩
 have x:Ext X { X with μ:=μ' } :=
  {E:=fun _ _ h=>h
   K:=⟨fun _ _ _=>rfl,fun _ _ h h'=>h (hM _ h')⟩
   F:=rfl
   A:=fun _ h=>h
   β:=fun r hA=>⟨fun ht=>by rw [← h r hA];exact ht,rfl⟩
   row:=fun r e a d hA _ hr hd=>⟨a,d,by show (μ' r).row?=_;rw [h r hA];exact hr,hd,sameLen.refl d⟩
   mat:=fun r e a g hA hr=>⟨a,g,by rw [← h r hA];exact hr,fun _=>⟨rfl,fun _ _ _ h=>h,fun d hd=>⟨d,hd,sameRows.refl d⟩⟩⟩
   gen:=fun r e a g e' a' g' hA h1 h2=>by
    have h2':μ' r=.mat e' a' g':=h2
    rw [h r hA,h1] at h2'
    injection h2' with _ _ e
    omega
   size:=fun _ _ _ _ _ _ h=>h }
 refine ⟨x,Mem.of x m (fun r hA=>.inl ⟨hA,h r hA,rfl,fun _ _=>rfl,fun e a b hr hb=>⟨rfl,fun hM'=>?_⟩,fun e a b hr hb=>⟨rfl,?_⟩⟩) (fun r r' b h1 h2 h3 h4=>m.apart r r' b h1 h2 (by rw [← h r h1];exact h3) (by rw [← h r' h2];exact h4)) (fun r h1=>?_) (fun r b h1 h2=>m.low r b h1 (by rw [← h r h1];exact h2))⟩
 ·have:=m.rep r hA
  rw [hr] at this
  exact this.2 b hb (hM _ hM')
 ·have:=m.rep r hA
  rw [hr] at this
  rcases this.2 b hb with hn|⟨q,e',a',q1,q2,q3⟩
  ·exact .inl fun hM'=>hn (hM _ hM')
  ·exact .inr ⟨q,e',a',q1,(h q q1).trans q2,q3⟩
 ·have:=m.once r h1
  show ((μ' r).own _).Nodup
  rw [h r h1]
  exact this
theorem Mem.weakenAll (m:Mem B0 X) (hB:B0≤X.w.heap.size) {μ':Nat→Root}{N:Nat}(hN:∀ r,X.A r→r<N) (hle:∀ r,X.A r→μ' r=X.μ r∨(X.μ r).le (μ' r)=true):Ext X { X with μ:=μ' }∧Mem B0 { X with μ:=μ' }:=by
 have main:∀ n,Ext X { X with μ:=fun r=>if r<n then (if X.w.heap.size=X.w.heap.size then (match (Classical.propDecidable (X.A r)) with|.isTrue _=>μ' r|.isFalse _=>X.μ r) else X.μ r) else X.μ r }∧Mem B0 { X with μ:=fun r=>if r<n then (if X.w.heap.size=X.w.heap.size then (match (Classical.propDecidable (X.A r)) with|.isTrue _=>μ' r|.isFalse _=>X.μ r) else X.μ r) else X.μ r }:=by
  intro n
  induction n with
  | zero =>
   simp only [Nat.not_lt_zero,if_false]
   exact ⟨Ext.refl X,m⟩
  | succ n ih =>
   generalize hμ1:(fun r=>if r<n then (if X.w.heap.size=X.w.heap.size then (match (Classical.propDecidable (X.A r)) with|.isTrue _=>μ' r|.isFalse _=>X.μ r) else X.μ r) else X.μ r)=μ1 at ih
   obtain ⟨x1,m1⟩:=ih
   have hn:μ1 n=X.μ n:=by rw [← hμ1];simp
   have hnext:(fun r=>if r<n + 1 then (if X.w.heap.size=X.w.heap.size then (match (Classical.propDecidable (X.A r)) with|.isTrue _=>μ' r|.isFalse _=>X.μ r) else X.μ r) else X.μ r)=upd μ1 n (match (Classical.propDecidable (X.A n)) with|.isTrue _=>μ' n|.isFalse _=>X.μ n):=by
    funext r
    by_cases h:r=n
    ·subst h;simp [upd_same]
    ·rw [upd_ne _ _ h,← hμ1]
     by_cases h2:r<n
     ·simp [h2,Nat.lt_succ_of_lt h2]
     ·have:¬ r<n + 1:=by omega
      simp [h2,this]
   rw [hnext]
   cases hd:Classical.propDecidable (X.A n) with
   | isFalse hno =>
    simp only []
    rw [← hn]
    obtain ⟨x2,m2⟩:=m1.same_root (r:=n)
    exact ⟨x1.trans x2,m2⟩
   | isTrue hyes =>
    simp only []
    rcases hle n hyes with h|h
    ·rw [h,← hn]
     obtain ⟨x2,m2⟩:=m1.same_root (r:=n)
     exact ⟨x1.trans x2,m2⟩
    ·have h':(({ X with μ:=μ1 }:Ctx).μ n).le (μ' n)=true:=by show (μ1 n).le _=true;rw [hn];exact h
     obtain ⟨x2,m2⟩:=m1.weaken (X:={ X with μ:=μ1 }) hB hyes h'
     exact ⟨x1.trans x2,m2⟩
 obtain ⟨x1,m1⟩:=main N
 have hout:=m1.outside (X:={ X with μ:=fun r=>if r<N then (if X.w.heap.size=X.w.heap.size then (match (Classical.propDecidable (X.A r)) with|.isTrue _=>μ' r|.isFalse _=>X.μ r) else X.μ r) else X.μ r }) (μ':=μ') (fun r hA=>by
  have hA':X.A r:=hA
  show μ' r=if r<N then _ else _
  rw [if_pos (hN r hA'),if_pos rfl]
  cases hd:Classical.propDecidable (X.A r) with
  | isTrue _=>rfl
  | isFalse hno=>exact absurd hA' hno)
 exact ⟨x1.trans hout.1,hout.2⟩
end
end Go.SX
namespace Go.SX
open Go.RowKit (Below)
def InlOk (cx:Cx) (C:FuncId→List D→Option (List D)) (k:Nat) (inl:FuncId→List SV→Nat→List Root→Option Inl):Prop :=
 ∀ (f:FuncId) (args:List SV) (nv:Nat) (mem:List Root) (i:Inl),inl f args nv mem=some i→mem.length≤i.mem.length →
  ∀ (B0:Nat) (X:Ctx) (vals:Array Value),X.E.length=nv→(∀ r,X.A r↔r<mem.length)→X.μ=zac mem→Mem B0 X→B0≤X.w.heap.size→VRepL X args vals.toList →
   ∀ bk vs,ev C k i.t X.E=some (.jmp 0 bk vs)→vs.length=i.m →
    Calls cx.P f vals X.w fun e w'=>∃ v,e=.returned v∧∃ X':Ctx,X'.E=X.E++vs∧X'.w=w'∧(∀ r,X'.A r↔r<i.mem.length)∧X'.μ=zac i.mem∧Ext X X'∧Mem B0 X'∧Below B0 X.w w'∧VRep X' i.res v
section
variable {C:FuncId→List D→Option (List D)} {k B0:Nat} {X:Ctx} {cx:Cx}
theorem zhK {μ:Nat→Root}:∀ {n r:Nat}{l:List Root}{σ σ':SS},Run (znn n r) μ σ l σ'→σ'=σ∧l.length=n∧∀ j,j<n→l[j]?=some (now μ σ.up (r + j))
 | 0,r,l,σ,σ',h=>by
  simp only [znn] at h
  obtain ⟨e1,e2⟩:=Run.pure h
  subst e1 e2
  exact ⟨rfl,rfl,fun j hj=>by omega⟩
 | n + 1,r,l,σ,σ',h=>by
  simp only [znn] at h
  obtain ⟨R,s1,h1,h2⟩:=Run.bind h
  obtain ⟨eR,es⟩:=Run.root h1
  subst es
  obtain ⟨l',s2,h3,h4⟩:=Run.bind h2
  obtain ⟨e1,e2⟩:=Run.pure h4
  subst e1 e2
  obtain ⟨es,hl,hg⟩:=zhK h3
  refine ⟨es,by simp [hl],fun j hj=>?_⟩
  cases j with
  | zero=>simp [eR]
  | succ j =>
   simp only [List.getElem?_cons_succ]
   rw [hg j (by omega)]
   congr 2
   omega
theorem zdd (μ:Nat→Root) (up:List (Nat×Root)) (r q:Nat) (R:Root):now μ ((r,R)::up) q=if q=r then R else now μ up q:=by rw [zaF];rfl
theorem zd8 {μ:Nat→Root}:∀ {l o:List Root}{r:Nat}{u:Unit}{σ σ':SS},Run (zie r o l) μ σ u σ'→(o≠[]→r + o.length=σ.ab)→(o=[]→r=σ.ab)→o.length≤l.length→(∀ j O,o[j]?=some O→now μ σ.up (r + j)=O) →
  σ'.bs=σ.bs∧σ'.nv=σ.nv∧σ'.ab=r + l.length∧(∀ q,q<r→now μ σ'.up q=now μ σ.up q)∧(∀ q,r + l.length≤q→now μ σ'.up q=now μ σ.up q) ∧
   ∀ j R,l[j]?=some R→now μ σ'.up (r + j)=R∨(j<o.length∧R.le (now μ σ'.up (r + j))=true)
 | [],o,r,u,σ,σ',h,h1,h2,hlen,hold=>by
  have ho:o=[]:=List.eq_nil_of_length_eq_zero (by simpa using hlen)
  subst ho
  simp only [zie] at h
  obtain ⟨e1,e2⟩:=Run.pure h
  subst e2
  exact ⟨rfl,rfl,by rw [← h2 rfl];rfl,fun _ _=>rfl,fun _ _=>rfl,fun j R hj=>by simp at hj⟩
 | R::l,[],r,u,σ,σ',h,h1,h2,hlen,hold=>by
  simp only [zie] at h
  obtain ⟨n,s1,h3,h4⟩:=Run.bind h
  obtain ⟨en,es⟩:=Run.new h3
  subst en es
  have hr:=h2 rfl
  obtain ⟨g1,g2,g3,g4,g5,g6⟩:=zd8 h4 (fun h=>absurd rfl h) (fun _=>by rw [hr]) (by simp) (fun j O hj=>by simp at hj)
  refine ⟨g1,g2,by rw [g3];simp only [List.length_cons];omega,fun q hq=>?_,fun q hq=>?_,fun j R' hj=>?_⟩
  ·rw [g4 q (by omega),zdd,if_neg (by omega)]
  ·simp only [List.length_cons] at hq
   rw [g5 q (by omega),zdd,if_neg (by omega)]
  ·cases j with
   | zero =>
    simp at hj
    subst hj
    left
    rw [Nat.add_zero,g4 r (by omega),zdd,if_pos (by omega)]
   | succ j =>
    simp only [List.getElem?_cons_succ] at hj
    have:=g6 j R' hj
    rcases this with this|⟨h,_⟩
    ·left
     rw [← this]
     congr 1
     omega
    ·simp at h
 | R::l,O::o,r,u,σ,σ',h,h1,h2,hlen,hold=>by
  simp only [zie] at h
  have hab:=h1 (by simp)
  simp only [List.length_cons] at hab
  rcases Run.ite h with ⟨hle,h3⟩|⟨_,h3⟩
  ·obtain ⟨g1,g2,g3,g4,g5,g6⟩:=zd8 h3 (fun _=>by omega) (fun he=>by subst he;simp at hab;exact hab) (by simpa using hlen) (fun j O' hj=>by
    have:=hold (j + 1) O' (by simpa using hj)
    rw [← this];congr 1;omega)
   refine ⟨g1,g2,by rw [g3];simp only [List.length_cons];omega,fun q hq=>g4 q (by omega),fun q hq=>?_,fun j R' hj=>?_⟩
   ·simp only [List.length_cons] at hq
    exact g5 q (by omega)
   ·cases j with
    | zero =>
     simp at hj
     subst hj
     right
     refine ⟨by simp,?_⟩
     rw [Nat.add_zero,g4 r (by omega)]
     have:=hold 0 O rfl
     rw [Nat.add_zero] at this
     rw [this]
     exact hle
    | succ j =>
     simp only [List.getElem?_cons_succ] at hj
     have e:r + (j + 1)=r + 1 + j:=by omega
     rw [e]
     rcases g6 j R' hj with h|⟨h,h'⟩
     ·exact .inl h
     ·exact .inr ⟨by simp only [List.length_cons];omega,h'⟩
  ·obtain ⟨_,s1,h4,h5⟩:=Run.bind h3
   have es:=Run.put h4
   subst es
   obtain ⟨g1,g2,g3,g4,g5,g6⟩:=zd8 h5 (fun _=>by show _=σ.ab;omega) (fun he=>by subst he;simp at hab;exact hab) (by simpa using hlen) (fun j O' hj=>by
    have:=hold (j + 1) O' (by simpa using hj)
    rw [zdd,if_neg (by omega),← this];congr 1;omega)
   refine ⟨g1,g2,by rw [g3];simp only [List.length_cons];omega,fun q hq=>?_,fun q hq=>?_,fun j R' hj=>?_⟩
   ·rw [g4 q (by omega),zdd,if_neg (by omega)]
   ·simp only [List.length_cons] at hq
    rw [g5 q (by omega),zdd,if_neg (by omega)]
   ·cases j with
    | zero =>
     simp at hj
     subst hj
     left
     rw [Nat.add_zero,g4 r (by omega),zdd,if_pos rfl]
    | succ j =>
     simp only [List.getElem?_cons_succ] at hj
     have e:r + (j + 1)=r + 1 + j:=by omega
     rw [e]
     rcases g6 j R' hj with h|⟨h,h'⟩
     ·exact .inl h
     ·exact .inr ⟨by simp only [List.length_cons];omega,h'⟩
theorem Mem.moreE (m:Mem B0 X) (hB:B0≤X.w.heap.size) {E':List D}(hE:∀ (i:Nat) (d:D),X.E[i]?=some d→E'[i]?=some d):Ext X { X with E:=E' }∧Mem B0 { X with E:=E' }:=by
 refine Mem.change m hB (fun _=>False) hE (fun _ h=>h) (fun q h=>.inl h) (fun q _=>⟨rfl,rfl⟩) (fun _ _ _=>rfl) (fun _ _ h=>h) ?_ ?_ ?_ ?_ ?_ ?_
 ·intro _ _ h;exact h.elim
 ·intro _ _ _ h;exact h.elim
 ·intro _ h;exact h.elim
 ·intro _ h;exact h.elim
 ·intro _ h;exact h.elim
 ·intro _ _ h;exact h.elim
theorem zdn {l:List Root}{r:Nat}{R:Root}(h:l[r]?=some R):zac l r=R:=by simp [zac,h]
theorem zjm {l:List Root}{r:Nat}(h:l.length≤r):zac l r=.dead:=by simp [zac,List.getElem?_eq_none h]
theorem zmJ {inl:FuncId→List SV→Nat→List Root→Option Inl}(hI:InlOk cx C k inl) (hB:B0≤X.w.heap.size) (m:Mem B0 X) {f:FuncId}{args:List SV}{sv:SV}{s0 s':SS}(h0:s0.up=[])
  (h:Run (zd7 inl f args) X.μ s0 sv s')
  (hs:Sat C k X.E s'.bs s'.nv) (hA:∀ r,X.A r↔r<s0.ab) {vs:Array Value} (hv:VRepL X args vs.toList) :
  Calls cx.P f vs X.w fun e w'=>∃ v,e=.returned v∧∃ X',Nx B0 X X' s'.up s0.ab s'.ab w'∧VRep X' sv v:=by
 unfold zd7 at h
 obtain ⟨⟨nv,ab⟩,s1,h1,h2⟩:=Run.bind h
 obtain ⟨e1,es⟩:=Run.nvab h1
 subst es
 simp only [Prod.mk.injEq] at e1
 obtain ⟨e1,e2⟩:=e1
 subst e1 e2
 obtain ⟨mem,s2,h3,h4⟩:=Run.bind h2
 obtain ⟨es,hlen,hget⟩:=zhK h3
 subst es
 obtain ⟨_,s3,h5,h6⟩:=Run.bind h4
 obtain ⟨hg,es⟩:=Run.guard h5
 subst es
 simp only [wD0] at hg
 simp only at h6
 cases hi:inl f args s3.nv mem with
 | none =>
  simp only [hi,zm9] at h6
  exact (Run.fail h6).elim
 | some i =>
  simp only [hi,zm9] at h6
  obtain ⟨_,s4,h7,h8⟩:=Run.bind h6
  obtain ⟨hg2,es⟩:=Run.guard h7
  subst es
  rw [Nat.ble_eq] at hg2
  obtain ⟨_,s5,h9,h10⟩:=Run.bind h8
  have es:=Run.sub h9
  subst es
  obtain ⟨_,s6,h11,h12⟩:=Run.bind h10
  obtain ⟨e1,e2⟩:=Run.pure h12
  subst e1 e2
  simp only at hlen hget hi hg
  have hmem:∀ r,X.A r→zac mem r=X.μ r:=fun r hr=>by
   have hr':=(hA r).1 hr
   rw [zdn (hget r hr'),h0,Nat.zero_add]
   rfl
  obtain ⟨g1,g2,g3,g4,g5,g6⟩:=zd8 h11 (fun _=>by show 0 + mem.length=s4.ab;omega) (fun he=>by subst he;simp at hlen;exact hlen) hg2 (fun j O hj=>by
   have hjl:j<s4.ab:=by rw [← hlen];exact (List.getElem?_eq_some_iff.1 hj).1
   have:=hget j hjl
   rw [hj] at this
   injection this with this
   rw [this])
  rw [g1,g2] at hs
  obtain ⟨n,en,⟨bk,rs,hn,c1,c2,c3⟩,_⟩:=hs
  have:n=s4.nv:=by simp only [Bd.outs] at en;omega
  subst this
  have tr:Tr s4.nv s4.nv [] X { X with E:=X.E.take s4.nv,μ:=zac mem } :=
   {at_:=fun a ha=>by
     rw [At.inst_nil ha]
     cases a with
     | c d=>rfl
     | v j =>
      simp only [At.okAt,Nat.blt_eq] at ha
      simp only [At.get]
      rw [List.getElem?_take,if_pos ha]
    w:=rfl
    A:=fun _=>Iff.rfl
    β:=rfl
    F:=rfl
    μ:=fun r hr=>by
     show X.μ r=(zac mem r).inst s4.nv []
     rw [Root.inst_nil (zbq hg.2),hmem r hr]
    ok:=fun r _=>zbq hg.2 }
  have hvin:VRepL { X with E:=X.E.take s4.nv,μ:=zac mem } args vs.toList:=tr.vrepL hg.1 (by rw [SV.instL_nil hg.1];exact hv)
  refine (hI f args s4.nv mem i hi hg2 B0 _ vs (by simp [Nat.min_eq_left hn]) (fun r=>by rw [hlen];exact hA r) rfl (tr.mem m) hB hvin bk rs c1 c2).mono fun e w' ⟨v,he,X',k1,k2,k3,k4,k5,k6,k7,k8⟩=>?_
  refine ⟨v,he,?_⟩
  have hB':B0≤X'.w.heap.size:=by rw [k2];exact Nat.le_trans hB k7.size
  have hE':∀ (j:Nat) (d:D),X'.E[j]?=some d→X.E[j]?=some d:=fun j d hj=>by
   rw [k1] at hj
   simp only at hj
   rcases Nat.lt_or_ge j (X.E.take s4.nv).length with hlt|hge
   ·rw [List.getElem?_append_left hlt,List.getElem?_take] at hj
    split at hj
    ·exact hj
    ·cases hj
   ·rw [List.getElem?_append_right hge] at hj
    have:=c3 _ d hj
    rw [wE0,Nat.min_eq_left hn] at hge this
    rw [← this]
    congr 1
    omega
  obtain ⟨x1,m1⟩:=k6.moreE hB' hE'
  have hab:s'.ab=i.mem.length:=by rw [g3,Nat.zero_add]
  have hwk:=m1.weakenAll (X:={ X' with E:=X.E }) hB' (μ':=now X.μ s'.up) (N:=i.mem.length) (fun r hr=>(k3 r).1 hr) (fun r hr=>by
   have hr':=(k3 r).1 hr
   have hir:i.mem[r]?=some i.mem[r]:=wF0 hr'
   have hμr:X'.μ r=i.mem[r]:=by rw [k4,zdn hir]
   show now X.μ s'.up r=X'.μ r∨_
   have:=g6 r _ hir
   rw [Nat.zero_add] at this
   rw [hμr]
   rcases this with h|⟨_,h⟩
   ·exact .inl h
   ·exact .inr h)
  have xx:Ext X { X' with E:=X.E,μ:=now X.μ s'.up }:=by
   have x2:Ext { X with E:=X.E.take s4.nv,μ:=zac mem } { X' with E:=X.E,μ:=now X.μ s'.up }:=(k5.trans x1).trans hwk.1
   exact
    {E:=fun _ _ h=>h
     K:=⟨fun b h hm=>x2.K.heap b h (fun hM=>hm ((tr.M _).1 hM)),fun b h hm=>x2.K.less b h (fun hM=>hm ((tr.M _).1 hM))⟩
     F:=x2.F
     A:=x2.A
     β:=fun r hr=>⟨fun ht=>by rw [← hmem r hr];exact (x2.β r hr).1 ht,(x2.β r hr).2⟩
     row:=fun r e a d hr ht h1 h2=>by
      have h1':(zac mem r).row?=some (e,a):=by rw [hmem r hr];exact h1
      have hok:a.okAt s4.nv=true:=Root.row_ok h1' (zbq hg.2)
      exact x2.row r e a d hr ht h1' (by have:=tr.at_ a hok;rw [At.inst_nil hok] at this;exact this.symm.trans h2)
     mat:=fun r e a' g hr h1=>by
      obtain ⟨a,g0,q1,q2⟩:=x2.mat r e a' g hr h1
      have q1':zac mem r=.mat e a g0:=q1
      have hok:a.okAt s4.nv=true:=by
       have:=zbq (r:=r) hg.2
       rw [q1'] at this
       exact this
      refine ⟨a,g0,by rw [← hmem r hr];exact q1',fun eg=>?_⟩
      obtain ⟨p1,p2,p3⟩:=q2 eg
      exact ⟨p1,p2,fun d hd=>p3 d (by have:=tr.at_ a hok;rw [At.inst_nil hok] at this;exact this.symm.trans hd)⟩
     gen:=fun r e a g e' a' g' hr h1 h2=>x2.gen r e a g e' a' g' hr (by show zac mem r=_;rw [hmem r hr];exact h1) h2
     size:=fun r b n hr ht hb hn=>x2.size r b n hr ht hb hn }
  refine ⟨{ X' with E:=X.E,μ:=now X.μ s'.up },⟨rfl,k2,rfl,fun r=>?_,xx,hwk.2,k7⟩,VRep.ext (x1.trans hwk.1) k8⟩
  show X'.A r↔_
  rw [k3 r,hA r,hab]
  constructor
  ·intro h
   by_cases h':r<s4.ab
   ·exact .inl h'
   ·exact .inr (by omega)
  ·rintro (h|h)
   ·omega
   ·exact h.2
end
end Go.SX
namespace Go.SX
open Go.RowKit (Below)
section
variable {C:FuncId→List D→Option (List D)} {k B0:Nat} {X:Ctx} {cx:Cx}
theorem Holds.value {P:Program}{o:Oper}{a:Act}{sem:Sem Value}{sv:SV}{s0 s':SS}(he:execOp a.eval o=(do let v←sem;pure (.value v))) (h:Acts P B0 X sem s0 s' fun X' v=>VRep X' sv v):Holds P B0 o a X sv s0.ab s':=by
 obtain ⟨v,w',X',h1,h2,h3⟩:=h
 exact Out.value (by rw [he];simp [h1]) ⟨X',h2,h3⟩
theorem Holds.skip {P:Program}{o:Oper}{a:Act}{sem:Sem Unit}{sv:SV}{s0 s':SS}(he:execOp a.eval o=(do sem;pure .skip)) (h:Acts P B0 X sem s0 s' fun _ _=>sv=.un 1):Holds P B0 o a X sv s0.ab s':=by
 obtain ⟨v,w',X',h1,h2,h3⟩:=h
 subst h3
 exact Out.skip (w':=w') (by rw [he];simp [h1]) ⟨X',h2,by simp only [VRep]⟩
theorem Holds.same {P:Program}{o:Oper}{a:Act}{sv:SV}{s0 s':SS}{v:Value}(m:Mem B0 X) (h0:s0.up=[]) (hup:s'.up=s0.up) (hab:s'.ab=s0.ab) (he:(execOp a.eval o).run P X.w=.ok (.value v) X.w) (hv:VRep X sv v):Holds P B0 o a X sv s0.ab s':=by
 refine Out.value he ⟨X,?_,hv⟩
 rw [hup,hab,h0]
 exact Nx.same (up:=[]) (Ext.refl X) m
theorem zkh {ρ:Tmp→SV}{a:Act}(hρ:∀ t,VRep X (ρ t) (a.tmps.getD t undef)):∀ (l:List (Nat×Operand)),zaY X (l.map fun (i,x)=>(i,opnd ρ x)) (l.map fun (i,x)=>(i,a.eval x))
 | []=>trivial
 | (_,x)::l=>⟨rfl,zaa hρ x,zkh hρ l⟩
theorem zgF {ρ:Tmp→SV}{a:Act}(hρ:∀ t,VRep X (ρ t) (a.tmps.getD t undef)):∀ (l:List Operand),VRepL X (l.map (opnd ρ)) (l.map a.eval)
 | []=>by simp only [List.map_nil,VRepL]
 | x::l=>by
  simp only [List.map_cons,VRepL]
  exact ⟨_,_,rfl,zaa hρ x,zgF hρ l⟩
theorem VRepL.append:∀ {l l':List SV}{vs vs':List Value},VRepL X l vs→VRepL X l' vs'→VRepL X (l++l') (vs++vs')
 | [],_,vs,_,h,h'=>by simp only [VRepL] at h;subst h;simpa using h'
 | s::l,_,vs,vs',h,h'=>by
  simp only [VRepL] at h
  obtain ⟨v,r,e,h1,h2⟩:=h
  subst e
  simp only [List.cons_append,VRepL]
  exact ⟨v,r++vs',rfl,h1,VRepL.append h2 h'⟩
theorem ztw {P:Program}{o:Oper}{a:Act}{w:World}{c:Call}{g:Operand}{f:FuncId}{us caps:Array Value}{fn:Func}(ho:o.op=.call c) (hc:c.callee=.value g) (hg:a.eval g=.func (.func f) us caps) (hf:P.funcs[f]?=some fn) (hcan:ze0 fn=true) :
  (execOp a.eval o).run P w=.ok (.enter f (us++c.args.map a.eval++caps)) w:=by
 unfold ze0 at hcan
 simp only [wD0,Bool.not_eq_true'] at hcan
 have hb:fn.body.isNone=false:=by cases hb:fn.body<;>simp_all
 unfold execOp
 rw [ho]
 simp only [resolve,hc,hg,Deferred.ofValue,Sem.run_bind,Sem.run_pure,Result.andThen_ok,invoke,callFunc,run_program,hf,hcan.2,hb,wA0,if_false]
theorem zoL {inl:FuncId→List SV→Nat→List Root→Option Inl}(hI:InlOk cx C k inl) (hB:B0≤X.w.heap.size) (m:Mem B0 X) {f:FuncId}{fn:Func}{e:Ty}{b:Nat}{s sv:SV}{s0 s':SS}(h0:s0.up=[])
  (h:Run (zjR e b s) X.μ s0 sv s') (hs:Sat C k X.E s'.bs s'.nv) (hfr:∀ r,s0.ab≤r→r<s'.ab→¬ X.A r) (hc:zoG cx inl f fn=some (e,b)) {vals:Array Value} (hv:VRepL X [s] vals.toList) :
  Calls cx.P f vals X.w fun x w'=>∃ v,x=.returned v∧∃ X',Nx B0 X X' s'.up s0.ab s'.ab w'∧VRep X' sv v:=by
 unfold zjR at h
 obtain ⟨a,s1,h1,h2⟩:=Run.bind h
 obtain ⟨av,s2,h3,h4⟩:=Run.bind h2
 obtain ⟨e1,e2⟩:=zcn h4
 subst e1 e2
 have hs1:Sat C k X.E s1.bs s1.nv:=h3.sat hs
 simp only [VRepL] at hv
 obtain ⟨v0,r0,ev0,hv0,er0⟩:=hv
 subst er0
 obtain ⟨u1,u2,d,f1,f2⟩:=zgb hB m h0 h1 hs1 hv0
 obtain ⟨⟨d',dn,q1,q2,q3⟩,q5,q6⟩:=Run.op1 h3 hs
 rw [f1] at q1
 injection q1 with q1
 subst q1
 unfold zoG at hc
 split at hc
 ·rename_i e' hp
  rcases hfl:e'.flat with _|_
  ·rw [hfl] at hc;simp at hc
  ·rw [hfl] at hc
   simp only [if_true] at hc
   split at hc
   ·rename_i i hi
    split at hc
    ·rename_i b' hb
     injection hc with hc
     injection hc with hc1 hc2
     subst hc1 hc2
     unfold zqC at hb
     split at hb
     ·rename_i b2 e2 e3 ht hres hmem
      split at hb
      ·rename_i hcond
       simp only [wD0] at hcond
       injection hb with hb
       subst hb
       have hm1:=zad hcond.1.1
       have he2:=Ty.beq_eq hcond.1.2
       have he3:=Ty.beq_eq hcond.2
       subst he2 he3
       let X0:Ctx:=⟨[d],X.w,zac [],fun _=>⟨none,[]⟩,fun _=>False,fun _=>False⟩
       have m0:Mem X.w.heap.size X0:=⟨fun _ h=>h.elim,fun _ _ _ h=>h.elim,fun _ h=>h.elim,fun _ _ h=>h.elim,fun _ h=>h.elim⟩
       have hX0:∀ b,¬ X0.M b:=fun b=>by
        rintro (h|⟨r,h,_⟩)
        ·exact h
        ·exact h
       have hvl:VRepL X0 [.d (.sl e3) (.v 0)] vals.toList:=by
        simp only [VRepL]
        refine ⟨v0,[],ev0,VRep.data.2 ⟨d,rfl,f2.keep ⟨fun _ _ _=>rfl,fun _ _ _ hM=>hX0 _ hM⟩⟩,rfl⟩
       have hev:∃ l,d.els=some l∧dn=d∧ev C k i.t [d]=some (.jmp 0 false [d]):=by
        rw [ht]
        simp only [Prim.run] at q2
        cases d with
        | sl l =>
         simp only [D.els] at q2
         split at q2
         ·rename_i hroom
          injection q2 with q2
          refine ⟨l,rfl,q2.symm,?_⟩
          simp [ev,gets,At.get,Prim.run,appD,D.els,hroom]
         ·cases q2
        | nil =>
         simp only [D.els] at q2
         split at q2
         ·injection q2 with q2
          refine ⟨[],rfl,q2.symm,?_⟩
          simp [ev,gets,At.get,Prim.run]
         ·cases q2
        | _=>simp [D.els] at q2
       obtain ⟨l,hl,hdn,hev⟩:=hev
       subst hdn
       refine (hI f _ 1 [] i hi (Nat.zero_le _) X.w.heap.size X0 vals rfl (fun r=>by simp [X0]) rfl m0 (wG0 _) hvl false [dn] hev hm1.symm).mono fun x w' ⟨v,hx,X',x1,x2,x3,x4,x5,x6,x7,x8⟩=>?_
       refine ⟨v,hx,?_⟩
       have hA0:X'.A 0:=by rw [x3,hmem];simp
       have hμ0:X'.μ 0=.row e3 (.v 1):=by rw [x4,hmem];rfl
       have hE':X'.E=[dn,dn]:=by rw [x1];rfl
       have hrep:=x6.rep 0 hA0
       rw [hμ0] at hrep
       obtain ⟨d2,g1,g2⟩:=hrep
       have g1':(At.v 1).get X'.E=some d2:=g1
       rw [hE'] at g1'
       simp only [At.get,List.getElem?_cons_succ,List.getElem?_cons_zero,wB0] at g1'
       subst g1'
       have hnA:¬ X.A s2.ab:=hfr s2.ab (by rw [q6,u2];exact wG0 _) (by dsimp only;omega)
       rw [hres] at x8
       simp only [VRep,Ref] at x8
       obtain ⟨hone,_,hh⟩:=x8
       obtain ⟨a9,d9,k1,k2,k3⟩:=hh (by rw [hμ0];rfl)
       rw [hμ0] at k1
       simp only [Root.row?,wB0,Prod.mk.injEq,true_and] at k1
       subst k1
       rw [hE'] at k2
       simp only [At.get,List.getElem?_cons_succ,List.getElem?_cons_zero,wB0] at k2
       subst k2
       have hlow:=x6.low 0
       have main:∀ p:Pl,p=⟨(X'.β 0).main,[]⟩→(Ext X (X.grown w' s2.ab (.row e3 av) p)∧Mem B0 (X.grown w' s2.ab (.row e3 av) p))∧VRep (X.grown w' s2.ab (.row e3 av) p) (.h e3 s2.ab none) v:=by
        intro p hp
        have hμg:(X.grown w' s2.ab (.row e3 av) p).μ s2.ab=.row e3 av:=by simp [Ctx.grown,upd_same]
        have hβg:(X.grown w' s2.ab (.row e3 av) p).β s2.ab=p:=by simp [Ctx.grown,upd_same]
        refine ⟨m.grow hB hnA x7 (fun b hb=>?_) ?_ fun x=>?_,?_⟩
        ·refine hlow b hA0 ?_
         rw [hμ0]
         simp only [Root.own,hp] at hb ⊢
         exact hb
        ·simp only [Root.own,hp]
         cases (X'.β 0).main<;>simp
        ·refine ⟨dn,q3,?_⟩
         rcases g2 with ⟨p1,p2⟩|⟨b,c,te,fr,l',xs,p1,p2,p3,p4,p5,p6⟩
         ·exact .inl ⟨by rw [hβg,hp];exact p1,p2⟩
         ·refine .inr ⟨b,c,te,fr,l',xs,by rw [hβg,hp];exact p1,p2,by rw [← x2];exact p3,p4,?_,p6⟩
          have:=p5.flat (w':=w') (M':=(X.grown w' s2.ab (.row e3 av) p).M) hfl
          exact this
        ·simp only [VRep,Ref]
         refine ⟨hone,.inr rfl,fun _=>⟨av,dn,by rw [hμg];rfl,q3,?_⟩⟩
         rcases k3 with ⟨p1,p2,p3⟩|⟨b,l',p1,p2,cap,bs,p3,p4,p5,p6⟩
         ·exact .inl ⟨by rw [hβg,hp];exact p1,p2,trivial⟩
         ·exact .inr ⟨b,l',by rw [hβg,hp];exact p1,p2,cap,bs,p3,p4,by rw [← x2] at *;exact p5,p6⟩
       obtain ⟨hxm,hvv⟩:=main _ rfl
       exact ⟨_,Nx.grown (up:=[]) (Ext.refl X) x7 hB hxm (by rw [q5,u1]) rfl rfl (by rw [q6,u2]),hvv⟩
      ·cases hb
     ·cases hb
    ·cases hc
   ·cases hc
 ·cases hc
theorem zkO {T:Ty}{s:SV}{σ σ':SS}{a:At}{v:Value}(hB:B0≤X.w.heap.size) (m:Mem B0 X) (h0:σ.up=[]) (h:Run (zlJ T s) X.μ σ a σ') (hs:Sat C k X.E σ'.bs σ'.nv) (hv:VRep X s v) :
  σ'.up=[]∧σ'.ab=σ.ab∧∃ d,a.get X.E=some d∧DVal X.w (fun _=>False) T d v:=by
 unfold zlJ at h
 split at h
 ·rename_i e r
  obtain ⟨R,s1,h1,h2⟩:=Run.bind h
  obtain ⟨eR,es⟩:=Run.root h1
  subst es
  rw [h0,zar] at eR
  split at h2
  ·rename_i e' a'
   obtain ⟨_,s2,h3,h4⟩:=Run.bind h2
   obtain ⟨hb,es⟩:=Run.guard h3
   subst es
   obtain ⟨e1,e2⟩:=Run.pure h4
   subst e1 e2
   simp only [wD0] at hb
   have hT:=Ty.beq_eq hb.1
   have he:=Ty.beq_eq hb.2
   subst hT he
   simp only [VRep,Ref] at hv
   obtain ⟨hone,hA,hh⟩:=hv
   obtain ⟨a1,d,f1,f2,f3⟩:=hh (by rw [← eR];rfl)
   rw [← eR] at f1
   simp only [Root.row?,wB0,Prod.mk.injEq,true_and] at f1
   subst f1
   refine ⟨h0,rfl,d,f2,?_⟩
   have hrep:=m.rep r hA
   rw [← eR] at hrep
   obtain ⟨⟨d2,g1,g2⟩,_⟩:=hrep
   rw [f2] at g1
   injection g1 with g1
   subst g1
   unfold DVal
   simp only [Ty.isAgg,wA0,if_false]
   refine ⟨hone,?_⟩
   rcases f3 with ⟨p1,p2,_⟩|⟨b,l,p1,p2,cap,bs,p3,p4,p5,p6⟩
   ·exact p2.rep
   ·rcases g2 with ⟨q1,q2⟩|⟨b',c,te,fr,l',xs,q1,q2,q3,q4,q5,q6⟩
    ·rw [p1] at q1;cases q1
    ·rw [p1] at q1
     injection q1 with q1
     subst q1
     rw [p2] at q2
     injection q2 with q2
     subst q2 p2
     simp only [DRep]
     exact ⟨_,cap,xs,by rw [p3],p4,q5.keep ⟨fun _ _ _=>rfl,fun _ _ _ h=>h⟩,fun j u hj=>by rw [addr_add,Nat.zero_add];exact za3 q3 q6 hj,fun _ h=>h⟩
  ·exact zgb hB m h0 h2 hs hv
 ·exact zgb hB m h0 h hs hv
theorem zfd (hB:B0≤X.w.heap.size) (m:Mem B0 X):∀ {l:List SV}{Ts:List Ty}{σ σ':SS}{as:List At}{vs:List Value},σ.up=[]→Run (zc9 Ts l) X.μ σ as σ'→Sat C k X.E σ'.bs σ'.nv→VRepL X l vs →
  σ'.up=[]∧σ'.ab=σ.ab∧∃ ds,gets X.E as=some ds∧DVals X.w (fun _=>False) Ts ds vs
 | [],[],σ,σ',as,vs,h0,h,hs,hv=>by
  simp only [zc9] at h
  obtain ⟨e1,e2⟩:=Run.pure h
  subst e1 e2
  simp only [VRepL] at hv
  subst hv
  exact ⟨h0,rfl,[],rfl,trivial⟩
 | s::l,T::Ts,σ,σ',as,vs,h0,h,hs,hv=>by
  simp only [zc9] at h
  obtain ⟨a,s1,h1,h2⟩:=Run.bind h
  obtain ⟨as',s2,h3,h4⟩:=Run.bind h2
  obtain ⟨e1,e2⟩:=Run.pure h4
  subst e1 e2
  simp only [VRepL] at hv
  obtain ⟨v,r,ev,hv1,hv2⟩:=hv
  subst ev
  obtain ⟨u1,u2,d,u3,u4⟩:=zkO hB m h0 h1 (h3.sat hs) hv1
  obtain ⟨w1,w2,ds,w3,w4⟩:=zfd hB m u1 h3 hs hv2
  exact ⟨w1,w2.trans u2,d::ds,by simp only [gets,u3,w3],u4,w4⟩
 | [],_::_,σ,σ',as,vs,h0,h,hs,hv=>by simp only [zc9] at h;exact (Run.fail h).elim
 | _::_,[],σ,σ',as,vs,h0,h,hs,hv=>by simp only [zc9] at h;exact (Run.fail h).elim
theorem zp4 {X0:Ctx}{nv:Nat}(hE:X0.E=X.E.take nv) (hw:X0.w=X.w) (hM:∀ b,¬ X0.M b):∀ {Ts:List Ty}{as:List At}{ds:List D}{vs:List Value},SV.okAtL nv (zipA Ts as)=true→gets X.E as=some ds→DVals X.w (fun _=>False) Ts ds vs→VRepL X0 (zipA Ts as) vs
 | [],[],ds,vs,_,hg,hd=>by
  simp only [gets,wB0] at hg
  subst hg
  cases vs with
  | nil=>simp only [zipA,VRepL]
  | cons _ _=>exact hd.elim
 | T::Ts,a::as,ds,vs,hok,hg,hd=>by
  simp only [gets] at hg
  simp only [zipA,SV.okAtL,SV.okAt,wD0] at hok
  split at hg
  ·cases hg
  ·rename_i d ha
   split at hg
   ·cases hg
   ·rename_i ds' hg'
    injection hg with hg
    subst hg
    cases vs with
    | nil=>exact hd.elim
    | cons v vs =>
     obtain ⟨hd1,hd2⟩:=hd
     simp only [zipA,VRepL]
     refine ⟨v,vs,rfl,VRep.data.2 ⟨d,?_,by rw [hw];exact hd1.keep ⟨fun _ _ _=>rfl,fun _ _ _ h=>hM _ h⟩⟩,zp4 hE hw hM hok.2 hg' hd2⟩
     rw [hE]
     cases a with
     | c x=>exact ha
     | v j =>
      have hj:=hok.1
      simp only [At.okAt,Nat.blt_eq] at hj
      simp only [At.get] at ha ⊢
      rw [List.getElem?_take,if_pos hj]
      exact ha
 | [],_::_,ds,vs,_,hg,hd=>by
  simp only [gets] at hg
  split at hg
  ·cases hg
  ·split at hg
   ·cases hg
   ·injection hg with hg
    subst hg
    exact hd.elim
 | _::_,[],ds,vs,_,hg,hd=>by
  simp only [gets,wB0] at hg
  subst hg
  exact hd.elim
theorem zoH {inl:FuncId→List SV→Nat→List Root→Option Inl}(hI:InlOk cx C k inl) (hB:B0≤X.w.heap.size) (m:Mem B0 X) {f:FuncId}{fn:Func}{args:List SV}{sv:SV}{s0 s':SS}(h0:s0.up=[])
  (h:Run (zjk cx inl f fn args) X.μ s0 sv s') (hs:Sat C k X.E s'.bs s'.nv) (hfr:∀ r,s0.ab≤r→r<s'.ab→¬ X.A r) {vals:Array Value} (hv:VRepL X args vals.toList) :
  Calls cx.P f vals X.w fun x w'=>∃ v,x=.returned v∧∃ X',Nx B0 X X' s'.up s0.ab s'.ab w'∧VRep X' sv v:=by
 unfold zjk at h
 obtain ⟨as,s1,h1,h2⟩:=Run.bind h
 obtain ⟨⟨nv,ab⟩,s2,h3,h4⟩:=Run.bind h2
 obtain ⟨e1,es⟩:=Run.nvab h3
 subst es
 simp only [Prod.mk.injEq] at e1
 obtain ⟨e1,e2⟩:=e1
 subst e1 e2
 obtain ⟨_,s3,h5,h6⟩:=Run.bind h4
 obtain ⟨hg,es⟩:=Run.guard h5
 subst es
 simp only at hg h6
 split at h6
 ·rename_i i hi
  unfold zp9 at h6
  split at h6
  ·rename_i e r hres
   split at h6
   ·rename_i e' a hmr
    obtain ⟨_,s4,h7,h8⟩:=Run.bind h6
    obtain ⟨hb,es⟩:=Run.guard h7
    subst es
    simp only [wD0] at hb
    have he:=Ty.beq_eq hb.1
    have hfl:=hb.2
    subst he
    obtain ⟨_,s5,h9,h10⟩:=Run.bind h8
    have es:=Run.sub h9
    subst es
    obtain ⟨e1,e2⟩:=zcn h10
    subst e1 e2
    have hs1:Sat C k X.E s4.bs s4.nv:=h9.sat hs
    obtain ⟨u1,u2,ds,u3,u4⟩:=zfd hB m h0 h1 hs1 hv
    obtain ⟨n,en,⟨bk,rs,hn,c1,c2,c3⟩,_⟩:=hs
    have:n=s4.nv:=by simp only [Bd.outs] at en;omega
    subst this
    let X0:Ctx:=⟨X.E.take s4.nv,X.w,zac [],fun _=>⟨none,[]⟩,fun _=>False,fun _=>False⟩
    have m0:Mem X.w.heap.size X0:=⟨fun _ h=>h.elim,fun _ _ _ h=>h.elim,fun _ h=>h.elim,fun _ _ h=>h.elim,fun _ h=>h.elim⟩
    have hX0:∀ b,¬ X0.M b:=fun b=>by
     rintro (h|⟨r,h,_⟩)
     ·exact h
     ·exact h
    have hvl:VRepL X0 (zipA (zaH cx fn) as) vals.toList:=zp4 (X:=X) (X0:=X0) (nv:=s4.nv) rfl rfl hX0 hg u3 u4
    refine (hI f _ s4.nv [] i hi (Nat.zero_le _) X.w.heap.size X0 vals (by simp [X0,Nat.min_eq_left hn]) (fun r=>by simp [X0]) rfl m0 (wG0 _) hvl bk rs c1 c2).mono fun x w' ⟨v,hx,X',x1,x2,x3,x4,x5,x6,x7,x8⟩=>?_
    refine ⟨v,hx,?_⟩
    have hE':∀ (j:Nat) (d:D),X'.E[j]?=some d→X.E[j]?=some d:=fun j d hj=>by
     rw [x1] at hj
     simp only [X0] at hj
     rcases Nat.lt_or_ge j (X.E.take s4.nv).length with hlt|hge
     ·rw [List.getElem?_append_left hlt,List.getElem?_take] at hj
      split at hj
      ·exact hj
      ·cases hj
     ·rw [List.getElem?_append_right hge] at hj
      have:=c3 _ d hj
      rw [wE0,Nat.min_eq_left hn] at hge this
      rw [← this]
      congr 1
      omega
    have hAr:X'.A r:=by
     rw [x3]
     rcases Nat.lt_or_ge r i.mem.length with h|h
     ·exact h
     ·rw [zjm h] at hmr;cases hmr
    have hμr:X'.μ r=.row e' a:=by rw [x4];exact hmr
    have hrep:=x6.rep r hAr
    rw [hμr] at hrep
    obtain ⟨dn,g1,g2⟩:=hrep
    have q3:a.get X.E=some dn:=At.get_ext hE' g1
    rw [hres] at x8
    simp only [VRep,Ref] at x8
    obtain ⟨hone,_,hh⟩:=x8
    obtain ⟨a9,d9,k1,k2,k3⟩:=hh (by rw [hμr];rfl)
    rw [hμr] at k1
    simp only [Root.row?,wB0,Prod.mk.injEq,true_and] at k1
    subst k1
    rw [g1] at k2
    injection k2 with k2
    subst k2
    have hnA:¬ X.A s4.ab:=hfr s4.ab (by rw [u2];exact wG0 _) (by dsimp only;omega)
    have hlow:=x6.low r
    have main:∀ p:Pl,p=⟨(X'.β r).main,[]⟩→(Ext X (X.grown w' s4.ab (.row e' a) p)∧Mem B0 (X.grown w' s4.ab (.row e' a) p))∧VRep (X.grown w' s4.ab (.row e' a) p) (.h e' s4.ab none) v:=by
     intro p hp
     have hμg:(X.grown w' s4.ab (.row e' a) p).μ s4.ab=.row e' a:=by simp [Ctx.grown,upd_same]
     have hβg:(X.grown w' s4.ab (.row e' a) p).β s4.ab=p:=by simp [Ctx.grown,upd_same]
     refine ⟨m.grow hB hnA x7 (fun b hb=>?_) ?_ fun x=>?_,?_⟩
     ·refine hlow b hAr ?_
      rw [hμr]
      simp only [Root.own,hp] at hb ⊢
      exact hb
     ·simp only [Root.own,hp]
      cases (X'.β r).main<;>simp
     ·refine ⟨dn,q3,?_⟩
      rcases g2 with ⟨p1,p2⟩|⟨b,c,te,fr,l',xs,p1,p2,p3,p4,p5,p6⟩
      ·exact .inl ⟨by rw [hβg,hp];exact p1,p2⟩
      ·refine .inr ⟨b,c,te,fr,l',xs,by rw [hβg,hp];exact p1,p2,by rw [← x2];exact p3,p4,?_,p6⟩
       have:=p5.flat (w':=w') (M':=(X.grown w' s4.ab (.row e' a) p).M) hfl
       exact this
     ·simp only [VRep,Ref]
      refine ⟨hone,.inr rfl,fun _=>⟨a,dn,by rw [hμg];rfl,q3,?_⟩⟩
      rcases k3 with ⟨p1,p2,p3⟩|⟨b,l',p1,p2,cap,bs,p3,p4,p5,p6⟩
      ·exact .inl ⟨by rw [hβg,hp];exact p1,p2,trivial⟩
      ·exact .inr ⟨b,l',by rw [hβg,hp];exact p1,p2,cap,bs,p3,p4,by rw [← x2] at *;exact p5,p6⟩
    obtain ⟨hxm,hvv⟩:=main _ rfl
    exact ⟨_,Nx.grown (up:=[]) (Ext.refl X) x7 hB hxm (by rw [u1]) rfl rfl (by rw [u2]),hvv⟩
   ·exact (Run.fail h6).elim
  ·exact (Run.fail h6).elim
 ·exact (Run.fail h6).elim
theorem zkI (hC:CallsOk cx C) {inl:FuncId→List SV→Nat→List Root→Option Inl}(hI:InlOk cx C k inl) (hB:B0≤X.w.heap.size) (m:Mem B0 X) {callee:SV}{args:List SV}{sv:SV}{s0 s':SS}(h0:s0.up=[])
  (h:Run (zmb cx inl callee args) X.μ s0 sv s') (hs:Sat C k X.E s'.bs s'.nv) (hfr:∀ r,s0.ab≤r→r<s'.ab→¬ X.A r) (hA:zg8 s'.bs=true→∀ r,X.A r↔r<s0.ab) {o:Oper} {a:Act} {c:Call} {g:Operand} (ho:o.op=.call c) (hc:c.callee=.value g)
  (hg:VRep X callee (a.eval g)) (hargs:VRepL X args (c.args.map a.eval).toList):Holds cx.P B0 o a X sv s0.ab s':=by
 unfold zmb at h
 split at h
 ·rename_i f fst caps
  simp only [VRep] at hg
  obtain ⟨us,vs,e,hus,hvs⟩:=hg
  split at h
  ·exact (Run.fail h).elim
  ·rename_i fn hf
   obtain ⟨_,s1,h1,h2⟩:=Run.bind h
   obtain ⟨hcan,es⟩:=Run.guard h1
   subst es
   have hrun:=ztw (P:=cx.P) (w:=X.w) ho hc e hf hcan
   rcases Run.ite h2 with ⟨hd,h3⟩|⟨_,h20⟩
   ·simp only [wD0,List.isEmpty_iff] at hd
    obtain ⟨_,hcap,hfst⟩:=hd
    subst hcap hfst
    simp only [VRepL] at hus hvs
    have eu:us=#[]:=by simpa using hus
    have ev:vs=#[]:=by simpa using hvs
    subst eu ev
    simp only [Array.empty_append,Array.append_empty] at hrun
    exact Out.enter hrun (zoH hI hB m h0 h3 hs hfr hargs)
   rcases Run.ite h20 with ⟨hd,h3⟩|⟨_,h3⟩
   ·simp only [wD0,List.isEmpty_iff] at hd
    obtain ⟨⟨hdat,hcap⟩,hfst⟩:=hd
    subst hcap hfst
    simp only [VRepL] at hus hvs
    have eu:us=#[]:=by simpa using hus
    have ev:vs=#[]:=by simpa using hvs
    subst eu ev
    simp only [Array.empty_append,Array.append_empty] at hrun
    exact Out.enter hrun (zku hC hB m h0 h3 hs hf hcan hdat hargs)
   ·have inl_:Run (zd7 inl f (fst++args++caps)) X.μ s1 sv s'→Holds cx.P B0 o a X sv s1.ab s':=by
     intro h3
     have hsub:zg8 s'.bs=true:=by
      unfold zd7 at h3
      obtain ⟨p,s2,h4,h5⟩:=Run.bind h3
      obtain ⟨mem,s3,h6,h7⟩:=Run.bind h5
      obtain ⟨_,s4,h8,h9⟩:=Run.bind h7
      cases hi:inl f (fst++args++caps) p.1 mem with
      | none=>simp only [hi,zm9] at h9;exact (Run.fail h9).elim
      | some i =>
       simp only [hi,zm9] at h9
       obtain ⟨_,s5,h10,h11⟩:=Run.bind h9
       obtain ⟨hg2,es⟩:=Run.guard h10
       subst es
       rw [Nat.ble_eq] at hg2
       obtain ⟨_,s6,h12,h13⟩:=Run.bind h11
       have es:=Run.sub h12
       obtain ⟨_,s7,h14,h15⟩:=Run.bind h13
       obtain ⟨_,e2⟩:=Run.pure h15
       obtain ⟨e3,hlen,hget⟩:=zhK h6
       obtain ⟨e4,e5⟩:=Run.nvab h4
       obtain ⟨_,e6⟩:=Run.guard h8
       subst e2 e5
       have hab:p.2=s6.ab:=by rw [es,e6,e3,e4]
       obtain ⟨g1,_⟩:=zd8 h14 (fun _=>by rw [← hab];omega) (fun he=>by subst he;simp at hlen;rw [← hab];exact hlen) hg2 (fun j O hj=>by
        have hjl:j<p.2:=by rw [← hlen];exact (List.getElem?_eq_some_iff.1 hj).1
        have:=hget j hjl
        rw [hj] at this
        injection this with this
        rw [this,es,e6,e3])
       rw [g1,es]
       rfl
     refine Out.enter hrun (zmJ hI hB m h0 h3 hs (hA hsub) ?_)
     simp only [Array.toList_append]
     exact VRepL.append (VRepL.append hus hargs) hvs
    split at h3
    ·rename_i e b s hcl
     rcases hcond:(fst.isEmpty&&caps.isEmpty) with _|_
     ·rw [hcond] at hcl;simp at hcl
     ·rw [hcond] at hcl
      simp only [if_true] at hcl
      simp only [wD0,List.isEmpty_iff] at hcond
      obtain ⟨hfst,hcap⟩:=hcond
      subst hcap hfst
      simp only [VRepL] at hus hvs
      have eu:us=#[]:=by simpa using hus
      have ev:vs=#[]:=by simpa using hvs
      subst eu ev
      simp only [Array.empty_append,Array.append_empty] at hrun
      exact Out.enter hrun (zoL hI hB m h0 h3 hs hfr hcl hargs)
    ·exact inl_ h3
 ·exact (Run.fail h).elim
theorem zsF {t:TypeId}{x:SV}{v:Value}(h:zuO cx t x=true) (hv:VRep X x v):((∃ A n c,v=.slice A n c)→∃ E,cx.P.underlying t=some (.slice E))∧((∃ b,v=.string b)→(∃ a,simple x=.d .str a)→cx.P.underlying t=some .string):=by
 have hx:=zaI hv
 unfold zuO at h
 split at h
 ·rename_i a hs hu
  rw [hs] at hx
  obtain ⟨d,_,hd⟩:=VRep.data.1 hx
  obtain ⟨s,_,e⟩:=hd.str
  exact ⟨fun ⟨A,n,c,e'⟩=>(by rw [e] at e';cases e'),fun _ _=>hu⟩
 ·cases h
 ·rename_i E hu hne
  exact ⟨fun _=>⟨E,hu⟩,fun _ ⟨a,ha⟩=>absurd ha (hne a)⟩
 ·cases h
theorem zn6 (ty:TysOk cx) (hC:CallsOk cx C) {inl:FuncId→List SV→Nat→List Root→Option Inl}(hI:InlOk cx C k inl) (hB:B0≤X.w.heap.size) (m:Mem B0 X) {kn:List (At×Bool)}(hk:∀ a b,(a,b)∈kn→a.get X.E=some (.bool b))
  {ρ:Tmp→SV} {a:Act} (hρ:∀ t,VRep X (ρ t) (a.tmps.getD t undef)) {o:Oper} {sv:SV} {s0 s':SS} (h0:s0.up=[]) (h:Run (zaG cx inl kn ρ o) X.μ s0 sv s') (hs:Sat C k X.E s'.bs s'.nv)
  (hfr:∀ r,s0.ab≤r→r<s'.ab→¬ X.A r) (hA:zg8 s'.bs=true→∀ r,X.A r↔r<s0.ab):Holds cx.P B0 o a X sv s0.ab s':=by
 unfold zaG at h
 split at h
 ·rename_i x ho
  obtain ⟨e1,e2⟩:=Run.pure h
  subst e1 e2
  exact Holds.same m h0 rfl rfl (by simp only [execOp,ho];rfl) (zss (zaa hρ x))
 ·rename_i x ho
  obtain ⟨e1,e2⟩:=Run.pure h
  subst e1 e2
  exact Holds.same m h0 rfl rfl (by simp only [execOp,ho];rfl) (zss (zaa hρ x))
 ·rename_i c x y ho
  obtain ⟨h1,h2,b,h3,h4⟩:=zmk hk h hs (zaa hρ c) (zaa hρ x) (zaa hρ y)
  refine Holds.same m h0 h1 h2 ?_ h4
  simp only [execOp,ho,h3]
  cases b<;>rfl
 ·rename_i t ho
  exact Holds.value (by simp only [execOp,ho]) (zqZ ty hB m hfr h0 h)
 ·rename_i t x ho
  exact Holds.value (by simp only [execOp,ho]) (ztC hB m hfr h0 h (zaa hρ x))
 ·rename_i t parts ho
  refine Holds.value (sem:=Instr.build t (parts.map fun (i,x)=>(i,a.eval x))) (by simp only [execOp,ho]) ?_
  have:=zq0 ty hB m h0 h hs (zkh hρ parts.toList)
  rwa [← Array.toList_map,Array.toArray_toList] at this
 ·rename_i t n parts ho
  refine Holds.value (sem:=Instr.buildSlice t n (parts.map fun (i,x)=>(i,a.eval x))) (by simp only [execOp,ho]) ?_
  have:=zjz ty hB m hfr h0 h hs (zkh hρ parts.toList)
  rwa [← Array.toList_map,Array.toArray_toList] at this
 ·rename_i t x ho
  exact Holds.value (by simp only [execOp,ho]) (Acts.of_pure m h0 (zlI ty m h0 h hs (zaa hρ x)))
 ·rename_i t x v ho
  exact Holds.skip (by simp only [execOp,ho]) (zkv ty hB m h0 h hs (zaa hρ x) (zaa hρ v))
 ·rename_i x ho
  have hx:=zaa hρ x
  have key:∀ {s:SV},opnd ρ x=s→(∃ v,a.eval x=v∧(execOp a.eval o).run cx.P X.w=.ok (.value v) X.w)→Run (SX.X.pure s) X.μ s0 sv s'→Holds cx.P B0 o a X sv s0.ab s':=fun he ⟨v,hv,hr⟩ hh=>by
   obtain ⟨e1,e2⟩:=Run.pure hh
   subst e1 e2
   exact Holds.same m h0 rfl rfl hr (by rw [← hv,← he];exact hx)
  split at h
  ·rename_i R T r q hsx
   rw [hsx] at hx
   simp only [VRep,Ref] at hx
   obtain ⟨_,b,off,hv,_⟩:=hx
   exact key hsx ⟨_,hv,by simp only [execOp,ho,hv];rfl⟩ h
  ·rename_i T at_ hsx
   rw [hsx] at hx
   simp only [VRep,Ref] at hx
   obtain ⟨ad,d,xs,hv,_⟩:=hx
   exact key hsx ⟨_,hv,by simp only [execOp,ho,hv];rfl⟩ h
  ·rename_i f u l hsx
   rw [hsx] at hx
   simp only [VRep] at hx
   obtain ⟨us,vs,hv,_⟩:=hx
   exact key hsx ⟨_,hv,by simp only [execOp,ho,hv];rfl⟩ h
  ·rename_i e T r ix q g hsx
   obtain ⟨ma,s1,hm1,hm2⟩:=Run.bind h
   obtain ⟨es,hR⟩:=zkf hm1
   subst es
   rw [h0,zar] at hR
   rw [hsx] at hx
   simp only [VRep,Ref] at hx
   obtain ⟨_,_,hx⟩:=hx
   obtain ⟨_,hx⟩:=hx _ _ _ hR
   obtain ⟨_,kk,i,b,off,_,_,hv,_⟩:=hx rfl
   exact key hsx ⟨_,hv,by simp only [execOp,ho,hv];rfl⟩ hm2
  ·exact (Run.fail h).elim
 ·rename_i op xt x y yt ho
  exact Holds.value (by simp only [execOp,ho]) (Acts.of_pure m h0 (zno ty hB m h0 h hs (zaa hρ x) (zaa hρ y) x y (fun hT ha hk hg he hx hy=>zsE ty x y hT ha hk hg he hx hy)))
 ·rename_i op xt x ho
  exact Holds.value (by simp only [execOp,ho]) (Acts.of_pure m h0 (zrt h hs (zaa hρ x)))
 ·rename_i src dst x ho
  exact Holds.value (by simp only [execOp,ho]) (znP ty hB m h0 h hs (zaa hρ x))
 ·rename_i f first captured ho
  obtain ⟨e1,e2⟩:=Run.pure h
  subst e1 e2
  refine Holds.same m h0 rfl rfl (v:=.func (.func f) (first.map a.eval) (captured.map a.eval)) (by simp only [execOp,ho,Instr.makeFunc];rfl) ?_
  simp only [VRep]
  exact ⟨_,_,rfl,by rw [Array.toList_map];exact zgF hρ _,by rw [Array.toList_map];exact zgF hρ _⟩
 ·rename_i t l c ho
  exact Holds.value (by simp only [execOp,ho]) (zkC ty hB m hfr h0 h hs (zaa hρ l) (zaa hρ c))
 ·rename_i t x lo hi mx ho
  have opt:∀ (y:Option Operand),zbu X (zeB ρ y) (y.map a.eval):=fun y=>by
   cases y with
   | none=>simp [zeB,zbu]
   | some y=>simp only [zeB,Option.map_some,zbu];exact zaa hρ y
  exact Holds.value (by simp only [execOp,ho]) (Acts.of_pure m h0 (zkP ty hB m h0 h hs (zaa hρ x) (opt lo) (opt hi) (opt mx)))
 ·rename_i t x j ho
  exact Holds.value (by simp only [execOp,ho]) (Acts.of_pure m h0 (zg2 ty h hs (zaa hρ x)))
 ·rename_i t x j ho
  exact Holds.value (by simp only [execOp,ho]) (Acts.of_pure m h0 (zkL ty h hs (zaa hρ x)))
 ·rename_i t x i ho
  exact Holds.value (by simp only [execOp,ho]) (Acts.of_pure m h0 (zgT ty hB m h0 h hs (zaa hρ x) (zaa hρ i)))
 ·rename_i t x i ho
  exact Holds.value (by simp only [execOp,ho]) (Acts.of_pure m h0 (zkw ty h hs (zaa hρ x) (zaa hρ i)))
 ·rename_i t r ho
  exact Holds.value (sem:=Instr.makeMap t (r.map a.eval)) (by simp only [execOp,ho]) (zop hB m hfr h0 h (by cases r<;>rfl))
 ·rename_i t x i ok ho
  exact Holds.value (sem:=Instr.lookup t (a.eval x) (a.eval i) ok) (by simp only [execOp,ho]) (zow ty hB m h0 h hs (zaa hρ x) (zaa hρ i))
 ·rename_i t x i v ho
  exact Holds.skip (sem:=Instr.mapUpdate t (a.eval x) (a.eval i) (a.eval v)) (by simp only [execOp,ho]) (zkA ty hB m h0 h hs (zaa hρ x) (zaa hρ i) (zaa hρ v))
 ·rename_i x j ho
  have hx:=zaa hρ x
  split at h
  ·rename_i l hsx
   rw [hsx] at hx
   exact Holds.value (by simp only [execOp,ho]) (Acts.of_pure m h0 (znU h hx))
  ·exact (Run.fail h).elim
 ·rename_i b args argTypes ho
  have run:∃ cs,∀ w,(execOp a.eval o).run cx.P w=(builtin b argTypes o.type cs (args.map a.eval)).run cx.P w:=by
   unfold execOp
   rw [ho]
   simp only [resolve,Sem.run_bind,Sem.run_pure,Result.andThen_ok,invoke]
   exact ⟨_,fun _=>rfl⟩
  have bi:∀ {sem:Sem Value},(∀ cs w,(builtin b argTypes o.type cs (args.map a.eval)).run cx.P w=(do let v←sem;pure (.value v):Sem Next).run cx.P w)→Acts cx.P B0 X sem s0 s' (fun X' v=>VRep X' sv v)→Holds cx.P B0 o a X sv s0.ab s':=fun hb hA=>by
   obtain ⟨v,w',X',h1,h2,h3⟩:=hA
   obtain ⟨cs,hrun⟩:=run
   refine Out.value ?_ ⟨X',h2,h3⟩
   rw [hrun,hb]
   simp [h1]
  have one:∀ {x:SV},args.toList.map (opnd ρ)=[x]→∃ y,args=#[y]∧x=opnd ρ y:=fun h=>by
   match hl:args.toList,h with
   | [y],h=>simp at h;exact ⟨y,by rw [← Array.toArray_toList (xs:=args),hl],h.symm⟩
  have two:∀ {x y:SV},args.toList.map (opnd ρ)=[x,y]→∃ x' y',args=#[x',y']∧x=opnd ρ x'∧y=opnd ρ y':=fun h=>by
   match hl:args.toList,h with
   | [x',y'],h=>simp at h;exact ⟨x',y',by rw [← Array.toArray_toList (xs:=args),hl],h.1.symm,h.2.symm⟩
  have ty1:∀ {t:TypeId},argTypes.toList=[t]→argTypes=#[t]:=fun h=>by rw [← Array.toArray_toList (xs:=argTypes),h]
  have ty2:∀ {t u:TypeId},argTypes.toList=[t,u]→argTypes=#[t,u]:=fun h=>by rw [← Array.toArray_toList (xs:=argTypes),h]
  split at h
  ·rename_i x t hx ht
   obtain ⟨y,ey,ex⟩:=one hx
   have et:=ty1 ht
   subst ey ex et
   obtain ⟨_,s1,h1,h2⟩:=Run.bind h
   obtain ⟨hg,es⟩:=Run.guard h1
   subst es
   have hy:=zaa hρ y
   obtain ⟨l1,l2⟩:=zsF hg hy
   obtain ⟨u1,u2,u3⟩:=zrh hB m h0 h2 hs hy
   refine bi (sem:=Builtin.len_ #[t] o.type #[a.eval y]) (fun cs w=>by simp [builtin]) (Acts.of_pure m h0 ⟨u1,u2,?_⟩)
   rcases u3 with ⟨A,n,c,e,hv⟩|⟨b,e,hst,hv⟩
   ·obtain ⟨E,hu⟩:=l1 ⟨A,n,c,e⟩
    exact ⟨_,by rw [e];exact zmH hu,hv⟩
   ·exact ⟨_,by rw [e];exact zmE (l2 ⟨b,e⟩ hst),hv⟩
  ·rename_i x t hx ht
   obtain ⟨y,ey,ex⟩:=one hx
   have et:=ty1 ht
   subst ey ex et
   obtain ⟨_,s1,h1,h2⟩:=Run.bind h
   obtain ⟨hg,es⟩:=Run.guard h1
   subst es
   exact bi (sem:=Builtin.cap_ #[t] o.type #[a.eval y]) (fun cs w=>by simp [builtin]) (Acts.of_pure m h0 (ztr hg h2 (zaa hρ y)))
  ·rename_i x y t xt hx ht
   obtain ⟨x',y',ey,ex,ex2⟩:=two hx
   have et:=ty2 ht
   subst ey ex ex2 et
   exact bi (sem:=Builtin.append_ #[t,xt] o.type #[a.eval x',a.eval y']) (fun cs w=>by simp [builtin]) (zj1 ty hB m h0 h hs hfr (zaa hρ x') (zaa hρ y'))
  ·rename_i x t hx ht
   obtain ⟨y,ey,ex⟩:=one hx
   have et:=ty1 ht
   subst ey ex et
   exact bi (sem:=Builtin.clear_ #[t] o.type #[a.eval y]) (fun cs w=>by simp [builtin]) (zks ty hB m h0 h hs (zaa hρ y))
  ·rename_i x y t u hx ht
   obtain ⟨x',y',ey,ex,ex2⟩:=two hx
   have et:=ty2 ht
   subst ey ex ex2 et
   exact bi (sem:=Builtin.copy_ #[t,u] o.type #[a.eval x',a.eval y']) (fun cs w=>by simp [builtin]) (zta ty hB m h0 h hs (zaa hρ x') (zaa hρ y'))
  ·rename_i x y hx
   obtain ⟨x',y',ey,ex,ex2⟩:=two hx
   subst ey ex ex2
   obtain ⟨u1,u2,kk,p,q,d,ad,e1,e2,e3,e4,e5⟩:=zjE h hs (zaa hρ x') (zaa hρ y')
   subst e5
   refine bi (sem:=Builtin.min_ argTypes o.type #[a.eval x',a.eval y']) (fun cs w=>by simp [builtin]) (Acts.of_pure m h0 ⟨u1,u2,?_⟩)
   simp only [Prim.run,if_true,wB0] at e3
   subst e3
   exact ⟨_,by simp [Builtin.min_,e1,e2,Builtin.min2],VRep.data.2 ⟨_,e4,DVal.of_int _ _⟩⟩
  ·rename_i x y hx
   obtain ⟨x',y',ey,ex,ex2⟩:=two hx
   subst ey ex ex2
   obtain ⟨u1,u2,kk,p,q,d,ad,e1,e2,e3,e4,e5⟩:=zjE h hs (zaa hρ x') (zaa hρ y')
   subst e5
   refine bi (sem:=Builtin.max_ argTypes o.type #[a.eval x',a.eval y']) (fun cs w=>by simp [builtin]) (Acts.of_pure m h0 ⟨u1,u2,?_⟩)
   simp only [Prim.run,if_true,wB0] at e3
   subst e3
   exact ⟨_,by simp [Builtin.max_,e1,e2,Builtin.max2],VRep.data.2 ⟨_,e4,DVal.of_int _ _⟩⟩
  ·exact (Run.fail h).elim
 ·rename_i f args argTypes ho
  exact zkI hC hI hB m h0 h hs hfr hA ho rfl (zaa hρ f) (by rw [Array.toList_map];exact zgF hρ _)
 ·exact (Run.fail h).elim
end
end Go.SX
namespace Go.SX
open Go.RowKit (Below)
theorem X.run_outs {α:Type}(μ:Nat→Root):∀ (x:X α) (s:SS) {a:α}{s':SS}{l:List Nat},x.run μ s=some (a,s',l)→s'.nv + zjV s.bs=s.nv + zjV s'.bs
 | .pure a,s,_,s',l,h=>by
  simp only [X.run,wB0,Prod.mk.injEq] at h
  obtain ⟨_,h,_⟩:=h
  subst h
  rfl
 | .fail n,s,_,s',l,h=>by simp [X.run] at h
 | .root r k,s,a,s',l,h=>by
  simp only [X.run] at h
  cases hu:zeQ r s.up with
  | some R=>simp only [hu] at h;exact X.run_outs μ (k R) s h
  | none =>
   simp only [hu] at h
   cases h2:(k (μ r)).run μ s with
   | none=>simp [h2] at h
   | some p =>
    obtain ⟨a',s1,l1⟩:=p
    simp only [h2,wB0,Prod.mk.injEq] at h
    obtain ⟨_,h,_⟩:=h
    subst h
    exact X.run_outs μ (k (μ r)) s h2
 | .put r R k,s,a,s',l,h=>by
  simp only [X.run] at h
  exact X.run_outs μ k { s with up:=(r,R)::s.up } h
 | .new R k,s,a,s',l,h=>by
  simp only [X.run] at h
  exact X.run_outs μ (k s.ab) { s with up:=(s.ab,R)::s.up,ab:=s.ab + 1 } h
 | .bd b k,s,a,s',l,h=>by
  simp only [X.run] at h
  have:=X.run_outs μ (k s.nv) { s with bs:=b::s.bs,nv:=s.nv + b.outs } h
  simp only [zjV] at this
  omega
 | .at_ k,s,a,s',l,h=>by
  simp only [X.run] at h
  exact X.run_outs μ (k s.nv s.ab) s h
section
variable {C:FuncId→List D→Option (List D)} {k:Nat}
theorem get_app {E F:List D}{i:Nat}{d:D}(h:E[i]?=some d):(E++F)[i]?=some d:=by
 rw [List.getElem?_append_left (List.getElem?_eq_some_iff.1 h).1]
 exact h
theorem At.get_app {E F:List D}{a:At}{d:D}(h:a.get E=some d):a.get (E++F)=some d:=At.get_ext (fun _ _=>SX.get_app) h
theorem zfp {E F:List D}:∀ {as:List At}{ds:List D},gets E as=some ds→gets (E++F) as=some ds
 | [],ds,h=>h
 | a::l,ds,h=>by
  obtain ⟨d,ds',h1,h2,h3⟩:=zbx h
  subst h3
  exact zeV (At.get_app h1) (zfp h2)
theorem SatB.app {E F:List D}{n:Nat}{b:Bd}(h:SatB C k E n b):SatB C k (E++F) n b:=by
 cases b with
 | prim p as =>
  obtain ⟨vs,d,h1,h2,h3⟩:=h
  exact ⟨vs,d,zfp h1,h2,get_app h3⟩
 | call f as m =>
  obtain ⟨vs,ds,h1,h2,h3,h4⟩:=h
  exact ⟨vs,ds,zfp h1,h2,h3,fun j d hj=>get_app (h4 j d hj)⟩
 | sub t m =>
  obtain ⟨bk,vs,h0,h1,h2,h3⟩:=h
  refine ⟨bk,vs,by simp;omega,?_,h2,fun j d hj=>get_app (h3 j d hj)⟩
  rw [List.take_append_of_le_length h0]
  exact h1
theorem Sat.app {E F:List D}:∀ {bs:List Bd}{n:Nat},Sat C k E bs n→Sat C k (E++F) bs n
 | [],_,_=>trivial
 | _::_,_,⟨m,h1,h2,h3⟩=>⟨m,h1,h2.app,Sat.app h3⟩
theorem znp {f:List D→Option Res}{n:Nat}(hf:∀ vs r,f vs=some r→∃ l b ws,r=.jmp l b ws∧l<n + 1):∀ (j:Nat) (vs:List D) (r:Res),iter f j vs=some r→∃ l b ws,r=.jmp l b ws∧l<n + 1
 | 0,vs,r,h=>by simp [iter] at h
 | j + 1,vs,r,h=>by
  simp only [iter] at h
  split at h
  ·exact znp hf j _ r h
  ·exact hf _ _ h
theorem ze5:∀ {t:Tree}{n:Nat}{E:List D}{r:Res},t.only n=true→ev C k t E=some r→∃ l b vs,r=.jmp l b vs∧l<n
 | .prim p as t,n,E,r,ho,h=>by
  simp only [Tree.only] at ho
  simp only [ev] at h
  cases h1:gets E as with
  | none=>simp [h1] at h
  | some vs =>
   simp only [h1] at h
   cases h2:p.run vs with
   | none=>simp [h2] at h
   | some d=>simp only [h2] at h;exact ze5 ho h
 | .call f as m t,n,E,r,ho,h=>by
  simp only [Tree.only] at ho
  simp only [ev] at h
  cases h1:gets E as with
  | none=>simp [h1] at h
  | some vs =>
   simp only [h1] at h
   cases h2:C f vs with
   | none=>simp [h2] at h
   | some ds =>
    simp only [h2] at h
    split at h
    ·exact ze5 ho h
    ·cases h
 | .sub t m u,n,E,r,ho,h=>by
  simp only [Tree.only,wD0] at ho
  simp only [ev] at h
  cases h1:ev C k t E with
  | none=>simp [h1] at h
  | some r' =>
   obtain ⟨l,b,vs,e,hl⟩:=ze5 ho.1 h1
   subst e
   simp only [h1] at h
   cases l with
   | zero =>
    simp only at h
    split at h
    ·exact ze5 ho.2 h
    ·cases h
   | succ l =>
    simp only [Res.up,wB0] at h
    exact ⟨l,b,vs,h.symm,by omega⟩
 | .loop init t,n,E,r,ho,h=>by
  simp only [Tree.only] at ho
  simp only [ev] at h
  cases h1:gets E init with
  | none=>simp [h1] at h
  | some vs =>
   simp only [h1] at h
   cases h2:iter (fun vs=>ev C k t (E++vs)) k vs with
   | none=>simp [h2] at h
   | some r' =>
    simp only [h2] at h
    obtain ⟨l,b,ws,e,hl⟩:=znp (fun vs r hr=>ze5 ho hr) k vs r' h2
    subst e
    cases l with
    | zero=>simp [Res.up] at h
    | succ l =>
     simp only [Res.up,wB0] at h
     exact ⟨l,b,ws,h.symm,by omega⟩
 | .ite c a b,n,E,r,ho,h=>by
  simp only [Tree.only,wD0] at ho
  simp only [ev] at h
  split at h
  ·exact ze5 ho.1 h
  ·exact ze5 ho.2 h
  ·cases h
 | .jmp l b as,n,E,r,ho,h=>by
  simp only [Tree.only,Nat.blt_eq] at ho
  simp only [ev] at h
  split at h
  ·cases h
  ·rename_i vs _
   injection h with h
   exact ⟨l,b,vs,h.symm,ho⟩
 | .fin x st,n,E,r,ho,h=>by simp [Tree.only] at ho
 | .fail _,n,E,r,ho,h=>by simp [ev] at h
theorem zvz {E:List D}{b:Bd}{t:Tree}{r:Res}(hb:zf9 [b]=true) (h:ev C k (b.on t) E=some r):∃ F,F.length=b.outs∧SatB C k (E++F) E.length b∧ev C k t (E++F)=some r:=by
 cases b with
 | prim p as =>
  simp only [Bd.on,ev] at h
  cases h1:gets E as with
  | none=>simp [h1] at h
  | some vs =>
   simp only [h1] at h
   cases h2:p.run vs with
   | none=>simp [h2] at h
   | some d =>
    simp only [h2] at h
    exact ⟨[d],rfl,⟨vs,d,zfp h1,h2,by simp⟩,h⟩
 | call f as m =>
  simp only [Bd.on,ev] at h
  cases h1:gets E as with
  | none=>simp [h1] at h
  | some vs =>
   simp only [h1] at h
   cases h2:C f vs with
   | none=>simp [h2] at h
   | some ds =>
    simp only [h2] at h
    split at h
    ·rename_i hl
     exact ⟨ds,hl,⟨vs,ds,zfp h1,h2,hl,fun j d hj=>by rw [List.getElem?_append_right (by omega)];simpa using hj⟩,h⟩
    ·cases h
 | sub t' m =>
  simp only [zf9,Bool.and_true] at hb
  simp only [Bd.on,ev] at h
  cases h1:ev C k t' E with
  | none=>simp [h1] at h
  | some r' =>
   obtain ⟨l,bk,vs,e,hl⟩:=ze5 hb h1
   have:l=0:=by omega
   subst this e
   simp only [h1] at h
   split at h
   ·rename_i hvl
    refine ⟨vs,hvl,⟨bk,vs,by simp,?_,hvl,fun j d hj=>by rw [List.getElem?_append_right (by omega)];simpa using hj⟩,h⟩
    rw [List.take_left' rfl]
    exact h1
   ·cases h
theorem zkQ {b:Bd}{l:List Bd}(h:zf9 (b::l)=true):zf9 [b]=true∧zf9 l=true:=by
 cases b<;>simp_all [zf9]
theorem zuh:∀ {bs:List Bd}{E:List D}{t:Tree}{r:Res},zf9 bs=true→ev C k (zgE bs t) E=some r→∃ F,F.length=zjV bs∧Sat C k (E++F) bs (E++F).length∧ev C k t (E++F)=some r
 | [],E,t,r,_,h=>⟨[],rfl,trivial,by simpa [zgE] using h⟩
 | b::l,E,t,r,hb,h=>by
  obtain ⟨hb1,hb2⟩:=zkQ hb
  simp only [zgE] at h
  obtain ⟨F,h1,h2,h3⟩:=zuh hb2 h
  obtain ⟨G,g1,g2,g3⟩:=zvz hb1 h3
  refine ⟨F++G,by simp [zjV,h1,g1,Nat.add_comm],⟨(E++F).length,by rw [← List.append_assoc,wI0,g1],?_,?_⟩,by rw [← List.append_assoc];exact g3⟩
  ·rw [← List.append_assoc];exact g2
  ·rw [← List.append_assoc];exact h2.app
end
def GuardIs (E:List D) (st:St) (ops:List Oper) (o:Oper) (run:Bool):Prop :=
 match o.guard with
 | none=>run=true
 | some (j,want)=>∃ s,guardOf st ops j=some s∧((∃ a b,s=.d .bool a∧a.get E=some (.bool b)∧run=(b==want))∨(s=.tu []∧run=false))
def KnOk (E:List D) (kn:List (At×Bool)):Prop:=∀ a b,(a,b)∈kn→a.get E=some (.bool b)
theorem KnOk.known {E:List D}:∀ {kn:List (At×Bool)}{a:At}{b:Bool},KnOk E kn→zeJ kn a=some b→a.get E=some (.bool b)
 | [],a,b,_,h=>by simp [zeJ] at h
 | (c,v)::l,a,b,hk,h=>by
  simp only [zeJ] at h
  split at h
  ·rename_i hc
   injection h with h
   subst h
   rw [← At.beq_eq hc]
   exact hk c v (by simp)
  ·exact KnOk.known (fun a b hm=>hk a b (List.mem_cons_of_mem _ hm)) h
def Steps (cx:Cx) (inl:FuncId→List SV→Nat→List Root→Option Inl) (C:FuncId→List D→Option (List D)) (k:Nat) (E:List D) (ops:List Oper):List Oper→Nat→St→List Eff→St→Prop
 | [],_,st,[],stf=>stf=st
 | o::rest,i,st,e::es,stf=>GuardIs E st ops o e.run ∧
   ((e.run=true∧∃ kn,KnOk E kn∧zfZ cx inl kn st.slot st.root st.nv st.mem.length i o=some e∧Sat C k E e.bs e.nv')∨e=zf4 i o st)∧Steps cx inl C k E ops rest (i + 1) (st.after e) es stf
 | _,_,_,_,_=>False
section
variable {cx:Cx} {inl:FuncId→List SV→Nat→List Root→Option Inl} {C:FuncId→List D→Option (List D)} {k:Nat}
theorem zeS {kn:List (At×Bool)}{ρ:Tmp→SV}{μ:Nat→Root}{nv ab i:Nat}{o:Oper}{e:Eff}(h:zfZ cx inl kn ρ μ nv ab i o=some e) :
  ∃ s,(zaG cx inl kn ρ o).run μ ⟨[],nv,[],ab⟩=some (e.sv,s,e.foot)∧e.i=i∧e.run=true∧e.dst=o.dst∧e.bs=s.bs∧e.up=s.up∧e.nv=nv∧e.ab=ab∧e.nv'=s.nv∧e.ab'=s.ab∧upOk e.ab' e.up=true∧zf9 e.bs=true:=by
 unfold zfZ at h
 split at h
 ·cases h
 ·rename_i sv s foot hr
  split at h
  ·rename_i hok
   simp only [wD0] at hok
   injection h with h
   subst h
   exact ⟨s,hr,rfl,rfl,rfl,rfl,rfl,rfl,rfl,rfl,rfl,hok.1,hok.2⟩
  ·cases h
theorem zsd {E:List D}{st:St}{ops:List Oper}{kn:List (At×Bool)}{o:Oper}(hk:KnOk E kn) :
  (zn9 st ops kn o=.go→GuardIs E st ops o true)∧(zn9 st ops kn o=.skip→GuardIs E st ops o false) ∧
  (∀ a want b,zn9 st ops kn o=.ask a want→a.get E=some (.bool b)→GuardIs E st ops o (b==want)):=by
 unfold zn9 GuardIs
 cases hg:o.guard with
 | none=>simp
 | some p =>
  obtain ⟨j,want⟩:=p
  simp only
  cases hs:guardOf st ops j with
  | none=>simp
  | some s =>
   split
   ·rename_i b heq
    injection heq with heq
    subst heq
    cases hbw:(b==want) with
    | true=>simp only [if_true,reduceCtorEq,false_implies,forall_const,implies_true,and_true,and_self];exact ⟨_,rfl,.inl ⟨_,b,rfl,rfl,hbw.symm⟩⟩
    | false=>simp only [wA0,if_false,reduceCtorEq,false_implies,forall_const,implies_true,and_true,true_and];exact ⟨_,rfl,.inl ⟨_,b,rfl,rfl,hbw.symm⟩⟩
   ·rename_i a _ heq
    injection heq with heq
    subst heq
    split
    ·rename_i b hkn
     have ha:=hk.known hkn
     cases hbw:(b==want) with
     | true=>simp only [if_true,reduceCtorEq,false_implies,forall_const,implies_true,and_true,and_self];exact ⟨_,rfl,.inl ⟨a,b,rfl,ha,hbw.symm⟩⟩
     | false=>simp only [wA0,if_false,reduceCtorEq,false_implies,forall_const,implies_true,and_true,true_and];exact ⟨_,rfl,.inl ⟨a,b,rfl,ha,hbw.symm⟩⟩
    ·refine ⟨nofun,nofun,fun a' want' b h ha=>?_⟩
     injection h with h1 h2
     subst h1 h2
     exact ⟨_,rfl,.inl ⟨a,b,rfl,ha,rfl⟩⟩
   ·rename_i heq
    injection heq with heq
    subst heq
    exact ⟨nofun,fun _=>⟨_,rfl,.inr ⟨rfl,by simp⟩⟩,nofun⟩
   ·exact ⟨nofun,nofun,nofun⟩
theorem GuardIs.app {E F:List D}{st:St}{ops:List Oper}{o:Oper}{run:Bool}(h:GuardIs E st ops o run):GuardIs (E++F) st ops o run:=by
 unfold GuardIs at h ⊢
 split
 ·rename_i hg;simp only [hg] at h;exact h
 ·rename_i j want hg
  simp only [hg] at h
  obtain ⟨s,h1,h2⟩:=h
  refine ⟨s,h1,?_⟩
  rcases h2 with ⟨a,b,e1,e2,e3⟩|h2
  ·exact .inl ⟨a,b,e1,At.get_app e2,e3⟩
  ·exact .inr h2
theorem KnOk.app {E F:List D}{kn:List (At×Bool)}(h:KnOk E kn):KnOk (E++F) kn:=fun a b hm=>At.get_app (h a b hm)
theorem zqr (st:St) (e:Eff):(st.after e).nv=e.nv':=rfl
theorem zdi {draw:Bool}{ops:List Oper}{bf:List Nat}:∀ {rest:List Oper}{i:Nat}{st:St}{kn:List (At×Bool)}{log:List Eff}{E:List D}{r:Res},
  ev C k (zco cx inl draw ops bf rest i st kn log) E=some r→E.length=st.nv→KnOk E kn →
  ∃ stf F es,r=.fin .normal stf (E++F)∧(E++F).length=stf.nv∧Steps cx inl C k (E++F) ops rest i st es stf∧(draw=true→zeo bf ((log.reverse++es).map (zb4 ops))=true)
 | [],i,st,kn,log,E,r,h,hE,hk=>by
  simp only [zco] at h
  split at h
  ·rename_i hc
   simp only [ev,wB0] at h
   refine ⟨st,[],[],by simp [h],by simpa using hE,rfl,fun hd=>?_⟩
   subst hd
   simpa [List.map_reverse] using hc
  ·simp [ev] at h
 | o::rest,i,st,kn,log,E,r,h,hE,hk=>by
  have go:∀ {kn:List (At×Bool)},KnOk E kn→GuardIs E st ops o true→ev C k (match zfZ cx inl kn st.slot st.root st.nv st.mem.length i o with
    | none=>.fail (zpE cx inl kn st.slot st.root st.nv st.mem.length o)
    | some e=>zgE e.bs (zco cx inl draw ops bf rest (i + 1) (st.after e) kn (e::log))) E=some r →
    ∃ stf F es,r=.fin .normal stf (E++F)∧(E++F).length=stf.nv∧Steps cx inl C k (E++F) ops (o::rest) i st es stf∧(draw=true→zeo bf ((log.reverse++es).map (zb4 ops))=true):=by
   intro kn hk hg h
   split at h
   ·simp [ev] at h
   ·rename_i e he
    obtain ⟨s,hr,p1,p2,p3,p4,p5,p6,p7,p8,p9,p10,p11⟩:=zeS he
    have hnv:=X.run_outs _ _ _ hr
    simp only [zjV,Nat.add_zero] at hnv
    obtain ⟨G,g1,g2,g3⟩:=zuh p11 h
    obtain ⟨stf,F,es,f1,f2,f3,f4⟩:=zdi g3 (by rw [zqr,p8,hnv,wI0,g1,hE,p4]) hk.app
    rw [List.append_assoc] at f1 f2 f3
    refine ⟨stf,G++F,e::es,f1,f2,⟨by rw [p2];exact hg.app,.inl ⟨p2,kn,hk.app,he,?_⟩,f3⟩,fun hd=>by simpa [List.append_assoc] using f4 hd⟩
    rw [← List.append_assoc]
    have hlen:(E++G).length=e.nv':=by rw [p8,hnv,wI0,g1,hE,p4]
    rw [← hlen]
    exact g2.app
  have skip:∀ {kn:List (At×Bool)},KnOk E kn→GuardIs E st ops o false→ev C k (zco cx inl draw ops bf rest (i + 1) (st.after (zf4 i o st)) kn (zf4 i o st::log)) E=some r →
    ∃ stf F es,r=.fin .normal stf (E++F)∧(E++F).length=stf.nv∧Steps cx inl C k (E++F) ops (o::rest) i st es stf∧(draw=true→zeo bf ((log.reverse++es).map (zb4 ops))=true):=by
   intro kn hk hg h
   obtain ⟨stf,F,es,f1,f2,f3,f4⟩:=zdi h (by rw [zqr];exact hE) hk
   exact ⟨stf,F,zf4 i o st::es,f1,f2,⟨hg.app,.inr rfl,f3⟩,fun hd=>by simpa [List.append_assoc] using f4 hd⟩
  obtain ⟨G1,G2,G3⟩:=zsd (st:=st) (ops:=ops) (o:=o) hk
  simp only [zco] at h
  split at h
  ·rename_i hgd
   exact go hk (G1 hgd) h
  ·rename_i hgd
   exact skip hk (G2 hgd) h
  ·rename_i a want hgd
   simp only [ev] at h
   have hk1:∀ {b:Bool},a.get E=some (.bool b)→KnOk E ((a,b)::kn):=fun ha c v hm=>by
    rcases List.mem_cons.1 hm with hm|hm
    ·injection hm with h1 h2
     subst h1 h2
     exact ha
    ·exact hk c v hm
   split at h
   ·rename_i ha
    have hg:=G3 a want true hgd ha
    cases want with
    | true=>simp only [if_true] at h;exact go (hk1 ha) hg h
    | false=>simp only [wA0,if_false] at h;exact skip (hk1 ha) hg h
   ·rename_i ha
    have hg:=G3 a want false hgd ha
    cases want with
    | true=>simp only [if_true] at h;exact skip (hk1 ha) hg h
    | false=>simp only [wA0,if_false] at h;exact go (hk1 ha) hg h
   ·cases h
  ·simp [ev] at h
end
end Go.SX
namespace Go.SX
open Go.RowKit (Below)
theorem zf2 {ρ ρ':Tmp→SV}:∀ {l:List (Nat×Operand)},(∀ x∈l.map (·.2),opnd ρ x=opnd ρ' x)→l.map (fun (i,x)=>(i,opnd ρ x))=l.map fun (i,x)=>(i,opnd ρ' x)
 | [],_=>rfl
 | (i,x)::l,h=>by
  simp only [List.map_cons]
  rw [h x (by simp),zf2 fun y hy=>h y (by simp only [List.map_cons,List.mem_cons];exact .inr hy)]
theorem zm4 {cx:Cx}{inl:FuncId→List SV→Nat→List Root→Option Inl}{kn:List (At×Bool)}{ρ ρ':Tmp→SV}{o:Oper}(h:∀ x∈o.op.operands,opnd ρ x=opnd ρ' x):zaG cx inl kn ρ o=zaG cx inl kn ρ' o:=by
 obtain ⟨dst,op,type,pos,after,guard⟩:=o
 have opts:∀ {x:Option Operand},(∀ y,x=some y→opnd ρ y=opnd ρ' y)→zeB ρ x=zeB ρ' x:=fun hx=>by
  rename_i x
  cases x with
  | none=>rfl
  | some y=>simp [zeB,hx y rfl]
 cases op<;>simp only [Op.operands] at h<;>(try rfl)
 case move x=>simp only [zaG];rw [h x (by simp)]
 case assign x=>simp only [zaG];rw [h x (by simp)]
 case pick c x y=>simp only [zaG];rw [h c (by simp),h x (by simp),h y (by simp)]
 case box t x=>simp only [zaG];rw [h x (by simp)]
 case build t ps=>simp only [zaG];rw [zf2 fun x hx=>h x (by simpa using hx)]
 case buildSlice t n ps=>simp only [zaG];rw [zf2 fun x hx=>h x (by simpa using hx)]
 case load t x=>simp only [zaG];rw [h x (by simp)]
 case store t x v=>simp only [zaG];rw [h x (by simp),h v (by simp)]
 case nilCheck x=>simp only [zaG];rw [h x (by simp)]
 case binOp op xt x y yt=>simp only [zaG];rw [h x (by simp),h y (by simp)]
 case unOp op xt x=>simp only [zaG];rw [h x (by simp)]
 case convert s d x=>simp only [zaG];rw [h x (by simp)]
 case makeFunc fn first captured =>
  cases fn<;>simp only [zaG]
  rw [List.map_congr_left (l:=first.toList) fun x hx=>h x (by simp at hx ⊢;exact .inl hx),List.map_congr_left (l:=captured.toList) fun x hx=>h x (by simp at hx ⊢;exact .inr hx)]
 case makeSlice t l c=>simp only [zaG];rw [h l (by simp),h c (by simp)]
 case slice t x lo hi mx =>
  simp only [zaG]
  rw [h x (by simp),opts (x:=lo) fun y hy=>h y (by subst hy;simp),opts (x:=hi) fun y hy=>h y (by subst hy;simp),opts (x:=mx) fun y hy=>h y (by subst hy;simp)]
 case fieldAddr t x j=>simp only [zaG];rw [h x (by simp)]
 case field t x j=>simp only [zaG];rw [h x (by simp)]
 case indexAddr t x i=>simp only [zaG];rw [h x (by simp),h i (by simp)]
 case index t x i=>simp only [zaG];rw [h x (by simp),h i (by simp)]
 case extract x j=>simp only [zaG];rw [h x (by simp)]
 case lookup t x i ok=>simp only [zaG];rw [h x (by simp),h i (by simp)]
 case mapUpdate t x i v=>simp only [zaG];rw [h x (by simp),h i (by simp),h v (by simp)]
 case call c =>
  obtain ⟨callee,args,argTypes⟩:=c
  have hargs:args.toList.map (opnd ρ)=args.toList.map (opnd ρ'):=List.map_congr_left fun x hx=>h x (by simp [Call.operands];exact .inr (by simpa using hx))
  cases callee with
  | value f=>simp only [zaG];rw [hargs,h f (by simp [Call.operands])]
  | builtin b=>simp only [zaG];rw [hargs]
  | invoke r m=>rfl
def putL (l:List SV) (t:Option Tmp) (s:SV):List SV:=match t with|none=>l|some t=>l.set t s
def zae (S:Nat→Bool):List Eff→List SV→List SV
 | [],l=>l
 | e::es,l=>zae S es (if S e.i then putL l e.dst e.sv else l)
def zah (S:Nat→Bool):List Eff→(Nat→Root)→(Nat→Root)
 | [],μ=>μ
 | e::es,μ=>zah S es (if S e.i then now μ e.up else μ)
def zcp (S:Nat→Bool) (es:List Eff) (ab:Nat) (r:Nat):Prop:=r<ab∨∃ e∈es,S e.i=true∧e.ab≤r∧r<e.ab'
theorem zoF (l:List SV) (t:Option Tmp) (s:SV):(putL l t s).length=l.length:=by cases t<;>simp [putL]
theorem zsD {l:List SV}{t:Option Tmp}{s:SV}{q:Tmp}(h:t≠some q):(putL l t s)[q]?=l[q]?:=by
 cases t with
 | none=>rfl
 | some t=>simp only [putL];exact List.getElem?_set_ne (fun e=>h (by rw [e]))
theorem zr9 {l:List SV}{t u:Option Tmp}{s v:SV}(h:∀ q,t=some q→u≠some q):putL (putL l t s) u v=putL (putL l u v) t s:=by
 cases t with
 | none=>rfl
 | some t=>cases u with
  | none=>rfl
  | some u=>simp only [putL];exact List.set_comm _ _ (fun e=>h t rfl (by rw [e]))
theorem zds (S:Nat→Bool):∀ (es es':List Eff) (l:List SV),zae S (es++es') l=zae S es' (zae S es l)
 | [],_,_=>rfl
 | e::es,es',l=>by simp only [List.cons_append,zae];exact zds S es es' _
theorem zdB (S:Nat→Bool):∀ (es es':List Eff) (μ:Nat→Root),zah S (es++es') μ=zah S es' (zah S es μ)
 | [],_,_=>rfl
 | e::es,es',μ=>by simp only [List.cons_append,zah];exact zdB S es es' _
theorem zgw {μ:Nat→Root}{up:List (Nat×Root)}{r:Nat}(h:r∉up.map (·.1)):now μ up r=μ r:=by
 induction up with
 | nil=>rfl
 | cons p l ih =>
  obtain ⟨q,R⟩:=p
  simp only [List.map_cons,List.mem_cons,not_or] at h
  rw [zdd,if_neg h.1,ih h.2]
theorem zt4 {μ μ':Nat→Root}{up:List (Nat×Root)}{r:Nat}(h:r∈up.map (·.1)):now μ up r=now μ' up r:=by
 induction up with
 | nil=>simp at h
 | cons p l ih =>
  obtain ⟨q,R⟩:=p
  rw [zdd,zdd]
  split
  ·rfl
  ·rename_i hne
   simp only [List.map_cons,List.mem_cons] at h
   exact ih (h.resolve_left hne)
theorem zsB {μ μ':Nat→Root}{up:List (Nat×Root)}{r:Nat}(h:μ r=μ' r):now μ up r=now μ' up r:=by
 by_cases hm:r∈up.map (·.1)
 ·exact zt4 hm
 ·rw [zgw hm,zgw hm,h]
theorem ztU {μ:Nat→Root}{up up':List (Nat×Root)}(h:∀ r,r∈up.map (·.1)→r∉up'.map (·.1)):now (now μ up) up'=now (now μ up') up:=by
 funext r
 by_cases h1:r∈up.map (·.1)
 ·rw [zgw (h r h1),zt4 h1]
 ·rw [zgw (μ:=now μ up') h1]
  exact zsB (zgw h1)
section
variable {S:Nat→Bool}
theorem zrS {t:Tmp}:∀ {es:List Eff}{l l':List SV},(∀ e∈es,S e.i=false→e.dst≠some t)→l[t]?=l'[t]?→l.length=l'.length→(zae S es l)[t]?=(zae (fun _=>true) es l')[t]?
 | [],l,l',_,h,_=>h
 | e::es,l,l',hd,h,hl=>by
  simp only [zae,if_true]
  refine zrS (fun e' he'=>hd e' (List.mem_cons_of_mem _ he')) ?_ ?_
  ·cases hS:S e.i with
   | true =>
    simp only [if_true]
    cases hdst:e.dst with
    | none=>exact h
    | some q =>
     simp only [putL]
     by_cases hq:q=t
     ·subst hq
      rw [List.getElem?_set,List.getElem?_set,if_pos rfl,if_pos rfl,hl]
     ·rw [List.getElem?_set_ne hq,List.getElem?_set_ne hq,h]
   | false =>
    simp only [wA0,if_false]
    rw [zsD (hd e (by simp) hS),h]
  ·split<;>simp [zoF,hl]
theorem zpO {t:Tmp}:∀ {es:List Eff}{l:List SV},(∀ e∈es,S e.i=true→e.dst≠some t)→(zae S es l)[t]?=l[t]?
 | [],_,_=>rfl
 | e::es,l,hd=>by
  simp only [zae]
  rw [zpO fun e' he'=>hd e' (List.mem_cons_of_mem _ he')]
  split
  ·rename_i hS;exact zsD (hd e (by simp) hS)
  ·rfl
theorem zp2 {r:Nat}:∀ {es:List Eff}{μ μ':Nat→Root},(∀ e∈es,S e.i=false→r∉e.up.map (·.1))→μ r=μ' r→zah S es μ r=zah (fun _=>true) es μ' r
 | [],_,_,_,h=>h
 | e::es,μ,μ',hd,h=>by
  simp only [zah,if_true]
  refine zp2 (fun e' he'=>hd e' (List.mem_cons_of_mem _ he')) ?_
  cases hS:S e.i with
  | true=>simp only [if_true];exact zsB h
  | false =>
   simp only [wA0,if_false]
   rw [zgw (hd e (by simp) hS),h]
theorem znR {r:Nat}:∀ {es:List Eff}{μ:Nat→Root},(∀ e∈es,S e.i=true→r∉e.up.map (·.1))→zah S es μ r=μ r
 | [],_,_=>rfl
 | e::es,μ,hd=>by
  simp only [zah]
  rw [znR fun e' he'=>hd e' (List.mem_cons_of_mem _ he')]
  split
  ·rename_i hS;exact zgw (hd e (by simp) hS)
  ·rfl
theorem zoM {t:Option Tmp}{v:SV}:∀ {es:List Eff}{l:List SV},(∀ e∈es,S e.i=true→∀ q,t=some q→e.dst≠some q)→zae S es (putL l t v)=putL (zae S es l) t v
 | [],_,_=>rfl
 | e::es,l,hd=>by
  simp only [zae]
  cases hS:S e.i with
  | true =>
   simp only [if_true]
   rw [zr9 fun q hq=>hd e (by simp) hS q hq]
   exact zoM fun e' he'=>hd e' (List.mem_cons_of_mem _ he')
  | false =>
   simp only [wA0,if_false]
   exact zoM fun e' he'=>hd e' (List.mem_cons_of_mem _ he')
theorem zmr {up:List (Nat×Root)}:∀ {es:List Eff}{μ:Nat→Root},(∀ e∈es,S e.i=true→∀ r,r∈up.map (·.1)→r∉e.up.map (·.1))→zah S es (now μ up)=now (zah S es μ) up
 | [],_,_=>rfl
 | e::es,μ,hd=>by
  simp only [zah]
  cases hS:S e.i with
  | true =>
   simp only [if_true]
   rw [ztU (hd e (by simp) hS)]
   exact zmr fun e' he'=>hd e' (List.mem_cons_of_mem _ he')
  | false =>
   simp only [wA0,if_false]
   exact zmr fun e' he'=>hd e' (List.mem_cons_of_mem _ he')
theorem zha {S S':Nat→Bool}:∀ {es:List Eff}{l:List SV},(∀ e∈es,S e.i=S' e.i)→zae S es l=zae S' es l
 | [],_,_=>rfl
 | e::es,l,h=>by
  simp only [zae]
  rw [h e (by simp)]
  exact zha fun e' he'=>h e' (List.mem_cons_of_mem _ he')
theorem zfy {S S':Nat→Bool}:∀ {es:List Eff}{μ:Nat→Root},(∀ e∈es,S e.i=S' e.i)→zah S es μ=zah S' es μ
 | [],_,_=>rfl
 | e::es,μ,h=>by
  simp only [zah]
  rw [h e (by simp)]
  exact zfy fun e' he'=>h e' (List.mem_cons_of_mem _ he')
end
theorem zfi:∀ (n:Nat) (l:List Root),(zhd n l).length=max n l.length
 | 0,l=>by simp [zhd]
 | n + 1,R::l=>by simp [zhd,zfi n l]<;>omega
 | n + 1,[]=>by simp [zhd,zfi n []]
theorem zkk:∀ (n:Nat) (l:List Root) (r:Nat),zac (zhd n l) r=zac l r
 | 0,l,r=>by simp [zhd]
 | n + 1,R::l,0=>rfl
 | n + 1,R::l,r + 1=>zkk n l r
 | n + 1,[],0=>rfl
 | n + 1,[],r + 1=>by
  have:=zkk n [] r
  simp only [zhd]
  show zac (zhd n []) r=_
  rw [this]
  simp [zac]
theorem zeA:∀ (up:List (Nat×Root)) (m:List Root),(zh8 up m).length=m.length
 | [],_=>rfl
 | (r,R)::l,m=>by simp [zh8,zeA l m]
theorem zlo:∀ {up:List (Nat×Root)}{m:List Root}(r:Nat),upOk m.length up=true→zac (zh8 up m) r=now (zac m) up r
 | [],m,r,_=>rfl
 | (q,R)::l,m,r,h=>by
  simp only [upOk,wD0,Nat.blt_eq] at h
  rw [zdd,← zlo r h.2]
  simp only [zh8,zac]
  by_cases hq:r=q
  ·subst hq
   rw [if_pos rfl,List.getElem?_set_self (by rw [zeA];exact h.1)]
   rfl
  ·rw [if_neg hq,List.getElem?_set_ne (Ne.symm hq)]
theorem zsk (st:St):st.root=zac st.mem:=rfl
theorem zq3 {st:St}{e:Eff}(h:upOk e.ab' e.up=true) (hl:st.mem.length≤e.ab'):(st.after e).root=now st.root e.up∧(st.after e).mem.length=e.ab':=by
 have hlen:(zhd e.ab' st.mem).length=e.ab':=by rw [zfi];omega
 refine ⟨?_,?_⟩
 ·funext r
  rw [zsk,zsk]
  show zac (zh8 e.up (zhd e.ab' st.mem)) r=_
  rw [zlo r (by rw [hlen];exact h)]
  exact zsB (zkk _ _ _)
 ·show (zh8 e.up (zhd e.ab' st.mem)).length=_
  rw [zeA,hlen]
section
variable {cx:Cx} {inl:FuncId→List SV→Nat→List Root→Option Inl} {C:FuncId→List D→Option (List D)} {k:Nat} {E:List D} {ops:List Oper}
structure EffOk (cx:Cx) (inl:FuncId→List SV→Nat→List Root→Option Inl) (C:FuncId→List D→Option (List D)) (k:Nat) (E:List D) (ops:List Oper) (o:Oper) (i:Nat) (st:St) (e:Eff):Prop where
 guard:GuardIs E st ops o e.run
 i:e.i=i
 dst:e.dst=o.dst
 ab:e.ab=st.mem.length
 ab':e.ab≤e.ab'
 up:upOk e.ab' e.up=true
 eff:(e.run=true∧∃ kn s,KnOk E kn∧(zaG cx inl kn st.slot o).run st.root ⟨[],st.nv,[],st.mem.length⟩=some (e.sv,s,e.foot)∧e.bs=s.bs∧e.up=s.up∧e.ab'=s.ab∧Sat C k E s.bs s.nv)∨(e.run=false∧e.sv=.tu []∧e.up=[]∧e.ab'=e.ab∧e.bs=[])
theorem EffOk.of {o:Oper}{i:Nat}{st:St}{e:Eff}(hg:GuardIs E st ops o e.run)
  (h:(e.run=true∧∃ kn,KnOk E kn∧zfZ cx inl kn st.slot st.root st.nv st.mem.length i o=some e∧Sat C k E e.bs e.nv')∨e=zf4 i o st):EffOk cx inl C k E ops o i st e:=by
 rcases h with ⟨h1,kn,h2,h3,h4⟩|h
 ·obtain ⟨s,hr,p1,p2,p3,p4,p5,p6,p7,p8,p9,p10,p11⟩:=zeS h3
  have hab:=(X.run_mono _ _ _ hr).2.1
  simp only at hab
  exact ⟨hg,p1,p3,p7,by rw [p7,p9];exact hab,p10,.inl ⟨h1,kn,s,h2,hr,p4,p5,p9,by rw [← p4,← p8];exact h4⟩⟩
 ·subst h
  exact ⟨hg,rfl,rfl,rfl,wG0 _,rfl,.inr ⟨rfl,rfl,rfl,rfl,rfl⟩⟩
theorem EffOk.after {o:Oper}{i:Nat}{st:St}{e:Eff}(h:EffOk cx inl C k E ops o i st e):(st.after e).root=now st.root e.up∧(st.after e).mem.length=e.ab'∧(st.after e).slots=putL st.slots e.dst e.sv:=by
 obtain ⟨h1,h2⟩:=zq3 h.up (by rw [← h.ab];exact h.ab')
 exact ⟨h1,h2,by cases hd:e.dst<;>simp [St.after,St.put,putL,hd]⟩
theorem Steps.len:∀ {rest:List Oper}{i:Nat}{st stf:St}{es:List Eff},Steps cx inl C k E ops rest i st es stf→es.length=rest.length
 | [],_,_,_,[],_=>rfl
 | o::rest,i,st,stf,e::es,h=>by simp [Steps.len h.2.2]
 | [],_,_,_,_::_,h=>h.elim
 | _::_,_,_,_,[],h=>h.elim
theorem Steps.all:∀ {rest:List Oper}{i:Nat}{st stf:St}{es:List Eff},Steps cx inl C k E ops rest i st es stf →
  stf.slots=zae (fun _=>true) es st.slots∧stf.root=zah (fun _=>true) es st.root∧st.mem.length≤stf.mem.length∧(∀ e∈es,st.mem.length≤e.ab∧e.ab≤e.ab'∧e.ab'≤stf.mem.length∧i≤e.i∧e.i<i + rest.length) ∧
  (∀ r,st.mem.length≤r→r<stf.mem.length→∃ e∈es,e.ab≤r∧r<e.ab')∧stf.base=st.base
 | [],i,st,stf,[],h=>by
  have:stf=st:=h
  subst this
  exact ⟨rfl,rfl,wG0 _,by simp,fun r h1 h2=>by omega,rfl⟩
 | o::rest,i,st,stf,e::es,h=>by
  have he:=EffOk.of (i:=i) h.1 h.2.1
  obtain ⟨a1,a2,a3⟩:=he.after
  obtain ⟨b1,b2,b3,b4,b5,b6⟩:=Steps.all h.2.2
  rw [a2] at b3 b4 b5
  refine ⟨by simp only [zae,if_true];rw [b1,a3],by simp only [zah,if_true];rw [b2,a1],?_,fun e' he'=>?_,fun r h1 h2=>?_,b6⟩
  ·have:=he.ab;have:=he.ab';omega
  ·rcases List.mem_cons.1 he' with h1|h1
   ·subst h1
    have:=he.ab;have:=he.ab';have:=he.i
    simp only [List.length_cons]
    exact ⟨by omega,by omega,by omega,by omega,by omega⟩
   ·obtain ⟨c1,c2,c3,c4,c5⟩:=b4 e' h1
    have:=he.ab;have:=he.ab'
    simp only [List.length_cons]
    exact ⟨by omega,by omega,by omega,by omega,by omega⟩
  ·by_cases hr:r<e.ab'
   ·exact ⟨e,by simp,by rw [he.ab];exact h1,hr⟩
   ·obtain ⟨e',c1,c2⟩:=b5 r (by omega) h2
    exact ⟨e',by simp [c1],c2⟩
 | [],_,_,_,_::_,h=>h.elim
 | _::_,_,_,_,[],h=>h.elim
theorem Steps.split:∀ {r1:List Oper}{o:Oper}{r2:List Oper}{i:Nat}{st stf:St}{es:List Eff},Steps cx inl C k E ops (r1++o::r2) i st es stf →
  ∃ pre e post stn,es=pre++e::post∧pre.length=r1.length∧Steps cx inl C k E ops r1 i st pre stn∧EffOk cx inl C k E ops o (i + r1.length) stn e∧Steps cx inl C k E ops r2 (i + r1.length + 1) (stn.after e) post stf
 | [],o,r2,i,st,stf,e::es,h=>⟨[],e,es,st,rfl,rfl,rfl,EffOk.of h.1 h.2.1,h.2.2⟩
 | o1::r1,o,r2,i,st,stf,e1::es,h=>by
  obtain ⟨pre,e,post,stn,h1,h2,h3,h4,h5⟩:=Steps.split h.2.2
  refine ⟨e1::pre,e,post,stn,by rw [h1];rfl,by simp [h2],⟨h.1,h.2.1,h3⟩,?_,?_⟩
  ·have:i + 1 + r1.length=i + (o1::r1).length:=by simp only [List.length_cons];omega
   rw [← this];exact h4
  ·have:i + 1 + r1.length=i + (o1::r1).length:=by simp only [List.length_cons];omega
   rw [← this];exact h5
 | [],_,_,_,_,_,[],h=>h.elim
 | _::_,_,_,_,_,_,[],h=>h.elim
end
end Go.SX
namespace Go.SX
open Go.RowKit (Below)
def mkD (r:Nat):Deferred:={ target:=.collected r,args:=#[] }
def Marks (B0:Nat) (w0 w:World) (ds:List Deferred):Prop:=∃ rs:List Nat,ds=rs.map mkD∧rs.Nodup∧∀ r∈rs,B0≤r∧w0.heap.size≤r∧w.heap[r]?=some (.deferred (some []))
theorem Marks.none {B0:Nat}{w0 w:World}:Marks B0 w0 w []:=⟨[],rfl,.nil,fun _ h=>by cases h⟩
theorem Mem.not_own {B0:Nat}{X:Ctx}(m:Mem B0 X) {r:Nat}{o:Obj}(hr:B0≤r) (h:X.w.heap[r]?=some o) (ho:¬ Held o):¬ X.M r:=by
 rintro (hf|⟨q,hA,hq⟩)
 ·exact absurd (m.frame r hf) (by omega)
 ·obtain ⟨o',h',ho'⟩:=m.held hA hq
  rw [h] at h'
  injection h' with h'
  subst h'
  exact ho ho'
theorem zmF {ds:Option (List Deferred)}:¬ Held (.deferred ds):=by rintro (⟨_,_,_,h⟩|⟨_,_,h⟩)<;>cases h
theorem Marks.ext {B0:Nat}{w0:World}{X X':Ctx}{ds:List Deferred}(m:Mem B0 X) (x:Ext X X') (h:Marks B0 w0 X.w ds):Marks B0 w0 X'.w ds:=by
 obtain ⟨rs,h1,h2,h3⟩:=h
 refine ⟨rs,h1,h2,fun r hr=>?_⟩
 obtain ⟨g1,g2,g3⟩:=h3 r hr
 exact ⟨g1,g2,(x.K.heap r (lt_of_heap g3) (m.not_own g1 g3 zmF)).trans g3⟩
def Inv (B0:Nat) (w0:World) (Xe:Ctx) (E:List D) (sl:List SV) (μ:Nat→Root) (A:Nat→Prop) (a:Act) (w:World):Prop :=
 ∃ X:Ctx,X.E=E∧X.w=w∧X.μ=μ∧(∀ r,X.A r↔A r)∧Mem B0 X∧Ext Xe X∧Below B0 w0 w∧a.tmps.size=sl.length∧Marks B0 w0 w a.defers∧∀ t,VRep X ((sl[t]?).getD (.un 1)) (a.tmps.getD t undef)
theorem zmn {X:Ctx}{sl:List SV}{a:Act}(hs:a.tmps.size=sl.length) (h:∀ t,VRep X ((sl[t]?).getD (.un 1)) (a.tmps.getD t undef)) (dst:Option Tmp) {s:SV}{v:Value}(hv:VRep X s v) :
  (a.put dst v).tmps.size=(putL sl dst s).length∧(a.put dst v).defers=a.defers∧∀ t,VRep X (((putL sl dst s)[t]?).getD (.un 1)) ((a.put dst v).tmps.getD t undef):=by
 cases dst with
 | none=>exact ⟨hs,rfl,h⟩
 | some d =>
  refine ⟨by simp [Act.put,putL,hs],rfl,fun t=>?_⟩
  simp only [Act.put,putL]
  by_cases ht:d=t
  ·subst ht
   rcases Nat.lt_or_ge d sl.length with hlt|hge
   ·rw [List.getElem?_set_self hlt]
    have:d<a.tmps.size:=by rw [hs];exact hlt
    simp [Array.getD_eq_getD_getElem?,this]
    exact hv
   ·rw [List.getElem?_eq_none (by simpa using hge)]
    simp only [Option.getD_none,VRep]
  ·rw [List.getElem?_set_ne ht]
   have:=h t
   simp only [Array.getD_eq_getD_getElem?] at this ⊢
   rw [Array.getElem?_setIfInBounds_ne ht]
   exact this
theorem zdC {a b:List Nat}(h:disj a b=true) {x:Nat}(ha:x∈a) (hb:x∈b):False:=by
 simp only [disj,List.all_eq_true,Bool.not_eq_true',List.contains_eq_mem,decide_eq_false_iff_not] at h
 exact h x ha hb
structure zsZ (ops:List Oper) (a b:Eff):Prop where
 wr:∀ r,r∈a.up.map (·.1)→r∉b.foot
 ww:∀ r,r∈a.up.map (·.1)→r∉b.up.map (·.1)
 rw_:∀ r,r∈b.up.map (·.1)→r∉a.foot
 twr:∀ o t,ops[b.i]?=some o→a.dst=some t→t∉zgL o++ze1 ops o
 tww:∀ t,a.dst=some t→b.dst≠some t
 trw:∀ o t,ops[a.i]?=some o→b.dst=some t→t∉zgL o++ze1 ops o
 subA:zg8 a.bs=true→¬ b.ab<b.ab'
 subB:zg8 b.bs=true→¬ a.ab<a.ab'
theorem zqd {ops:List Oper}{a b:Eff}{oa ob:Oper}(ha:ops[a.i]?=some oa) (hb:ops[b.i]?=some ob) (hda:a.dst=oa.dst) (hdb:b.dst=ob.dst) (h:zon (zb4 ops a) (zb4 ops b)=true):zsZ ops a b:=by
 simp only [zon,zb4,ha,hb,wD0] at h
 obtain ⟨⟨⟨⟨⟨h1,h2⟩,h3⟩,h4⟩,h5⟩,h6⟩:=h
 have wsa:∀ r,r∈a.up.map (·.1)→r∈(if zg8 a.bs=true then zdz::a.up.map (·.1) else a.up.map (·.1)):=fun r hr=>by split<;>simp_all
 have wsb:∀ r,r∈b.up.map (·.1)→r∈(if zg8 b.bs=true then zdz::b.up.map (·.1) else b.up.map (·.1)):=fun r hr=>by split<;>simp_all
 have rsa:∀ r,r∈a.foot→r∈(if Nat.blt a.ab a.ab'=true then zdz::a.foot else a.foot):=fun r hr=>by split<;>simp_all
 have rsb:∀ r,r∈b.foot→r∈(if Nat.blt b.ab b.ab'=true then zdz::b.foot else b.foot):=fun r hr=>by split<;>simp_all
 exact
  {wr:=fun r h h'=>zdC h1 (wsa r h) (rsb r h')
   ww:=fun r h h'=>zdC h2 (wsa r h) (wsb r h')
   rw_:=fun r h h'=>zdC h3 (wsb r h) (rsa r h')
   twr:=fun o t ho ht hm=>by
    rw [hb] at ho
    injection ho with ho
    subst ho
    exact zdC h4 (x:=t) (by rw [← hda,ht];simp) hm
   tww:=fun t ht ht'=>zdC h5 (x:=t) (by rw [← hda,ht];simp) (by rw [← hdb,ht'];simp)
   trw:=fun o t ho ht hm=>by
    rw [ha] at ho
    injection ho with ho
    subst ho
    exact zdC h6 (x:=t) (by rw [← hdb,ht];simp) hm
   subA:=fun h hlt=>zdC h1 (x:=zdz) (by rw [if_pos h];simp) (by rw [if_pos (by rw [Nat.blt_eq];exact hlt)];simp)
   subB:=fun h hlt=>zdC h3 (x:=zdz) (by rw [if_pos h];simp) (by rw [if_pos (by rw [Nat.blt_eq];exact hlt)];simp) }
section
variable {cx:Cx} {inl:FuncId→List SV→Nat→List Root→Option Inl} {C:FuncId→List D→Option (List D)} {k B0:Nat} {E:List D}
def addS (S:Nat→Bool) (i:Nat):Nat→Bool:=fun j=>S j||j==i
theorem zpM {ro:Option Nat}(ty:TysOk cx) (hC:CallsOk cx C) (hI:InlOk cx C k inl) {opsA:Array Oper}{w0:World}{Xe:Ctx}(hB0:B0≤w0.heap.size) {st stn stf:St}{pre post:List Eff}{e:Eff}{o:Oper}{r1 r2:List Oper}{Q:Exit→Act→World→Prop}
  (h1:Steps cx inl C k E opsA.toList r1 0 st pre stn) (he:EffOk cx inl C k E opsA.toList o r1.length stn e) (h2:Steps cx inl C k E opsA.toList r2 (r1.length + 1) (stn.after e) post stf) (ho:opsA[r1.length]?=some o)
  {S:Nat→Bool} (hSi:S e.i=false) (hpre:∀ e'∈pre,S e'.i=false→zsZ opsA.toList e' e) (hpost:∀ e'∈post,S e'.i=true→zsZ opsA.toList e e')
  {a:Act} {w:World} (hinv:Inv B0 w0 Xe E (zae S (pre++e::post) st.slots) (zah S (pre++e::post) st.root) (zcp S (pre++e::post) st.mem.length) a w) :
  wpOpIn (FR ro) 0 cx.P opsA Q r1.length (fun a' w'=>Inv B0 w0 Xe E (zae (addS S e.i) (pre++e::post) st.slots) (zah (addS S e.i) (pre++e::post) st.root) (zcp (addS S e.i) (pre++e::post) st.mem.length) a' w') a w:=by
 have ei:=he.i
 have hoL:opsA.toList[e.i]?=some o:=by rw [ei,Array.getElem?_toList];exact ho
 obtain ⟨s1,s2,s3,s4,s5,s6⟩:=h1.all
 obtain ⟨p1,p2,p3,p4,p5,p6⟩:=h2.all
 obtain ⟨a1,a2,a3⟩:=he.after
 have slotAt:∀ t,t∈zgL o++ze1 opsA.toList o→(zae S (pre++e::post) st.slots)[t]?=stn.slots[t]?:=fun t ht=>by
  rw [zds]
  simp only [zae,hSi,wA0,if_false]
  rw [zpO fun e' he' hS=>fun hd=>(hpost e' he' hS).trw o t hoL hd ht,s1]
  exact zrS (fun e' he' hS=>fun hd=>(hpre e' he' hS).twr o t hoL hd ht) rfl rfl
 have rootAt:∀ r,r∈e.foot→zah S (pre++e::post) st.root r=stn.root r:=fun r hr=>by
  rw [zdB]
  simp only [zah,hSi,wA0,if_false]
  rw [znR fun e' he' hS=>fun hd=>(hpost e' he' hS).rw_ r hd hr,s2]
  exact zp2 (fun e' he' hS=>fun hd=>(hpre e' he' hS).wr r hd hr) rfl
 have hnot:∀ e'∈pre++post,e'.i≠e.i:=fun e' he' h=>by
  rcases List.mem_append.1 he' with hm|hm
  ·have:=(s4 e' hm).2.2.2.2;omega
  ·have:=(p4 e' hm).2.2.2.1;omega
 have slots':zae (addS S e.i) (pre++e::post) st.slots=putL (zae S (pre++e::post) st.slots) e.dst e.sv:=by
  rw [zds,zds]
  have e1:(addS S e.i) e.i=true:=by simp [addS]
  simp only [zae,hSi,e1,wA0,if_false,if_true]
  rw [zha (S:=addS S e.i) (S':=S) (es:=pre) fun e' he'=>by simp [addS,hnot e' (List.mem_append_left _ he')],zha (S:=addS S e.i) (S':=S) (es:=post) fun e' he'=>by simp [addS,hnot e' (List.mem_append_right _ he')]]
  exact zoM fun e' he' hS q hq=>(hpost e' he' hS).tww q hq
 have roots':zah (addS S e.i) (pre++e::post) st.root=now (zah S (pre++e::post) st.root) e.up:=by
  rw [zdB,zdB]
  have e1:(addS S e.i) e.i=true:=by simp [addS]
  simp only [zah,hSi,e1,wA0,if_false,if_true]
  rw [zfy (S:=addS S e.i) (S':=S) (es:=pre) fun e' he'=>by simp [addS,hnot e' (List.mem_append_left _ he')],zfy (S:=addS S e.i) (S':=S) (es:=post) fun e' he'=>by simp [addS,hnot e' (List.mem_append_right _ he')]]
  exact zmr fun e' he' hS q hq=>(hpost e' he' hS).ww q hq
 have names':∀ r,zcp (addS S e.i) (pre++e::post) st.mem.length r↔zcp S (pre++e::post) st.mem.length r∨(e.ab≤r∧r<e.ab'):=fun r=>by
  unfold zcp
  constructor
  ·rintro (h|⟨e',hm,hS,h⟩)
   ·exact .inl (.inl h)
   ·simp only [addS,Bool.or_eq_true,beq_iff_eq] at hS
    rcases hS with hS|hS
    ·exact .inl (.inr ⟨e',hm,hS,h⟩)
    ·have:e'=e:=by
      rcases List.mem_append.1 hm with hm|hm
      ·exact absurd hS (hnot e' (List.mem_append_left _ hm))
      ·rcases List.mem_cons.1 hm with hm|hm
       ·exact hm
       ·exact absurd hS (hnot e' (List.mem_append_right _ hm))
     subst this
     exact .inr h
  ·rintro ((h|⟨e',hm,hS,h⟩)|h)
   ·exact .inl h
   ·exact .inr ⟨e',hm,by simp [addS,hS],h⟩
   ·exact .inr ⟨e,by simp,by simp [addS],h⟩
 rw [slots',roots']
 obtain ⟨X,x1,x2,x3,x4,x5,x6,x7,x8,x9,x10⟩:=hinv
 have hB:B0≤X.w.heap.size:=by rw [x2];exact Nat.le_trans hB0 x7.size
 have hwant:Region.wanted o (yielded opsA a.tmps)=e.run:=by
  have hg:=he.guard
  unfold GuardIs at hg
  unfold Region.wanted
  cases hgd:o.guard with
  | none=>simp only [hgd] at hg;rw [hg]
  | some p =>
   obtain ⟨j,want⟩:=p
   simp only [hgd] at hg ⊢
   obtain ⟨s,hs1,hs2⟩:=hg
   unfold guardOf at hs1
   cases hoj:opsA.toList[j]? with
   | none=>simp [hoj] at hs1
   | some oj =>
    simp only [hoj] at hs1
    cases hdj:oj.dst with
    | none=>simp [hdj] at hs1
    | some t =>
     simp only [hdj,wB0] at hs1
     have hsl:=slotAt t (List.mem_append_right _ (by simp [ze1,hgd,hoj,hdj]))
     have hst:stn.slot t=((zae S (pre++e::post) st.slots)[t]?).getD (.un 1):=by rw [hsl];rfl
     have hv:=zaI (x10 t)
     rw [← hst,hs1] at hv
     have hoj':opsA[j]?=some oj:=by rw [← Array.getElem?_toList];exact hoj
     have hy:yielded opsA a.tmps j=(match a.tmps[t]? with|some (.bool b)=>some b|_=>none):=by
      simp [yielded,hoj',hdj]
      rfl
     have hin:t<a.tmps.size:=by
      rcases Nat.lt_or_ge t a.tmps.size with h|h
      ·exact h
      ·have:stn.slot t=.un 1:=by rw [hst,List.getElem?_eq_none (by omega)];rfl
       rw [this] at hs1
       subst hs1
       rcases hs2 with ⟨a',b,h,_⟩|⟨h,_⟩<;>cases h
     have hget:a.tmps.getD t undef=a.tmps[t]:=by simp [Array.getD_eq_getD_getElem?,hin]
     rw [hget] at hv
     rw [hy,Array.getElem?_eq_getElem hin]
     rcases hs2 with ⟨a',b,h,ha',hr⟩|⟨h,hr⟩
     ·subst h
      obtain ⟨d,hd,hdv⟩:=VRep.data.1 hv
      rw [x1,ha'] at hd
      injection hd with hd
      subst hd
      obtain ⟨b',e1,e2⟩:=hdv.bool
      injection e1 with e1
      subst e1
      rw [e2,hr]
      simp
     ·subst h
      simp only [VRep,VRepL] at hv
      obtain ⟨vs,hv,_⟩:=hv
      rw [hv,hr]
      rfl
 unfold wpOpIn
 rw [ho]
 simp only
 rw [hwant]
 rcases he.eff with ⟨hrun,kn,s,hkn,hr,hbs,hup,hab',hsat⟩|⟨hrun,hsv,hup,hab,hbs⟩
 ·rw [hrun]
  simp only [if_true]
  have hρ:∀ t,VRep X (((zae S (pre++e::post) st.slots)[t]?).getD (.un 1)) (a.tmps.getD t undef):=x10
  have hcong:zaG cx inl kn stn.slot o=zaG cx inl kn (fun t=>((zae S (pre++e::post) st.slots)[t]?).getD (.un 1)) o:=zm4 fun x hx=>by
   cases x with
   | tmp t =>
    simp only [opnd]
    have:=slotAt t (List.mem_append_left _ (by
     simp only [zgL,List.mem_filterMap]
     exact ⟨.tmp t,by simpa using hx,rfl⟩))
    rw [this]
    rfl
   | _=>rfl
  have hr2:Run (zaG cx inl kn (fun t=>((zae S (pre++e::post) st.slots)[t]?).getD (.un 1)) o) X.μ ⟨[],stn.nv,[],stn.mem.length⟩ e.sv s:=by
   rw [← hcong]
   exact ⟨e.foot,SX.X.run_local stn.root X.μ _ _ hr fun r hr=>by rw [x3,rootAt r hr]⟩
  have hfr:∀ r,stn.mem.length≤r→r<s.ab→¬ X.A r:=fun r h1 h2 hA=>by
   rw [x4 r] at hA
   have hae:=he.ab
   rcases hA with h|⟨e',hm,hS,h3,h4⟩
   ·omega
   ·rcases List.mem_append.1 hm with hm|hm
    ·have:=(s4 e' hm).2.2.1;omega
    ·rcases List.mem_cons.1 hm with hm|hm
     ·subst hm;rw [hSi] at hS;cases hS
     ·have:=(p4 e' hm).1
      rw [a2] at this
      omega
  have hA:zg8 s.bs=true→∀ r,X.A r↔r<stn.mem.length:=fun hsub r=>by
   rw [← hbs] at hsub
   rw [x4 r]
   constructor
   ·rintro (h|⟨e',hm,hS,h3,h4⟩)
    ·omega
    ·rcases List.mem_append.1 hm with hm|hm
     ·have:=(s4 e' hm).2.2.1;omega
     ·rcases List.mem_cons.1 hm with hm|hm
      ·subst hm;rw [hSi] at hS;cases hS
      ·exact absurd (Nat.lt_of_le_of_lt h3 h4) ((hpost e' hm hS).subA hsub)
   ·intro h
    by_cases hr:r<st.mem.length
    ·exact .inl hr
    ·obtain ⟨e',hm,h3,h4⟩:=s5 r (by omega) h
     refine .inr ⟨e',List.mem_append_left _ hm,?_,h3,h4⟩
     cases hS:S e'.i with
     | true=>rfl
     | false=>exact absurd (Nat.lt_of_le_of_lt h3 h4) ((hpre e' hm hS).subB hsub)
  have hold:=zn6 ty hC hI hB x5 (kn:=kn) (fun a b hm=>by rw [x1];exact hkn a b hm) hρ rfl hr2 (by rw [x1];exact hsat) hfr hA
  have hold':=hold ro (fun a' w'=>Inv B0 w0 Xe E (putL (zae S (pre++e::post) st.slots) e.dst e.sv) (now (zah S (pre++e::post) st.root) e.up) (zcp (addS S e.i) (pre++e::post) st.mem.length) a' w') Q (fun v w' ⟨X',nx,hv⟩=>by
   rw [← he.dst]
   obtain ⟨g1,g2,g3⟩:=zmn (X:=X') (s:=e.sv) (v:=v) x8 (fun t=>VRep.ext nx.ext (x10 t)) e.dst hv
   refine ⟨X',by rw [nx.E,x1],nx.w,by rw [nx.μ,x3,hup],fun r=>?_,nx.mem,x6.trans nx.ext,x7.trans (by rw [← x2];exact nx.below),g1,by rw [g2,← nx.w];exact Marks.ext x5 nx.ext (by rw [x2];exact x9),g3⟩
   rw [nx.A r,x4 r,names' r,he.ab,hab'])
  rw [x2] at hold'
  exact hold'
 ·rw [hrun]
  simp only [wA0,if_false]
  obtain ⟨g1,g2,g3⟩:=zmn (X:=X) (s:=e.sv) (v:=undef) x8 x10 e.dst (by rw [hsv];simp only [VRep,VRepL];exact ⟨#[],rfl,rfl⟩)
  rw [← he.dst]
  refine ⟨fun _ _=>trivial,X,x1,x2,by rw [x3,hup];rfl,fun r=>?_,x5,x6,x7,g1,by rw [g2];exact x9,g3⟩
  rw [x4 r,names' r]
  constructor
  ·exact .inl
  ·rintro (h|h)
   ·exact h
   ·omega
end
end Go.SX
namespace Go.SX
open Go.RowKit (Below)
section
variable {cx:Cx} {inl:FuncId→List SV→Nat→List Root→Option Inl} {C:FuncId→List D→Option (List D)} {k B0:Nat} {E:List D}
theorem zpk {w0:World}{Xe:Ctx}{ops:List Oper}{st stf:St}{es:List Eff}{S:Nat→Bool}(h:Steps cx inl C k E ops ops 0 st es stf) (hS:∀ e∈es,S e.i=true) {a:Act}{w:World}
  (hinv:Inv B0 w0 Xe E (zae S es st.slots) (zah S es st.root) (zcp S es st.mem.length) a w):Inv B0 w0 Xe E stf.slots stf.root (fun r=>r<stf.mem.length) a w:=by
 obtain ⟨s1,s2,s3,s4,s5,_⟩:=h.all
 rw [zha (S':=fun _=>true) (fun e he=>hS e he),zfy (S':=fun _=>true) (fun e he=>hS e he),← s1,← s2] at hinv
 obtain ⟨X,x1,x2,x3,x4,rest⟩:=hinv
 refine ⟨X,x1,x2,x3,fun r=>?_,rest⟩
 rw [x4 r]
 constructor
 ·rintro (h|⟨e,he,_,h1,h2⟩)
  ·omega
  ·have:=(s4 e he).2.2.1;omega
 ·intro hr
  by_cases h:r<st.mem.length
  ·exact .inl h
  ·obtain ⟨e,he,h1,h2⟩:=s5 r (by omega) hr
   exact .inr ⟨e,he,hS e he,h1,h2⟩
theorem zqh {w0:World}{Xe:Ctx}{st:St}{es:List Eff}{S:Nat→Bool}(hS:∀ e∈es,S e.i=false) {a:Act}{w:World}(hinv:Inv B0 w0 Xe E st.slots st.root (fun r=>r<st.mem.length) a w) :
  Inv B0 w0 Xe E (zae S es st.slots) (zah S es st.root) (zcp S es st.mem.length) a w:=by
 have h1:∀ (es:List Eff) (l:List SV),(∀ e∈es,S e.i=false)→zae S es l=l:=by
  intro es
  induction es with
  | nil=>intro l _;rfl
  | cons e es ih=>intro l h;simp only [zae,h e (by simp),wA0,if_false];exact ih l fun e' he'=>h e' (List.mem_cons_of_mem _ he')
 have h2:∀ (es:List Eff) (μ:Nat→Root),(∀ e∈es,S e.i=false)→zah S es μ=μ:=by
  intro es
  induction es with
  | nil=>intro l _;rfl
  | cons e es ih=>intro l h;simp only [zah,h e (by simp),wA0,if_false];exact ih l fun e' he'=>h e' (List.mem_cons_of_mem _ he')
 rw [h1 es _ hS,h2 es _ hS]
 obtain ⟨X,x1,x2,x3,x4,rest⟩:=hinv
 refine ⟨X,x1,x2,x3,fun r=>?_,rest⟩
 rw [x4 r]
 constructor
 ·exact .inl
 ·rintro (h|⟨e,he,hS',_⟩)
  ·exact h
  ·rw [hS e he] at hS';cases hS'
theorem zdl {ops:List Oper}{i:Nat}{o:Oper}(h:ops[i]?=some o):ops=ops.take i++o::ops.drop (i + 1):=by
 have hlt:=(List.getElem?_eq_some_iff.1 h).1
 have:=(List.getElem?_eq_some_iff.1 h).2
 rw [← this,List.getElem_cons_drop,List.take_append_drop]
theorem zoK {ro:Option Nat}(ty:TysOk cx) (hC:CallsOk cx C) (hI:InlOk cx C k inl) {opsA:Array Oper}{w0:World}{Xe:Ctx}(hB0:B0≤w0.heap.size) {st stf:St}{es:List Eff}(h:Steps cx inl C k E opsA.toList opsA.toList 0 st es stf) {Q:Exit→Act→World→Prop}
  (hQ:∀ a w,Inv B0 w0 Xe E stf.slots stf.root (fun r=>r<stf.mem.length) a w→Q .normal a w) {a:Act} {w:World} (hinv:Inv B0 w0 Xe E st.slots st.root (fun r=>r<st.mem.length) a w):wpOpsIn (FR ro) 0 cx.P opsA Q (List.range opsA.size) a w:=by
 have hall:=h.all.2.2.2.1
 have main:∀ (m i:Nat) (a:Act) (w:World),i + m=opsA.size→Inv B0 w0 Xe E (zae (fun j=>decide (j<i)) es st.slots) (zah (fun j=>decide (j<i)) es st.root) (zcp (fun j=>decide (j<i)) es st.mem.length) a w →
   wpOpsIn (FR ro) 0 cx.P opsA Q (List.range' i m) a w:=by
  intro m
  induction m with
  | zero =>
   intro i a w hi hinv
   refine hQ a w (zpk h (fun e he=>?_) hinv)
   have:=(hall e he).2.2.2.2
   simp at this ⊢
   omega
  | succ m ih =>
   intro i a w hi hinv
   have hlt:i<opsA.size:=by omega
   have ho:opsA[i]?=some opsA[i]:=Array.getElem?_eq_getElem hlt
   have hoL:opsA.toList[i]?=some opsA[i]:=by rw [Array.getElem?_toList];exact ho
   rw [List.range'_succ,wpOpsIn_cons]
   have hsp:=h
   rw [zdl hoL] at hsp
   have hlen:(opsA.toList.take i).length=i:=by rw [wE0];simp;omega
   obtain ⟨pre,e,post,stn,e1,e2,h1,he,h2⟩:=Steps.split (ops:=opsA.toList.take i++opsA[i]::opsA.toList.drop (i + 1)) hsp
   rw [← zdl hoL] at h1 he h2
   rw [Nat.zero_add,hlen] at he h2
   have ei:=he.i
   subst e1
   have hst:=zpM (ro:=ro) (Q:=Q) ty hC hI hB0 (r1:=opsA.toList.take i) (o:=opsA[i]) h1 (by rw [hlen];exact he) (by rw [hlen];exact h2) (by rw [hlen];exact ho) (S:=fun j=>decide (j<i)) (by simp [ei]) (fun e' he' hS=>by
     have:=(h1.all.2.2.2.1 e' he').2.2.2.2
     rw [hlen] at this
     simp at hS
     omega) (fun e' he' hS=>by
     have:=(h2.all.2.2.2.1 e' he').2.2.2.1
     simp at hS
     omega) hinv
   rw [hlen] at hst
   refine wpOpIn_mono (fun a' w' hinv'=>ih (i + 1) a' w' (by omega) ?_) hst
   have:addS (fun j=>decide (j<i)) e.i=fun j=>decide (j<i + 1):=by
    funext j
    simp only [addS,ei]
    by_cases h1:j<i
    ·simp [h1,Nat.lt_succ_of_lt h1]
    ·by_cases h2:j=i
     ·subst h2
      simp
     ·have h3:¬ j<i + 1:=by omega
      simp [h1,h2,h3]
   rw [this] at hinv'
   exact hinv'
 rw [List.range_eq_range']
 exact main opsA.size 0 a w (by omega) (zqh (fun e he=>by simp) hinv)
def cnt (p:Nat→Bool):Nat→Nat
 | 0=>0
 | n + 1=>cnt p n + (if p n then 1 else 0)
theorem ztZ {p q:Nat→Bool}(h:∀ j,p j=true→q j=true):∀ n,cnt p n≤cnt q n
 | 0=>wG0 _
 | n + 1=>by
  have:=ztZ h n
  simp only [cnt]
  by_cases hp:p n=true
  ·rw [if_pos hp,if_pos (h n hp)];omega
  ·rw [if_neg hp];split<;>omega
theorem cnt_lt {p q:Nat→Bool}{i:Nat}(h:∀ j,p j=true→q j=true) (hp:p i=false) (hq:q i=true):∀ n,i<n→cnt p n<cnt q n
 | 0,hi=>by omega
 | n + 1,hi=>by
  simp only [cnt]
  by_cases he:i=n
  ·subst he
   have:=ztZ h i
   rw [hp,hq]
   simp
   omega
  ·have:=cnt_lt h hp hq n (by omega)
   by_cases hpn:p n=true
   ·rw [if_pos hpn,if_pos (h n hpn)];omega
   ·rw [if_neg hpn];split<;>omega
theorem zqq {p:Nat→Bool}:∀ {n:Nat},cnt p n=0→∀ i,i<n→p i=false
 | 0,_,i,hi=>by omega
 | n + 1,h,i,hi=>by
  simp only [cnt] at h
  by_cases he:i=n
  ·subst he
   cases hp:p i with
   | false=>rfl
   | true=>rw [hp] at h;simp at h
  ·exact zqq (n:=n) (by omega) i (by omega)
def bitsOf (acc:List Nat) (o:Oper):Nat:=o.after.toList.foldl (fun s e=>if Region.binds .any e then Nat.lor (Nat.lor s (2 ^ e.on)) ((acc[e.on]?).getD 0) else s) 0
theorem znX {acc:List Nat}{m:Nat}:∀ (es:List Edge) (s:Nat),(es.foldl (fun s e=>if Region.binds .any e then Nat.lor (Nat.lor s (2 ^ e.on)) ((acc[e.on]?).getD 0) else s) s).testBit m=true →
  s.testBit m=true∨∃ e∈es,Region.binds .any e=true∧(m=e.on∨((acc[e.on]?).getD 0).testBit m=true)
 | [],s,h=>.inl h
 | e::es,s,h=>by
  simp only [List.foldl_cons] at h
  rcases znX es _ h with h|⟨e',h1,h2⟩
  ·by_cases hb:Region.binds .any e=true
   ·rw [if_pos hb] at h
    have h':(s ||| 2 ^ e.on ||| ((acc[e.on]?).getD 0)).testBit m=true:=h
    rw [Nat.testBit_or,Nat.testBit_or,Nat.testBit_two_pow] at h'
    simp only [Bool.or_eq_true,decide_eq_true_eq] at h'
    rcases h' with (h'|h')|h'
    ·exact .inl h'
    ·exact .inr ⟨e,by simp,hb,.inl h'.symm⟩
    ·exact .inr ⟨e,by simp,hb,.inr h'⟩
   ·rw [if_neg hb] at h;exact .inl h
  ·exact .inr ⟨e',List.mem_cons_of_mem _ h1,h2⟩
theorem zqD {α:Type}{E F:List α}{i:Nat}{d:α}(h:E[i]?=some d):(E++F)[i]?=some d:=by
 rw [List.getElem?_append_left (List.getElem?_eq_some_iff.1 h).1]
 exact h
theorem zhE:∀ (l:List Oper) (acc:List Nat) (j:Nat) (x:Nat),acc[j]?=some x→(beforeL.go l acc)[j]?=some x
 | [],acc,j,x,h=>h
 | o::l,acc,j,x,h=>by
  simp only [beforeL.go]
  exact zhE l _ j x (zqD h)
theorem ziU:∀ (l:List Oper) (acc:List Nat) (i:Nat) (o:Oper) (m:Nat),l[i]?=some o→(((beforeL.go l acc)[acc.length + i]?).getD 0).testBit m=true →
  ∃ e∈o.after.toList,Region.binds .any e=true∧(m=e.on∨(((beforeL.go l acc)[e.on]?).getD 0).testBit m=true)
 | [],acc,i,o,m,h,_=>by simp at h
 | o::l,acc,0,o',m,h,hb=>by
  simp at h
  subst h
  simp only [beforeL.go,Nat.add_zero] at hb ⊢
  have hx:(acc++[bitsOf acc o])[acc.length]?=some (bitsOf acc o):=by simp
  have:=zhE l _ _ _ hx
  unfold bitsOf at this
  rw [this] at hb
  rcases znX _ _ hb with h|⟨e,h1,h2,h3⟩
  ·simp at h
  ·refine ⟨e,h1,h2,?_⟩
   rcases h3 with h3|h3
   ·exact .inl h3
   ·right
    cases hy:acc[e.on]? with
    | none=>rw [hy] at h3;simp at h3
    | some y =>
     rw [hy] at h3
     have:=zhE l (acc++[bitsOf acc o]) e.on y (zqD hy)
     unfold bitsOf at this
     rw [this]
     exact h3
 | o::l,acc,i + 1,o',m,h,hb=>by
  simp only [List.getElem?_cons_succ] at h
  simp only [beforeL.go] at hb ⊢
  refine ziU l _ i o' m h ?_
  rw [wI0,List.length_singleton,show acc.length + 1 + i=acc.length + (i + 1) by omega]
  exact hb
theorem zkZ:∀ (l:List Oper) (n i:Nat) (o:Oper),zjX.go l n=true→l[i]?=some o→∀ e∈o.after.toList,Region.binds .any e=true→e.on<n + i
 | [],n,i,o,_,h=>by simp at h
 | o::l,n,0,o',h,hi=>by
  simp at hi
  subst hi
  simp only [zjX.go,wD0,List.all_eq_true,Bool.or_eq_true,Bool.not_eq_true',Nat.blt_eq] at h
  intro e he hb
  rcases h.1 e he with h1|h1
  ·rw [h1] at hb;cases hb
  ·omega
 | o::l,n,i + 1,o',h,hi=>by
  simp only [List.getElem?_cons_succ] at hi
  simp only [zjX.go,wD0] at h
  intro e he hb
  have:=zkZ l (n + 1) i o' h.2 hi e he hb
  omega
theorem zi6 {bf:List Nat}{ops:List Oper}:∀ {pre:List Eff}{e:Eff}{post:List Eff},zeo bf ((pre++e::post).map (zb4 ops))=true →
  (∀ e'∈pre,((bf[(zb4 ops e).i]?).getD 0).testBit (zb4 ops e').i=true∨zon (zb4 ops e') (zb4 ops e)=true) ∧
  (∀ e'∈post,((bf[(zb4 ops e').i]?).getD 0).testBit (zb4 ops e).i=true∨zon (zb4 ops e) (zb4 ops e')=true)
 | [],e,post,h=>by
  simp only [List.nil_append,List.map_cons,zeo,wD0,List.all_eq_true,Bool.or_eq_true] at h
  exact ⟨by simp,fun e' he'=>h.1 _ (List.mem_map_of_mem he')⟩
 | e1::pre,e,post,h=>by
  simp only [List.cons_append,List.map_cons,zeo,wD0,List.all_eq_true,Bool.or_eq_true] at h
  obtain ⟨i1,i2⟩:=zi6 h.2
  refine ⟨fun e' he'=>?_,i2⟩
  rcases List.mem_cons.1 he' with he'|he'
  ·subst he'
   exact h.1 _ (List.mem_map_of_mem (by simp))
  ·exact i1 e' he'
theorem zpJ {ops:List Oper}(e:Eff):(zb4 ops e).i=e.i:=by unfold zb4;split<;>rfl
theorem zqU {ro:Option Nat}(ty:TysOk cx) (hC:CallsOk cx C) (hI:InlOk cx C k inl) {opsA:Array Oper}{w0:World}{Xe:Ctx}(hB0:B0≤w0.heap.size) {st stf:St}{es:List Eff}(h:Steps cx inl C k E opsA.toList opsA.toList 0 st es stf) {Q:Exit→Act→World→Prop}
  (hord:zeo (beforeL opsA.toList []) (es.map (zb4 opsA.toList))=true) (hedge:zjX opsA.toList 0=true)
  (hQ:∀ a w,Inv B0 w0 Xe E stf.slots stf.root (fun r=>r<stf.mem.length) a w→Q .normal a w) {a:Act} {w:World} (hinv:Inv B0 w0 Xe E st.slots st.root (fun r=>r<st.mem.length) a w) :
  wpAnyIn (FR ro) 0 cx.P .any opsA Q opsA.size (Array.replicate opsA.size false) a w:=by
 have hall:=h.all.2.2.2.1
 have hall':∀ e∈es,e.i<opsA.size:=fun e he=>by have:=(hall e he).2.2.2.2;simpa using this
 have main:∀ (fuel:Nat) (listed:Array Bool) (a:Act) (w:World),listed.size=opsA.size→cnt (fun j=>!listed.getD j false) opsA.size≤fuel →
   (∀ j m,listed.getD j false=true→(((beforeL opsA.toList [])[j]?).getD 0).testBit m=true→listed.getD m false=true) →
   Inv B0 w0 Xe E (zae (fun j=>listed.getD j false) es st.slots) (zah (fun j=>listed.getD j false) es st.root) (zcp (fun j=>listed.getD j false) es st.mem.length) a w→wpAnyIn (FR ro) 0 cx.P .any opsA Q fuel listed a w:=by
  intro fuel
  induction fuel with
  | zero =>
   intro listed a w hsz hc hcl hinv
   have hdone:∀ j,j<opsA.size→listed.getD j false=true:=fun j hj=>by
    have:=zqq (Nat.le_zero.1 hc) j hj
    simpa using this
   refine ⟨?_,hQ a w (zpk h (fun e he=>hdone e.i (hall' e he)) hinv)⟩
   refine List.eq_nil_iff_forall_not_mem.2 fun j hj=>?_
   obtain ⟨h1,o,ho,_⟩:=mem_ready.1 hj
   have hlt:=(Array.getElem?_eq_some_iff.1 ho).1
   have:=hdone j hlt
   have hls:j<listed.size:=by omega
   simp [Array.getD_eq_getD_getElem?,hls] at h1 this
   rw [h1] at this
   cases this
  | succ fuel ih =>
   intro listed a w hsz hc hcl hinv
   refine ⟨fun hr=>?_,fun i hi=>?_⟩
   ·
    have hdone:∀ j,j<opsA.size→listed.getD j false=true:=fun j=>by
     induction j using Nat.strongRecOn with
     | ind j ihj =>
      intro hj
      cases hl:listed.getD j false with
      | true=>rfl
      | false =>
       exfalso
       have hm:j∈Region.ready .any opsA listed:=by
        refine mem_ready.2 ⟨?_,opsA[j],Array.getElem?_eq_getElem hj,fun e he hb=>?_⟩
        ·have hls:j<listed.size:=by omega
         simp [Array.getD_eq_getD_getElem?,hls] at hl ⊢
         exact hl
        ·have:=zkZ opsA.toList 0 j opsA[j] hedge (by rw [Array.getElem?_toList];exact Array.getElem?_eq_getElem hj) e (by simpa using he) hb
         exact ihj e.on (by omega) (by omega)
       rw [hr] at hm
       cases hm
    exact hQ a w (zpk h (fun e he=>hdone e.i (hall' e he)) hinv)
   ·obtain ⟨h1,o,ho,hdeps⟩:=mem_ready.1 hi
    have hlt:=(Array.getElem?_eq_some_iff.1 ho).1
    have hls:i<listed.size:=by omega
    have hun:listed.getD i false=false:=by
     simp [Array.getD_eq_getD_getElem?,hls] at h1 ⊢
     exact h1
    have hoL:opsA.toList[i]?=some o:=by rw [Array.getElem?_toList];exact ho
    have hsp:=h
    rw [zdl hoL] at hsp
    have hlen:(opsA.toList.take i).length=i:=by rw [wE0];simp;omega
    obtain ⟨pre,e,post,stn,e1,e2,g1,he,g2⟩:=Steps.split (ops:=opsA.toList.take i++o::opsA.toList.drop (i + 1)) hsp
    rw [← zdl hoL] at g1 he g2
    rw [Nat.zero_add,hlen] at he g2
    have ei:=he.i
    subst e1
    have hbefore:∀ m,(((beforeL opsA.toList [])[i]?).getD 0).testBit m=true→listed.getD m false=true:=fun m hm=>by
     have hm':(((beforeL.go opsA.toList [])[([]:List Nat).length + i]?).getD 0).testBit m=true:=by rw [List.length_nil,Nat.zero_add];exact hm
     obtain ⟨ed,h2,h3,h4⟩:=ziU _ _ i o m hoL hm'
     have hl:=hdeps ed (by simpa using h2) h3
     rcases h4 with h4|h4
     ·rw [h4];exact hl
     ·exact hcl ed.on m hl h4
    obtain ⟨o1,o2⟩:=zi6 hord
    have getO:∀ e'∈pre++e::post,∃ o',opsA.toList[e'.i]?=some o'∧e'.dst=o'.dst:=fun e' he'=>by
     have hlt':=hall' e' he'
     have hoL':opsA.toList[e'.i]?=some opsA[e'.i]:=by rw [Array.getElem?_toList];exact Array.getElem?_eq_getElem hlt'
     refine ⟨_,hoL',?_⟩
     have hsp':=h
     rw [zdl hoL'] at hsp'
     obtain ⟨pre',e3,post',stn',q1,q2,_,q4,_⟩:=Steps.split (ops:=opsA.toList.take e'.i++opsA[e'.i]::opsA.toList.drop (e'.i + 1)) hsp'
     have hlen':(opsA.toList.take e'.i).length=e'.i:=by rw [wE0];simp;omega
     have place:∀ (es:List Eff) (l:List Oper) (i0:Nat) (s s':St),Steps cx inl C k E opsA.toList l i0 s es s'→∀ (j:Nat) (x:Eff),es[j]?=some x→x.i=i0 + j:=by
      intro es
      induction es with
      | nil=>intro l i0 s s' _ j x hx;simp at hx
      | cons y es ih2 =>
       intro l i0 s s' hs j x hx
       cases l with
       | nil=>exact hs.elim
       | cons o4 l =>
        cases j with
        | zero =>
         simp at hx
         subst hx
         exact (EffOk.of (i:=i0) hs.1 hs.2.1).i
        | succ j =>
         have:=ih2 l (i0 + 1) _ _ hs.2.2 j x (by simpa using hx)
         omega
     obtain ⟨j,hj⟩:=List.getElem?_of_mem he'
     have hj':=place _ _ _ _ _ h j e' hj
     have hej:(pre++e::post)[e'.i]?=some e3:=by
      rw [q1,List.getElem?_append_right (by rw [q2,hlen'];exact wG0 _),q2,hlen',Nat.sub_self]
      rfl
     have:e3=e':=by
      rw [show e'.i=j by omega,hj] at hej
      injection hej with hej
      exact hej.symm
     have q5:=q4.dst
     rw [this] at q5
     exact q5
    obtain ⟨oe,hoe,hde⟩:=getO e (by simp)
    have hst:=zpM (ro:=ro) (Q:=Q) ty hC hI hB0 (r1:=opsA.toList.take i) (o:=o) g1 (by rw [hlen];exact he) (by rw [hlen];exact g2) (by rw [hlen];exact ho) (S:=fun j=>listed.getD j false) (by rw [ei];exact hun)
     (fun e' he' hS=>by
      obtain ⟨o',ho',hd'⟩:=getO e' (List.mem_append_left _ he')
      rcases o1 e' he' with hb|hb
      ·rw [zpJ,zpJ,ei] at hb
       rw [hbefore _ hb] at hS
       cases hS
      ·exact zqd ho' hoe hd' hde hb)
     (fun e' he' hS=>by
      obtain ⟨o',ho',hd'⟩:=getO e' (List.mem_append_right _ (List.mem_cons_of_mem _ he'))
      rcases o2 e' he' with hb|hb
      ·rw [zpJ,zpJ] at hb
       have:=hcl _ _ hS hb
       rw [ei,hun] at this
       cases this
      ·exact zqd hoe ho' hde hd' hb) hinv
    rw [hlen] at hst
    refine wpOpIn_mono (fun a' w' hinv'=>?_) hst
    have hS':addS (fun j=>listed.getD j false) e.i=fun j=>(listed.setIfInBounds i true).getD j false:=by
     funext j
     simp only [addS,ei]
     by_cases hj:j=i
     ·subst hj
      simp [Array.getD_eq_getD_getElem?,hls]
     ·simp [Array.getD_eq_getD_getElem?,Array.getElem?_setIfInBounds_ne (Ne.symm hj),hj]
    rw [hS'] at hinv'
    have gi:∀ j,(listed.setIfInBounds i true).getD j false=(listed.getD j false||j==i):=fun j=>by
     have:=congrFun hS' j
     simp only [addS,ei] at this
     exact this.symm
    refine ih _ a' w' (by simpa using hsz) ?_ (fun j m hj hb=>?_) hinv'
    ·have:=cnt_lt (p:=fun j=>!(listed.setIfInBounds i true).getD j false) (q:=fun j=>!listed.getD j false) (i:=i) (fun j hj=>by rw [gi j] at hj;simp at hj ⊢;exact hj.1) (by rw [gi i];simp) (by rw [hun];rfl) opsA.size hlt
     omega
    ·rw [gi] at hj ⊢
     simp only [Bool.or_eq_true,beq_iff_eq] at hj ⊢
     rcases hj with hj|hj
     ·exact .inl (hcl j m hj hb)
     ·subst hj
      exact .inl (hbefore m hb)
 refine main opsA.size _ a w (by simp) ?_ (fun j m hj=>?_) (zqh (fun e he=>?_) hinv)
 ·have:∀ n,cnt (fun j=>!(Array.replicate opsA.size false).getD j false) n≤n:=fun n=>by
   induction n with
   | zero=>exact wG0 _
   | succ n ih=>simp only [cnt];split<;>omega
  exact this _
 ·simp only [Array.getD_eq_getD_getElem?,Array.getElem?_replicate] at hj
  split at hj<;>simp at hj
 ·simp only [Array.getD_eq_getD_getElem?,Array.getElem?_replicate]
  split<;>rfl
end
end Go.SX
namespace Go.SX
open Go.RowKit (Below)
structure CoOk (B0:Nat) (C:FuncId→List D→Option (List D)) (k:Nat) (X:Ctx) (s:CoS):Prop where
 μ:X.μ=zac s.m
 A:∀ r,X.A r↔r<s.m.length
 mem:Mem B0 X
 B:B0≤X.w.heap.size
structure CoTo (X X':Ctx) (s s':CoS):Prop where
 E:X'.E=X.E
 w:X'.w=X.w
 ext:Ext X X'
 box:∀ r T v,zac s.m r=.box T v→zac s'.m r=.box T v
theorem CoTo.refl (X:Ctx) (s:CoS):CoTo X X s s:=⟨rfl,rfl,Ext.refl X,fun _ _ _ h=>h⟩
theorem CoTo.trans {X Y Z:Ctx}{s t u:CoS}(h:CoTo X Y s t) (g:CoTo Y Z t u):CoTo X Z s u:=⟨g.E.trans h.E,g.w.trans h.w,h.ext.trans g.ext,fun r T v e=>g.box r T v (h.box r T v e)⟩
theorem zjC {m:List Root}{r q:Nat}{R:Root}(h:r<m.length):zac (m.set r R) q=upd (zac m) r R q:=by
 unfold zac upd
 by_cases e:q=r
 ·subst e;rw [if_pos rfl,List.getElem?_set_self h];rfl
 ·rw [if_neg e,List.getElem?_set_ne (Ne.symm e)]
theorem zlk {m:List Root}{q:Nat}{R:Root}:zac (m++[R]) q=upd (zac m) m.length R q:=by
 unfold zac upd
 by_cases e:q=m.length
 ·subst e;simp
 ·rw [if_neg e]
  rcases Nat.lt_or_ge q m.length with h|h
  ·rw [List.getElem?_append_left h]
  ·rw [List.getElem?_eq_none (by simp;omega)]
   show _=(m[q]?).getD .dead
   rw [List.getElem?_eq_none h]
theorem zcW {m:List Root}{r:Nat}(h:zac m r≠.dead):r<m.length:=by
 rcases Nat.lt_or_ge r m.length with h'|h'
 ·exact h'
 ·exact absurd (zjm h') h
section
variable {C:FuncId→List D→Option (List D)} {k B0:Nat}
def Rp (X:Ctx) (cell:Bool) (s:SV) (cs:List Value):Prop:=if cell then CRep X s cs else ∃ v,cs=[v]∧VRep X s v
theorem Rp.ref {X:Ctx}{b:Bool}{e:Ty}{r:Nat}{vw:Option (At×At)}{cs:List Value}(h:Rp X b (.h e r vw) cs):∃ v,cs=[v]∧Ref X (.h e r vw) v:=by
 cases b with
 | true=>simp only [Rp,if_true,CRep] at h;exact h
 | false=>simp only [Rp,wA0,if_false,VRep] at h;exact h
theorem Rp.of_ref {X:Ctx}{b:Bool}{e:Ty}{r:Nat}{vw:Option (At×At)}{v:Value}(h:Ref X (.h e r vw) v):Rp X b (.h e r vw) [v]:=by
 cases b with
 | true=>simp only [Rp,if_true,CRep];exact ⟨v,rfl,h⟩
 | false=>simp only [Rp,wA0,if_false,VRep];exact ⟨v,rfl,h⟩
theorem Rp.ext {X X':Ctx}(x:Ext X X') {b:Bool}{s:SV}{cs:List Value}(h:Rp X b s cs):Rp X' b s cs:=by
 cases b with
 | true=>simp only [Rp,if_true] at h ⊢;exact CRep.ext x h
 | false=>simp only [Rp,wA0,if_false] at h ⊢;obtain ⟨v,e,h⟩:=h;exact ⟨v,e,VRep.ext x h⟩
theorem Rp.sl {X:Ctx}{b:Bool}{e:Ty}{a:At}{d:D}{v:Value}(ha:a.get X.E=some d) (h:DRep X.w X.M (.sl e) d [v]):Rp X b (.d (.sl e) a) [v]:=by
 cases b with
 | true=>simp only [Rp,if_true,CRep];exact ⟨d,ha,h⟩
 | false =>
  simp only [Rp,wA0,if_false]
  refine ⟨v,rfl,VRep.data.2 ⟨d,ha,?_⟩⟩
  unfold DVal
  simp only [Ty.isAgg,wA0,if_false]
  exact ⟨DRep.one rfl h,h⟩
theorem zne {X:Ctx}{e:Ty}{s:SV}{b:Bool}{cs:List Value}(h:zrg e s=true) (hv:Rp X b s cs):cs=[.slice none 0 0]:=by
 unfold zrg at h
 split at h
 ·have:=Ty.beq_eq h
  subst this
  cases b with
  | true =>
   simp only [Rp,if_true,CRep,At.get,wB0] at hv
   obtain ⟨d,h1,h2⟩:=hv
   subst h1
   simpa only [DRep] using h2
  | false =>
   simp only [Rp,wA0,if_false] at hv
   obtain ⟨v,e1,hv⟩:=hv
   obtain ⟨d,h1,h2⟩:=VRep.data.1 hv
   simp only [At.get,wB0] at h1
   subst h1
   rcases h2.slice with ⟨_,h⟩|⟨_,_,_,h,_⟩
   ·rw [e1,h]
   ·cases h
 ·cases b with
  | true=>simp only [Rp,if_true,CRep] at hv;exact hv.1
  | false=>simp only [Rp,wA0,if_false,VRep] at hv;obtain ⟨v,e1,hv⟩:=hv;rw [e1,hv]
 ·cases h
theorem zue {X:Ctx}{s:CoS}(c:CoOk B0 C k X s) {e:Ty}{R:Root}(hR:R=.row e (.c .nil)∨∃ e',e=.sl e'∧R=.mat e' (.c .nil) 0) {vw:Option (At×At)}(hvw:zhs X.E vw) :
  ∃ X',CoTo X X' s { s with m:=s.m++[R] }∧CoOk B0 C k X' { s with m:=s.m++[R] }∧Ref X' (.h e s.m.length vw) (.slice none 0 0):=by
 have hn:¬ X.A s.m.length:=fun h=>by have:=(c.A _).1 h;omega
 have hrow:R.row?=some (e,.c .nil):=by
  rcases hR with h|⟨e',h1,h2⟩
  ·rw [h];rfl
  ·rw [h2,h1];rfl
 have hown:∀ (p:Pl),p=⟨none,[]⟩→R.own p=[]:=fun p hp=>by
  rcases hR with h|⟨e',h1,h2⟩
  ·rw [h,hp];rfl
  ·rw [h2,hp];rfl
 have hg:=c.mem.grow c.B hn (Below.refl _ _) (R:=R) (p:=⟨none,[]⟩) (fun b hb=>by rw [hown _ rfl] at hb;simp at hb) (by rw [hown _ rfl];simp) (fun x=>by
  have hβ:(X.grown X.w s.m.length R ⟨none,[]⟩).β s.m.length=⟨none,[]⟩:=by simp [Ctx.grown,upd_same]
  rcases hR with h|⟨e',h1,h2⟩
  ·rw [h];exact ⟨.nil,rfl,.inl ⟨by rw [h] at hβ;rw [hβ],.inl rfl⟩⟩
  ·rw [h2];exact ⟨.nil,rfl,.inl ⟨by rw [h2] at hβ;rw [hβ],by rw [h2] at hβ;rw [hβ],rfl⟩⟩)
 refine ⟨X.grown X.w s.m.length R ⟨none,[]⟩,⟨rfl,rfl,hg.1,fun r T v h=>?_⟩,⟨?_,fun r=>?_,hg.2,c.B⟩,?_⟩
 ·have hlt:=zcW (m:=s.m) (r:=r) (by rw [h];simp)
  rw [zlk,upd_ne _ _ (by omega)]
  exact h
 ·funext r
  show upd X.μ s.m.length R r=_
  rw [zlk,c.μ]
 ·show (X.A r∨r=s.m.length)↔_
  rw [c.A r]
  simp only [wI0,List.length_singleton]
  omega
 ·simp only [Ref]
  refine ⟨zaf _ _ _,.inr rfl,fun _=>⟨.c .nil,.nil,?_,rfl,.inl ⟨by simp [Ctx.grown,upd_same],.inl ⟨rfl,rfl⟩,hvw⟩⟩⟩
  simp [Ctx.grown,upd_same,hrow]
theorem zq9 {X:Ctx}{s s':CoS}{e:Ty}{r:Nat}{x:SV}(c:CoOk B0 C k X s) (h:coFz e r s=some (x,s')) {b:Bool}{cs:List Value}(hv:Rp X b (.h e r none) cs) :
  s'.bs=s.bs∧s'.nv=s.nv∧∃ X',CoTo X X' s s'∧CoOk B0 C k X' s'∧Rp X' b x cs:=by
 obtain ⟨v,ecs,hr⟩:=hv.ref
 subst ecs
 have hA:X.A r:=by simp only [Ref] at hr;exact hr.2.1
 have hlt:=(c.A r).1 hA
 have fin:∀ {a:At},(X.μ r=.row e a∨∃ e' g,e=.sl e'∧X.μ r=.mat e' a g)→s'={ s with m:=s.m.set r (.fz e a) }→x=.d (.sl e) a→s'.bs=s.bs∧s'.nv=s.nv∧∃ X',CoTo X X' s s'∧CoOk B0 C k X' s'∧Rp X' b x [v]:=by
  intro a hR es ex
  subst es ex
  obtain ⟨x1,m1⟩:=c.mem.lower c.B hA hR (R:=.fz e a) (.inl rfl)
  have hr1:Ref { X with μ:=upd X.μ r (.fz e a) } (.h e r none) v:=hr.ext x1
  have hR1:({ X with μ:=upd X.μ r (.fz e a) }:Ctx).μ r=.fz e a:=by simp [upd_same]
  have hrep:=m1.rep r hA
  rw [hR1] at hrep
  obtain ⟨⟨d,g1,g2⟩,g3⟩:=hrep
  simp only [Ref] at hr1
  have hh:=hr1.2.2 (by simp [upd_same,Root.there])
  refine ⟨rfl,rfl,{ X with μ:=upd X.μ r (.fz e a) },⟨rfl,rfl,x1,fun q T u hq=>?_⟩,⟨?_,fun q=>?_,m1,c.B⟩,Rp.sl (d:=d) g1 ?_⟩
  ·have hne:q≠r:=fun e1=>by
    subst e1
    rw [← c.μ] at hq
    rcases hR with h|⟨_,_,_,h⟩<;>rw [h] at hq<;>cases hq
   show zac (s.m.set r _) q=_
   rw [zjC hlt,upd_ne _ _ hne]
   exact hq
  ·funext q
   show upd X.μ r _ q=zac (s.m.set r _) q
   rw [zjC hlt,c.μ]
  ·show X.A q↔_
   rw [c.A q]
   simp
  ·exact zdo (vw:=none) m1 hA hh (by rw [hR1];rfl) ⟨fun _ _ _=>rfl,fun _ _ h=>h⟩ (fun q hq=>by rw [hR1] at hq;simp [Root.own] at hq) g1
 unfold coFz at h
 split at h
 ·rename_i e' a hm
  split at h
  ·rename_i hb
   have:=Ty.beq_eq hb
   subst this
   injection h with h
   injection h with h1 h2
   exact fin (.inl (by rw [c.μ];exact hm)) h2.symm h1.symm
  ·cases h
 ·rename_i e' a g hm
  split at h
  ·rename_i hb
   have:=Ty.beq_eq hb
   subst this
   injection h with h
   injection h with h1 h2
   exact fin (.inr ⟨e',g,rfl,by rw [c.μ];exact hm⟩) h2.symm h1.symm
  ·cases h
 ·rename_i e' a hm
  split at h
  ·rename_i hb
   have:=Ty.beq_eq hb
   subst this
   injection h with h
   injection h with h1 h2
   subst h1 h2
   have hR1:X.μ r=.fz e' a:=by rw [c.μ];exact hm
   have hrep:=c.mem.rep r hA
   rw [hR1] at hrep
   obtain ⟨⟨d,g1,g2⟩,g3⟩:=hrep
   simp only [Ref] at hr
   have hh:=hr.2.2 (by rw [hR1];rfl)
   exact ⟨rfl,rfl,X,CoTo.refl X s,c,Rp.sl (d:=d) g1 (zdo (vw:=none) c.mem hA hh (by rw [hR1];rfl) ⟨fun _ _ _=>rfl,fun _ _ h=>h⟩ (fun q hq=>by rw [hR1] at hq;simp [Root.own] at hq) g1)⟩
  ·cases h
 ·cases h
theorem zqQ {X:Ctx}{s s':CoS}{e:Ty}{r:Nat}{x:SV}(c:CoOk B0 C k X s) (h:coVw e r s=some (x,s')) (hs:Sat C k X.E s'.bs s'.nv) {b:Bool}{cs:List Value}(hv:Rp X b (.h e r none) cs) :
  ∃ X',CoTo X X' s s'∧CoOk B0 C k X' s'∧Rp X' b x cs:=by
 obtain ⟨v,ecs,hr⟩:=hv.ref
 subst ecs
 unfold coVw at h
 split at h
 ·rename_i e' a hm
  split at h
  ·rename_i hb
   have:=Ty.beq_eq hb
   subst this
   injection h with h
   injection h with h1 h2
   subst h1 h2
   obtain ⟨n,en,⟨vs,d,g1,g2,g3⟩,_⟩:=hs
   have:n=s.nv:=by simp only [Bd.outs] at en;omega
   subst this
   obtain ⟨u,g4,g5⟩:=zrc g1
   subst g5
   refine ⟨X,⟨rfl,rfl,Ext.refl X,fun _ _ _ h=>h⟩,⟨c.μ,c.A,c.mem,c.B⟩,Rp.of_ref ?_⟩
   simp only [Ref] at hr ⊢
   refine ⟨hr.1,hr.2.1,fun ht=>?_⟩
   obtain ⟨a1,d1,q1,q2,q3⟩:=hr.2.2 ht
   rw [c.μ,hm] at q1
   simp only [wB0,Prod.mk.injEq,true_and] at q1
   subst q1
   rw [g4] at q2
   injection q2 with q2
   subst q2
   refine ⟨a,u,by rw [c.μ];exact hm,g4,?_⟩
   rcases q3 with ⟨p1,p2,_⟩|⟨bb,l,p1,p2,cap,bs,p3,p4,p5,p6⟩
   ·refine .inl ⟨p1,p2,.i64,.i64,rfl,?_⟩
    rw [p2.em.len] at g2
    injection g2 with g2
    subst g2
    exact g3
   ·subst p2
    simp only [Prim.run,wB0] at g2
    subst g2
    refine .inr ⟨bb,l,p1,rfl,⟨bb,0,none⟩,cap,bs,.i64,.i64,0,l.length,rfl,g3,Nat.zero_le _,wG0 _,by rw [p3];rfl,by omega,p5,by rw [Nat.zero_add];exact p6,fun _=>by simp⟩
  ·cases h
 ·cases h
theorem zir {Hm:List Root}{X:Ctx}{s s':CoS}{h l x:SV}(c:CoOk B0 C k X s) (he:zeF Hm h l s=some (x,s')) (hs:Sat C k X.E s'.bs s'.nv) {b:Bool}{cs:List Value}(hv:Rp X b l cs) :
  ∃ X',CoTo X X' s s'∧CoOk B0 C k X' s'∧Rp X' b x cs:=by
 unfold zeF at he
 split at he
 ·rename_i T _
  split at he
  ·rename_i v
   split at he
   ·rename_i d hd
    injection he with he
    injection he with h1 h2
    subst h1 h2
    refine ⟨X,CoTo.refl X s,c,?_⟩
    cases b with
    | true =>
     simp only [Rp,if_true,CRep] at hv ⊢
     obtain ⟨e1,ho⟩:=hv
     subst e1
     refine ⟨d,rfl,?_⟩
     have:=zeh (w:=X.w) (M:=X.M) hd
     unfold DVal at this
     split at this
     ·obtain ⟨c',e,_⟩:=this
      exact absurd e (ho.1 c')
     ·exact this.2
    | false =>
     simp only [Rp,wA0,if_false,VRep] at hv ⊢
     obtain ⟨v',e1,e2⟩:=hv
     subst e2
     exact ⟨v',e1,VRep.data.2 ⟨d,rfl,zeh hd⟩⟩
   ·cases he
  ·rename_i e r
   split at he
   ·obtain ⟨_,_,h⟩:=zq9 c he hv
    exact h
   ·cases he
  ·cases he
 ·rename_i e hr
  split at he
  ·rename_i hn
   injection he with he
   injection he with h1 h2
   subst h1 h2
   have hcs:=zne hn hv
   subst hcs
   obtain ⟨X',x1,x2,x3⟩:=zue c (e:=e) (R:=zpn Hm hr e) (by
    unfold zpn
    split
    ·exact .inr ⟨_,rfl,rfl⟩
    ·exact .inl rfl) (vw:=none) trivial
   exact ⟨X',x1,x2,Rp.of_ref x3⟩
  ·cases he
 ·rename_i e _ p
  split at he
  ·rename_i hn
   injection he with he
   injection he with h1 h2
   subst h1 h2
   have hcs:=zne hn hv
   subst hcs
   obtain ⟨X',x1,x2,x3⟩:=zue c (e:=e) (R:=.row e (.c .nil)) (.inl rfl) (vw:=some (zI,zI)) ⟨.i64,.i64,rfl,rfl⟩
   exact ⟨X',x1,x2,Rp.of_ref x3⟩
  ·split at he
   ·rename_i e' r
    split at he
    ·rename_i hb
     have:=Ty.beq_eq hb
     subst this
     exact zqQ c he hs hv
    ·cases he
   ·cases he
 ·cases he
theorem zk5 {a b:SV}{T:Ty}(h:zpG a b=true) (ht:a.hasTy T):b.hasTy T:=by
 unfold zpG at h
 have key:∀ {s:SV} {U:Ty},s.ty1=some U→(s.hasTy T↔T=U):=fun hs=>by
  rename_i s U
  cases s<;>simp only [SV.ty1,wB0,reduceCtorEq] at hs<;>subst hs<;>simp only [SV.hasTy]<;>first|exact Iff.rfl|exact eq_comm
 split at h
 ·rename_i U V h1 h2
  have:=Ty.beq_eq h
  subst this
  exact (key h2).2 ((key h1).1 ht)
 ·cases h
theorem zp3 {X:Ctx}:∀ {Ts:List Ty}{ds:List D}{cs:List Value},DRepL X.w X.M Ts ds cs→CRepL X (zipD Ts ds) Ts cs
 | [],[],cs,h=>by simp only [DRepL] at h;simp only [zipD,CRepL];exact h
 | T::Ts,d::ds,cs,h=>by
  simp only [DRepL] at h
  obtain ⟨c1,c2,e,h1,h2⟩:=h
  simp only [zipD,CRepL]
  exact ⟨c1,c2,e,rfl,by simp only [CRep];exact ⟨d,rfl,h1⟩,zp3 h2⟩
 | [],_::_,_,h=>by simp only [DRepL] at h
 | _::_,[],_,h=>by simp only [DRepL] at h
theorem zg3 {X:Ctx}{a:At}{ds:List D}(ha:a.get X.E=some (.agg ds)):∀ {Ts:List Ty}{j:Nat}{s s':CoS}{l:List SV}{cs:List Value},zbW a Ts j s=(l,s')→Sat C k X.E s'.bs s'.nv →
  DRepL X.w X.M Ts (ds.drop j) cs→s'.m=s.m∧Sat C k X.E s.bs s.nv∧CRepL X l Ts cs
 | [],j,s,s',l,cs,h,hs,hd=>by
  simp only [zbW,Prod.mk.injEq] at h
  obtain ⟨h1,h2⟩:=h
  subst h1 h2
  refine ⟨rfl,hs,?_⟩
  cases hdr:ds.drop j with
  | nil=>rw [hdr] at hd;simp only [DRepL] at hd;simp only [CRepL];exact hd
  | cons d r=>rw [hdr] at hd;simp only [DRepL] at hd
 | T::Ts,j,s,s',l,cs,h,hs,hd=>by
  simp only [zbW] at h
  generalize he:zbW a Ts (j + 1) { s with nv:=s.nv + 1,bs:=.prim (.fld j) [a]::s.bs }=p at h
  obtain ⟨l',s''⟩:=p
  simp only [Prod.mk.injEq] at h
  obtain ⟨h1,h2⟩:=h
  subst h1 h2
  cases hdr:ds.drop j with
  | nil=>rw [hdr] at hd;simp only [DRepL] at hd
  | cons d r =>
   rw [hdr] at hd
   simp only [DRepL] at hd
   obtain ⟨c1,c2,ec,h3,h4⟩:=hd
   have hr:ds.drop (j + 1)=r:=by rw [← List.drop_drop,hdr];rfl
   obtain ⟨g1,g2,g3⟩:=zg3 ha he hs (by rw [hr];exact h4)
   obtain ⟨n,en,⟨vs,d',q1,q2,q3⟩,q4⟩:=g2
   have:n=s.nv:=by simp only [Bd.outs] at en;omega
   subst this
   obtain ⟨u,q5,q6⟩:=zrc q1
   rw [ha] at q5
   injection q5 with q5
   subst q5 q6
   have hj:ds[j]?=some d:=by
    have:(ds.drop j)[0]?=some d:=by rw [hdr];rfl
    rw [List.getElem?_drop] at this
    simpa using this
   simp only [Prim.run,hj,wB0] at q2
   subst q2
   refine ⟨g1,q4,?_⟩
   simp only [CRepL]
   exact ⟨c1,c2,ec,rfl,by simp only [CRep];exact ⟨d,q3,h3⟩,g3⟩
theorem zth {X:Ctx}{s s':CoS}{e:Ty}{r:Nat}{x:SV}(h:coVw e r s=some (x,s')) (hs:Sat C k X.E s'.bs s'.nv):Sat C k X.E s.bs s.nv:=by
 unfold coVw at h
 split at h
 ·split at h
  ·injection h with h
   injection h with h1 h2
   subst h2
   obtain ⟨n,en,_,q⟩:=hs
   have:n=s.nv:=by simp only [Bd.outs] at en;omega
   subst this
   exact q
  ·cases h
 ·cases h
theorem zuA {s s':CoS}{e:Ty}{r:Nat}{x:SV}(h:coFz e r s=some (x,s')):s'.bs=s.bs∧s'.nv=s.nv:=by
 unfold coFz at h
 split at h<;>first
  | (split at h
     ·injection h with h
      injection h with h1 h2
      subst h2
      exact ⟨rfl,rfl⟩
     ·cases h)
  | cases h
theorem zla {Hm:List Root}{X:Ctx}{s s':CoS}{h l x:SV}(he:zeF Hm h l s=some (x,s')) (hs:Sat C k X.E s'.bs s'.nv):Sat C k X.E s.bs s.nv:=by
 unfold zeF at he
 split at he
 ·split at he
  ·split at he
   ·injection he with he
    injection he with h1 h2
    subst h2
    exact hs
   ·cases he
  ·split at he
   ·obtain ⟨e1,e2⟩:=zuA he
    rw [← e1,← e2]
    exact hs
   ·cases he
  ·cases he
 ·split at he
  ·injection he with he
   injection he with h1 h2
   subst h2
   exact hs
  ·cases he
 ·split at he
  ·injection he with he
   injection he with h1 h2
   subst h2
   exact hs
  ·split at he
   ·split at he
    ·exact zth he hs
    ·cases he
   ·cases he
 ·cases he
theorem ziY {X:Ctx}{a:At}:∀ {Ts:List Ty}{j:Nat}{s s':CoS}{l:List SV},zbW a Ts j s=(l,s')→Sat C k X.E s'.bs s'.nv→Sat C k X.E s.bs s.nv
 | [],j,s,s',l,h,hs=>by
  simp only [zbW,Prod.mk.injEq] at h
  rw [h.2]
  exact hs
 | T::Ts,j,s,s',l,h,hs=>by
  simp only [zbW] at h
  generalize he:zbW a Ts (j + 1) { s with nv:=s.nv + 1,bs:=.prim (.fld j) [a]::s.bs }=p at h
  obtain ⟨l',s''⟩:=p
  simp only [Prod.mk.injEq] at h
  obtain ⟨h1,h2⟩:=h
  subst h1 h2
  obtain ⟨n,en,_,q4⟩:=ziY he hs
  have:n=s.nv:=by simp only [Bd.outs] at en;omega
  subst this
  exact q4
end
end Go.SX
namespace Go.SX
open Go.RowKit (Below)
def zqg:SV→Bool
 | .ag ..=>false
 | .tu _=>false
 | .fn ..=>false
 | _=>true
theorem zk1 {Hm:List Root}{h l:SV}{s:CoS}(hp:zqg h=true):coSV Hm h l s=match zeF Hm h l s with|some p=>p|none=>(l,s):=by
 cases h<;>simp only [zqg,wA0] at hp<;>(unfold coSV;split<;>simp_all)
section
variable {C:FuncId→List D→Option (List D)} {k B0:Nat} {Hm:List Root}
theorem zal {α β:Type}{a x:α}{b y:β}(h:(a,b)=(x,y)):a=x∧b=y:=by injection h with h1 h2;exact ⟨h1,h2⟩
mutual
theorem ziP {X:Ctx}:∀ (h l:SV) (s:CoS) {x:SV}{s':CoS},coSV Hm h l s=(x,s')→Sat C k X.E s'.bs s'.nv→Sat C k X.E s.bs s.nv
 | .ag T hs,l,s,x,s',he,hs'=>by
  cases hl:zeF Hm (.ag T hs) l s with
  | some p =>
   unfold coSV at he
   rw [hl] at he
   exact zla (hl.trans (congrArg some he)) hs'
  | none =>
   unfold coSV at he
   rw [hl] at he
   simp only at he
   split at he
   ·rename_i T1 hs1 T2 ls heq
    injection heq with e1 e2
    subst e1 e2
    split at he
    ·generalize hc:coLC Hm hs ls s=p at he
     obtain ⟨r,s1⟩:=p
     obtain ⟨_,e4⟩:=zal he
     subst e4
     exact zft hs _ _ hc hs'
    ·obtain ⟨_,e4⟩:=zal he
     subst e4
     exact hs'
   ·rename_i T1 hs1 T2 ds heq
    injection heq with e1 e2
    subst e1 e2
    split at he
    ·rename_i Ts
     split at he
     ·generalize hc:coLC Hm hs (zipD Ts ds) s=p at he
      obtain ⟨r,s1⟩:=p
      obtain ⟨_,e4⟩:=zal he
      subst e4
      exact zft hs _ _ hc hs'
     ·obtain ⟨_,e4⟩:=zal he
      subst e4
      exact hs'
    ·obtain ⟨_,e4⟩:=zal he
     subst e4
     exact hs'
   ·rename_i T1 hs1 T2 i heq
    injection heq with e1 e2
    subst e1 e2
    split at he
    ·rename_i Ts
     split at he
     ·generalize hx:zbW (.v i) Ts 0 s=p0 at he
      obtain ⟨l0,s0⟩:=p0
      simp only at he
      generalize hc:coLC Hm hs l0 s0=p at he
      obtain ⟨r,s1⟩:=p
      obtain ⟨_,e4⟩:=zal he
      subst e4
      exact ziY hx (zft hs _ _ hc hs')
     ·obtain ⟨_,e4⟩:=zal he
      subst e4
      exact hs'
    ·obtain ⟨_,e4⟩:=zal he
     subst e4
     exact hs'
   ·rename_i heq
    cases heq
   ·rename_i heq
    cases heq
   ·obtain ⟨_,e4⟩:=zal he
    subst e4
    exact hs'
 | .tu hs,l,s,x,s',he,hs'=>by
  have hl:zeF Hm (.tu hs) l s=none:=rfl
  unfold coSV at he
  rw [hl] at he
  simp only at he
  cases l with
  | tu ls =>
   simp only at he
   generalize hc:coL Hm hs ls s=p at he
   obtain ⟨r,s1⟩:=p
   obtain ⟨_,e4⟩:=zal he
   subst e4
   exact zhS hs _ _ hc hs'
  | _ =>
   simp only at he
   obtain ⟨_,e4⟩:=zal he
   subst e4
   exact hs'
 | .fn f us hs,l,s,x,s',he,hs'=>by
  have hl:zeF Hm (.fn f us hs) l s=none:=rfl
  unfold coSV at he
  rw [hl] at he
  simp only at he
  cases l with
  | fn g ks ls =>
   simp only at he
   generalize hc:coL Hm us ks s=p at he
   obtain ⟨u,s1⟩:=p
   simp only at he
   generalize hc2:coL Hm hs ls s1=p at he
   obtain ⟨r,s2⟩:=p
   obtain ⟨_,e4⟩:=zal he
   subst e4
   exact zhS us _ _ hc (zhS hs _ _ hc2 hs')
  | _ =>
   simp only at he
   obtain ⟨_,e4⟩:=zal he
   subst e4
   exact hs'
 | .un n,l,s,x,s',he,hs'=>zbc (h:=.un n) rfl he hs'
 | .cv n,l,s,x,s',he,hs'=>zbc (h:=.cv n) rfl he hs'
 | .d T a,l,s,x,s',he,hs'=>zbc (h:=.d T a) rfl he hs'
 | .h e r vw,l,s,x,s',he,hs'=>zbc (h:=.h e r vw) rfl he hs'
 | .hc e r i,l,s,x,s',he,hs'=>zbc (h:=.hc e r i) rfl he hs'
 | .mr K V r,l,s,x,s',he,hs'=>zbc (h:=.mr K V r) rfl he hs'
 | .z e a,l,s,x,s',he,hs'=>zbc (h:=.z e a) rfl he hs'
 | .p R T r q,l,s,x,s',he,hs'=>zbc (h:=.p R T r q) rfl he hs'
 | .pd T a,l,s,x,s',he,hs'=>zbc (h:=.pd T a) rfl he hs'
 | .hb R e n r q,l,s,x,s',he,hs'=>zbc (h:=.hb R e n r q) rfl he hs'
 | .hr e r i g,l,s,x,s',he,hs'=>zbc (h:=.hr e r i g) rfl he hs'
 | .pm e T r i q g,l,s,x,s',he,hs'=>zbc (h:=.pm e T r i q g) rfl he hs'
theorem zhS {X:Ctx}:∀ (hs ls:List SV) (s:CoS) {r:List SV}{s':CoS},coL Hm hs ls s=(r,s')→Sat C k X.E s'.bs s'.nv→Sat C k X.E s.bs s.nv
 | h::hs,l::ls,s,r,s',he,hs'=>by
  simp only [coL] at he
  generalize h1:coSV Hm h l s=p at he
  obtain ⟨x,s1⟩:=p
  simp only at he
  generalize h2:coL Hm hs ls s1=p at he
  obtain ⟨r',s2⟩:=p
  obtain ⟨_,e4⟩:=zal he
  subst e4
  exact ziP h _ _ h1 (zhS hs _ _ h2 hs')
 | [],ls,s,r,s',he,hs'=>by
  unfold coL at he
  obtain ⟨_,e4⟩:=zal he
  subst e4
  exact hs'
 | _::_,[],s,r,s',he,hs'=>by
  unfold coL at he
  obtain ⟨_,e4⟩:=zal he
  subst e4
  exact hs'
theorem zft {X:Ctx}:∀ (hs ls:List SV) (s:CoS) {r:List SV}{s':CoS},coLC Hm hs ls s=(r,s')→Sat C k X.E s'.bs s'.nv→Sat C k X.E s.bs s.nv
 | h::hs,l::ls,s,r,s',he,hs'=>by
  simp only [coLC] at he
  generalize h1:coSV Hm h l s=p at he
  obtain ⟨x,s1⟩:=p
  simp only at he
  generalize h2:coLC Hm hs ls s1=p at he
  obtain ⟨r',s2⟩:=p
  obtain ⟨_,e4⟩:=zal he
  subst e4
  exact ziP h _ _ h1 (zft hs _ _ h2 hs')
 | [],ls,s,r,s',he,hs'=>by
  unfold coLC at he
  obtain ⟨_,e4⟩:=zal he
  subst e4
  exact hs'
 | _::_,[],s,r,s',he,hs'=>by
  unfold coLC at he
  obtain ⟨_,e4⟩:=zal he
  subst e4
  exact hs'
theorem zbc {X:Ctx}{h l:SV}{s:CoS}{x:SV}{s':CoS}(hp:zqg h=true) (he:coSV Hm h l s=(x,s')) (hs:Sat C k X.E s'.bs s'.nv):Sat C k X.E s.bs s.nv:=by
 rw [zk1 hp] at he
 split at he
 ·rename_i p hl
  exact zla (hl.trans (congrArg some he)) hs
 ·obtain ⟨_,e4⟩:=zal he
  subst e4
  exact hs
end
theorem zaJ {X:Ctx}{h l:SV}{s:CoS}{x:SV}{s':CoS}(hp:zqg h=true) (he:coSV Hm h l s=(x,s')) (c:CoOk B0 C k X s) (hs:Sat C k X.E s'.bs s'.nv) {b:Bool}{cs:List Value}(hv:Rp X b l cs) :
  ∃ X',CoTo X X' s s'∧CoOk B0 C k X' s'∧Rp X' b x cs:=by
 rw [zk1 hp] at he
 split at he
 ·rename_i p hl
  exact zir c (hl.trans (congrArg some he)) hs hv
 ·obtain ⟨e3,e4⟩:=zal he
  subst e3 e4
  exact ⟨X,CoTo.refl X s,c,hv⟩
theorem Rp.parts {X:Ctx}{b:Bool}{Ts:List Ty}{a:At}{ds:List D}{l:List SV}{cs:List Value}(ha:a.get X.E=some (.agg ds)) (h:Rp X b (.d (.st Ts) a) cs) (hl:∀ cs,DRepL X.w X.M Ts ds cs→CRepL X l Ts cs):Rp X b (.ag (.st Ts) l) cs:=by
 cases b with
 | true =>
  simp only [Rp,if_true,CRep] at h ⊢
  obtain ⟨d,h1,h2⟩:=h
  rw [ha] at h1
  injection h1 with h1
  subst h1
  simp only [DRep] at h2
  exact hl _ h2
 | false =>
  simp only [Rp,wA0,if_false] at h ⊢
  obtain ⟨v,e,h⟩:=h
  obtain ⟨d,h1,h2⟩:=VRep.data.1 h
  rw [ha] at h1
  injection h1 with h1
  subst h1
  unfold DVal at h2
  simp only [Ty.isAgg,if_true,DRep] at h2
  obtain ⟨arr,e1,h2⟩:=h2
  refine ⟨v,e,?_⟩
  simp only [VRep]
  exact ⟨arr,e1,hl _ h2⟩
theorem Rp.aggv {X:Ctx}{b:Bool}{Ts:List Ty}{a:At}{cs:List Value}(h:Rp X b (.d (.st Ts) a) cs):∃ ds,a.get X.E=some (.agg ds):=by
 cases b with
 | true =>
  simp only [Rp,if_true,CRep] at h
  obtain ⟨d,h1,h2⟩:=h
  cases d<;>simp only [DRep] at h2
  exact ⟨_,h1⟩
 | false =>
  simp only [Rp,wA0,if_false] at h
  obtain ⟨v,e,h⟩:=h
  obtain ⟨d,h1,h2⟩:=VRep.data.1 h
  unfold DVal at h2
  simp only [Ty.isAgg,if_true] at h2
  obtain ⟨arr,e1,h2⟩:=h2
  cases d<;>simp only [DRep] at h2
  exact ⟨_,h1⟩
theorem Rp.agSt {X:Ctx}{b:Bool}{T:Ty}{l:List SV}{cs:List Value}(h:Rp X b (.ag T l) cs):∃ Ts,T=.st Ts:=by
 cases T with
 | st Ts=>exact ⟨Ts,rfl⟩
 | _ =>
  cases b
  ·simp only [Rp,wA0,if_false,VRep] at h
   obtain ⟨_,_,h⟩:=h
   exact h.elim
  ·simp only [Rp,if_true,CRep] at h
mutual
theorem zfq:∀ (h l:SV) (s:CoS) {X:Ctx}{x:SV}{s':CoS},coSV Hm h l s=(x,s')→CoOk B0 C k X s→Sat C k X.E s'.bs s'.nv→∀ {b:Bool}{cs:List Value},Rp X b l cs →
  ∃ X',CoTo X X' s s'∧CoOk B0 C k X' s'∧Rp X' b x cs
 | .ag T hs,l,s,X,x,s',he,c,hs',b,cs,hv=>by
  cases hl:zeF Hm (.ag T hs) l s with
  | some p =>
   unfold coSV at he
   rw [hl] at he
   exact zir c (hl.trans (congrArg some he)) hs' hv
  | none =>
   unfold coSV at he
   rw [hl] at he
   simp only at he
   have same:(l,s)=(x,s')→∃ X',CoTo X X' s s'∧CoOk B0 C k X' s'∧Rp X' b x cs:=fun he=>by
    obtain ⟨e3,e4⟩:=zal he
    subst e3 e4
    exact ⟨X,CoTo.refl X s,c,hv⟩
   split at he
   ·rename_i T1 hs1 T2 ls heq
    injection heq with e1 e2
    subst e1 e2
    split at he
    ·generalize hc:coLC Hm hs ls s=p at he
     obtain ⟨r,s1⟩:=p
     obtain ⟨e3,e4⟩:=zal he
     subst e3 e4
     obtain ⟨Ts,eT⟩:=hv.agSt
     subst eT
     cases b with
     | true =>
      simp only [Rp,if_true,CRep] at hv ⊢
      exact zch hs _ _ hc c hs' hv
     | false =>
      simp only [Rp,wA0,if_false,VRep] at hv ⊢
      obtain ⟨v,e,arr,e1,hv⟩:=hv
      obtain ⟨X',h1,h2,h3⟩:=zch hs _ _ hc c hs' hv
      exact ⟨X',h1,h2,v,e,arr,e1,h3⟩
    ·exact same he
   ·rename_i T1 hs1 T2 ds heq
    injection heq with e1 e2
    subst e1 e2
    split at he
    ·rename_i Ts
     split at he
     ·rename_i hb
      simp only [wD0] at hb
      have:=Ty.beq_eq hb.1
      subst this
      generalize hc:coLC Hm hs (zipD Ts ds) s=p at he
      obtain ⟨r,s1⟩:=p
      obtain ⟨e3,e4⟩:=zal he
      subst e3 e4
      have hv2:=Rp.parts (l:=zipD Ts ds) rfl hv fun cs h=>zp3 h
      cases b with
      | true =>
       simp only [Rp,if_true,CRep] at hv2 ⊢
       exact zch hs _ _ hc c hs' hv2
      | false =>
       simp only [Rp,wA0,if_false,VRep] at hv2 ⊢
       obtain ⟨v,e,arr,e1,hv2⟩:=hv2
       obtain ⟨X',h1,h2,h3⟩:=zch hs _ _ hc c hs' hv2
       exact ⟨X',h1,h2,v,e,arr,e1,h3⟩
     ·exact same he
    ·exact same he
   ·rename_i T1 hs1 T2 i heq
    injection heq with e1 e2
    subst e1 e2
    split at he
    ·rename_i Ts
     split at he
     ·rename_i hb
      have:=Ty.beq_eq hb
      subst this
      generalize hx:zbW (.v i) Ts 0 s=p0 at he
      obtain ⟨l0,s0⟩:=p0
      simp only at he
      generalize hc:coLC Hm hs l0 s0=p at he
      obtain ⟨r,s1⟩:=p
      obtain ⟨e3,e4⟩:=zal he
      subst e3 e4
      obtain ⟨ds,hds⟩:=hv.aggv
      have hs0:=zft (X:=X) hs _ _ hc hs'
      have hm:s0.m=s.m:=by
       have:∀ (Ts:List Ty) (j:Nat) (s:CoS),(zbW (.v i) Ts j s).2.m=s.m:=by
        intro Ts
        induction Ts with
        | nil=>intro j s;rfl
        | cons T Ts ih=>intro j s;simp only [zbW];exact ih _ _
       have h:=this Ts 0 s
       rw [hx] at h
       exact h
      have hv2:=Rp.parts (l:=l0) hds hv fun cs h=>(zg3 hds hx hs0 (by simpa using h)).2.2
      have c0:CoOk B0 C k X s0:=⟨by rw [hm];exact c.μ,by rw [hm];exact c.A,c.mem,c.B⟩
      have t0:CoTo X X s s0:=⟨rfl,rfl,Ext.refl X,fun _ _ _ h=>by rw [hm];exact h⟩
      cases b with
      | true =>
       simp only [Rp,if_true,CRep] at hv2 ⊢
       obtain ⟨X',h1,h2,h3⟩:=zch hs _ _ hc c0 hs' hv2
       exact ⟨X',t0.trans h1,h2,h3⟩
      | false =>
       simp only [Rp,wA0,if_false,VRep] at hv2 ⊢
       obtain ⟨v,e,arr,e1,hv2⟩:=hv2
       obtain ⟨X',h1,h2,h3⟩:=zch hs _ _ hc c0 hs' hv2
       exact ⟨X',t0.trans h1,h2,v,e,arr,e1,h3⟩
     ·exact same he
    ·exact same he
   ·rename_i heq
    cases heq
   ·rename_i heq
    cases heq
   ·exact same he
 | .tu hs,l,s,X,x,s',he,c,hs',b,cs,hv=>by
  have hl:zeF Hm (.tu hs) l s=none:=rfl
  unfold coSV at he
  rw [hl] at he
  simp only at he
  have same:(l,s)=(x,s')→∃ X',CoTo X X' s s'∧CoOk B0 C k X' s'∧Rp X' b x cs:=fun he=>by
   obtain ⟨e3,e4⟩:=zal he
   subst e3 e4
   exact ⟨X,CoTo.refl X s,c,hv⟩
  cases l with
  | tu ls =>
   simp only at he
   generalize hc:coL Hm hs ls s=p at he
   obtain ⟨r,s1⟩:=p
   obtain ⟨e3,e4⟩:=zal he
   subst e3 e4
   cases b with
   | true=>simp only [Rp,if_true,CRep] at hv
   | false =>
    simp only [Rp,wA0,if_false,VRep] at hv ⊢
    obtain ⟨v,e,arr,e1,hv⟩:=hv
    obtain ⟨X',h1,h2,h3⟩:=ze8 hs _ _ hc c hs' hv
    exact ⟨X',h1,h2,v,e,arr,e1,h3⟩
  | _=>simp only at he;exact same he
 | .fn f us hs,l,s,X,x,s',he,c,hs',b,cs,hv=>by
  have hl:zeF Hm (.fn f us hs) l s=none:=rfl
  unfold coSV at he
  rw [hl] at he
  simp only at he
  have same:(l,s)=(x,s')→∃ X',CoTo X X' s s'∧CoOk B0 C k X' s'∧Rp X' b x cs:=fun he=>by
   obtain ⟨e3,e4⟩:=zal he
   subst e3 e4
   exact ⟨X,CoTo.refl X s,c,hv⟩
  cases l with
  | fn g ks ls =>
   simp only at he
   generalize hc:coL Hm us ks s=p at he
   obtain ⟨u,s1⟩:=p
   simp only at he
   generalize hc2:coL Hm hs ls s1=p at he
   obtain ⟨r,s2⟩:=p
   obtain ⟨e3,e4⟩:=zal he
   subst e3 e4
   have hs1:=zhS (X:=X) hs _ _ hc2 hs'
   have go:∀ {kv lv:List Value},VRepL X ks kv→VRepL X ls lv→∃ X',CoTo X X' s s2∧CoOk B0 C k X' s2∧VRepL X' u kv∧VRepL X' r lv:=fun hk hl=>by
    obtain ⟨X1,g1,g2,g3⟩:=ze8 us _ _ hc c hs1 hk
    obtain ⟨X2,g4,g5,g6⟩:=ze8 hs _ _ hc2 g2 (by rw [g1.E];exact hs') (VRepL.ext g1.ext hl)
    exact ⟨X2,g1.trans g4,g5,VRepL.ext g4.ext g3,g6⟩
   cases b with
   | true =>
    simp only [Rp,if_true,CRep] at hv ⊢
    obtain ⟨uv,lv,e1,h1,h2⟩:=hv
    obtain ⟨X',q1,q2,q3,q4⟩:=go h1 h2
    exact ⟨X',q1,q2,uv,lv,e1,q3,q4⟩
   | false =>
    simp only [Rp,wA0,if_false,VRep] at hv ⊢
    obtain ⟨v,e,uv,lv,e1,h1,h2⟩:=hv
    obtain ⟨X',q1,q2,q3,q4⟩:=go h1 h2
    exact ⟨X',q1,q2,v,e,uv,lv,e1,q3,q4⟩
  | _=>simp only at he;exact same he
 | .un n,l,s,X,x,s',he,c,hs',b,cs,hv=>zaJ (h:=.un n) rfl he c hs' hv
 | .cv n,l,s,X,x,s',he,c,hs',b,cs,hv=>zaJ (h:=.cv n) rfl he c hs' hv
 | .d T a,l,s,X,x,s',he,c,hs',b,cs,hv=>zaJ (h:=.d T a) rfl he c hs' hv
 | .h e r vw,l,s,X,x,s',he,c,hs',b,cs,hv=>zaJ (h:=.h e r vw) rfl he c hs' hv
 | .hc e r i,l,s,X,x,s',he,c,hs',b,cs,hv=>zaJ (h:=.hc e r i) rfl he c hs' hv
 | .mr K V r,l,s,X,x,s',he,c,hs',b,cs,hv=>zaJ (h:=.mr K V r) rfl he c hs' hv
 | .z e a,l,s,X,x,s',he,c,hs',b,cs,hv=>zaJ (h:=.z e a) rfl he c hs' hv
 | .p R T r q,l,s,X,x,s',he,c,hs',b,cs,hv=>zaJ (h:=.p R T r q) rfl he c hs' hv
 | .pd T a,l,s,X,x,s',he,c,hs',b,cs,hv=>zaJ (h:=.pd T a) rfl he c hs' hv
 | .hb R e n r q,l,s,X,x,s',he,c,hs',b,cs,hv=>zaJ (h:=.hb R e n r q) rfl he c hs' hv
 | .hr e r i g,l,s,X,x,s',he,c,hs',b,cs,hv=>zaJ (h:=.hr e r i g) rfl he c hs' hv
 | .pm e T r i q g,l,s,X,x,s',he,c,hs',b,cs,hv=>zaJ (h:=.pm e T r i q g) rfl he c hs' hv
theorem ze8:∀ (hs ls:List SV) (s:CoS) {X:Ctx}{r:List SV}{s':CoS},coL Hm hs ls s=(r,s')→CoOk B0 C k X s→Sat C k X.E s'.bs s'.nv→∀ {vs:List Value},VRepL X ls vs →
  ∃ X',CoTo X X' s s'∧CoOk B0 C k X' s'∧VRepL X' r vs
 | h::hs,l::ls,s,X,r,s',he,c,hs',vs,hv=>by
  simp only [coL] at he
  generalize h1:coSV Hm h l s=p at he
  obtain ⟨x,s1⟩:=p
  simp only at he
  generalize h2:coL Hm hs ls s1=p at he
  obtain ⟨r',s2⟩:=p
  obtain ⟨e3,e4⟩:=zal he
  subst e3 e4
  simp only [VRepL] at hv ⊢
  obtain ⟨v,vs',ev,hv1,hv2⟩:=hv
  have hs1:=zhS (X:=X) hs _ _ h2 hs'
  obtain ⟨X1,g1,g2,g3⟩:=zfq h _ _ h1 c hs1 (b:=false) (cs:=[v]) (by simp only [Rp,wA0,if_false];exact ⟨v,rfl,hv1⟩)
  obtain ⟨X2,g4,g5,g6⟩:=ze8 hs _ _ h2 g2 (by rw [g1.E];exact hs') (VRepL.ext g1.ext hv2)
  simp only [Rp,wA0,if_false] at g3
  obtain ⟨v',ev',g3⟩:=g3
  injection ev' with ev'
  subst ev'
  exact ⟨X2,g1.trans g4,g5,v,vs',ev,VRep.ext g4.ext g3,g6⟩
 | [],ls,s,X,r,s',he,c,hs',vs,hv=>by
  unfold coL at he
  obtain ⟨e3,e4⟩:=zal he
  subst e3 e4
  exact ⟨X,CoTo.refl X s,c,hv⟩
 | _::_,[],s,X,r,s',he,c,hs',vs,hv=>by
  unfold coL at he
  obtain ⟨e3,e4⟩:=zal he
  subst e3 e4
  exact ⟨X,CoTo.refl X s,c,hv⟩
theorem zch:∀ (hs ls:List SV) (s:CoS) {X:Ctx}{r:List SV}{s':CoS},coLC Hm hs ls s=(r,s')→CoOk B0 C k X s→Sat C k X.E s'.bs s'.nv→∀ {Ts:List Ty}{cs:List Value},CRepL X ls Ts cs →
  ∃ X',CoTo X X' s s'∧CoOk B0 C k X' s'∧CRepL X' r Ts cs
 | h::hs,l::ls,s,X,r,s',he,c,hs',Ts,cs,hv=>by
  simp only [coLC] at he
  generalize h1:coSV Hm h l s=p at he
  obtain ⟨x,s1⟩:=p
  simp only at he
  generalize h2:coLC Hm hs ls s1=p at he
  obtain ⟨r',s2⟩:=p
  obtain ⟨e3,e4⟩:=zal he
  subst e3 e4
  cases Ts with
  | nil=>simp only [CRepL] at hv
  | cons T Ts =>
   simp only [CRepL] at hv ⊢
   obtain ⟨c1,c2,ec,hT,hv1,hv2⟩:=hv
   have hs1:=zft (X:=X) hs _ _ h2 hs'
   obtain ⟨X1,g1,g2,g3⟩:=zfq h _ _ h1 c hs1 (b:=true) (cs:=c1) (by simp only [Rp,if_true];exact hv1)
   obtain ⟨X2,g4,g5,g6⟩:=zch hs _ _ h2 g2 (by rw [g1.E];exact hs') (CRepL.ext g1.ext hv2)
   simp only [Rp,if_true] at g3
   refine ⟨X2,g1.trans g4,g5,c1,c2,ec,?_,?_,g6⟩
   ·split
    ·rename_i hsm;exact zk5 hsm hT
    ·exact hT
   ·split
    ·exact CRep.ext g4.ext g3
    ·exact CRep.ext (g1.trans g4).ext hv1
 | [],ls,s,X,r,s',he,c,hs',Ts,cs,hv=>by
  unfold coLC at he
  obtain ⟨e3,e4⟩:=zal he
  subst e3 e4
  exact ⟨X,CoTo.refl X s,c,hv⟩
 | _::_,[],s,X,r,s',he,c,hs',Ts,cs,hv=>by
  unfold coLC at he
  obtain ⟨e3,e4⟩:=zal he
  subst e3 e4
  exact ⟨X,CoTo.refl X s,c,hv⟩
end
theorem zbh {X:Ctx}{H:St}:∀ {ps:List (Nat×Nat)}{s s':CoS},zbw H ps s=s'→Sat C k X.E s'.bs s'.nv→Sat C k X.E s.bs s.nv
 | [],s,s',he,hs=>by simp only [zbw] at he;subst he;exact hs
 | (l,h)::r,s,s',he,hs=>by
  simp only [zbw] at he
  split at he
  ·split at he
   ·rename_i T hv T' lv _ _ _
    generalize h1:coSV H.mem hv lv s=p at he
    obtain ⟨x,s1⟩:=p
    simp only at he
    split at he
    ·exact ziP (X:=X) _ _ _ h1 (zbh (s:={ s1 with m:=s1.m.set l (.box T' x) }) he hs)
    ·exact ziP (X:=X) _ _ _ h1 (zbh he hs)
   ·exact zbh he hs
  ·exact zbh he hs
theorem Mem.rebox' {X:Ctx}(m:Mem B0 X) (hB:B0≤X.w.heap.size) {r:Nat}{T:Ty}{v v':SV}(hA:X.A r) (hR:X.μ r=.box T v) (hT:∀ cs,v.hasTy T→CRep X v cs→v'.hasTy T) (hc:∀ cs c te b,(X.β r).main=some b→X.w.heap[b]?=some (.cells cs te c)→CRep X v cs.toList→CRep X v' cs.toList) :
  Ext X { X with μ:=upd X.μ r (.box T v') }∧Mem B0 { X with μ:=upd X.μ r (.box T v') }:=by
 refine Mem.change m hB (fun q=>q=r) (fun _ _ h=>h) (fun _ h=>h) (fun q h=>.inl h) (fun q hq=>⟨upd_ne _ _ hq,rfl⟩) (fun _ _ _=>rfl) (fun _ _ h=>h) ?_ ?_ ?_ (fun _ _ _=>rfl) ?_ ?_
 ·intro q b hq _ hb
  subst hq
  simp only [upd_same] at hb
  exact .inr ⟨q,rfl,hA,by rw [hR];exact hb⟩
 ·intro q q' b hq hq' _ _ _ _
  rw [hq,hq']
 ·intro q hq _
  subst hq
  have:=m.once q hA
  rw [hR] at this
  simp only [upd_same]
  exact this
 ·intro q hq _ _
  subst hq
  refine ⟨by rw [hR];rfl,fun e1 a1 d1 hr hd=>?_,fun e1 a1 g1 hr=>?_⟩
  ·rw [hR] at hr
   cases hr
  ·simp only [upd_same] at hr
   cases hr
 ·intro x q hq _
  subst hq
  simp only [upd_same]
  have hrep:=m.rep q hA
  rw [hR] at hrep
  obtain ⟨b,c,te,h1,h2,h3,h4⟩:=hrep
  exact ⟨b,c,te,h1,h2,hT _ h3 h4,CRep.ext x (hc c _ te b h1 h2 h4)⟩
theorem zbr {H:St}:∀ {ps:List (Nat×Nat)}{s s':CoS}{X:Ctx},zbw H ps s=s'→CoOk B0 C k X s→Sat C k X.E s'.bs s'.nv→∃ X',X'.E=X.E∧X'.w=X.w∧Ext X X'∧CoOk B0 C k X' s'
 | [],s,s',X,he,c,hs=>by simp only [zbw] at he;subst he;exact ⟨X,rfl,rfl,Ext.refl X,c⟩
 | (l,h)::r,s,s',X,he,c,hs=>by
  simp only [zbw] at he
  split at he
  ·rename_i T hv T' lv hh hm
   split at he
   ·generalize h1:coSV H.mem hv lv s=p at he
    obtain ⟨x,s1⟩:=p
    simp only at he
    have hlt:=zcW (m:=s.m) (r:=l) (by rw [hm];simp)
    have hA:=(c.A l).2 hlt
    have hR:X.μ l=.box T' lv:=by rw [c.μ];exact hm
    have hrep:=c.mem.rep l hA
    rw [hR] at hrep
    obtain ⟨b,cc,te,q1,q2,q3,q4⟩:=hrep
    split at he
    ·rename_i hsm
     have hs1:Sat C k X.E s1.bs s1.nv:=zbh (s:={ s1 with m:=s1.m.set l (.box T' x) }) he hs
     obtain ⟨X1,t1,c1,g3⟩:=zfq _ _ _ h1 c hs1 (b:=true) (cs:=cc.toList) (by simp only [Rp,if_true];exact q4)
     simp only [Rp,if_true] at g3
     have hbx:=t1.box l T' lv hm
     have hlt1:=zcW (m:=s1.m) (r:=l) (by rw [hbx];simp)
     have hA1:=(c1.A l).2 hlt1
     have hR1:X1.μ l=.box T' lv:=by rw [c1.μ];exact hbx
     obtain ⟨x2,m2⟩:=c1.mem.rebox' c1.B hA1 hR1 (v':=x) (fun cs ht _=>zk5 hsm ht) (fun cs fr te' b' hb' hh' _=>by
      have hβ:=(t1.ext.β l hA).2
      rw [hβ,q1] at hb'
      injection hb' with hb'
      subst hb'
      rw [t1.w,q2] at hh'
      injection hh' with hh'
      injection hh' with hh' _ _
      subst hh'
      exact g3)
     obtain ⟨X',e1,e2,e3,e4⟩:=zbr (s:={ s1 with m:=s1.m.set l (.box T' x) }) (X:={ X1 with μ:=upd X1.μ l (.box T' x) }) he ⟨by
      funext q
      show upd X1.μ l _ q=zac (s1.m.set l _) q
      rw [zjC hlt1,c1.μ],fun q=>by
      show X1.A q↔q<(s1.m.set l _).length
      rw [c1.A q]
      simp,m2,c1.B⟩ (by show Sat C k X1.E _ _;rw [t1.E];exact hs)
     exact ⟨X',e1.trans t1.E,e2.trans t1.w,(t1.ext.trans x2).trans e3,e4⟩
    ·have hs1:Sat C k X.E s1.bs s1.nv:=zbh he hs
     obtain ⟨X1,t1,c1,_⟩:=zfq _ _ _ h1 c hs1 (b:=true) (cs:=cc.toList) (by simp only [Rp,if_true];exact q4)
     obtain ⟨X',e1,e2,e3,e4⟩:=zbr he c1 (by rw [t1.E];exact hs)
     exact ⟨X',e1.trans t1.E,e2.trans t1.w,t1.ext.trans e3,e4⟩
   ·exact zbr he c hs
  ·exact zbr he c hs
end
end Go.SX
namespace Go.SX
open Go.RowKit (Below)
theorem zez {rh:List (Nat×Nat)}{l h:Nat}(e:look rh l=some h):(l,h)∈rh:=by
 induction rh with
 | nil=>simp [look] at e
 | cons p r ih =>
  obtain ⟨a,b⟩:=p
  simp only [look] at e
  split at e
  ·rename_i hb
   injection e with e
   rw [zad hb,e]
   simp
  ·exact List.mem_cons_of_mem _ (ih e)
theorem ze9 {rh:List (Nat×Nat)}{l h:Nat}(e:zbI rh h=some l):(l,h)∈rh:=by
 induction rh with
 | nil=>simp [zbI] at e
 | cons p r ih =>
  obtain ⟨a,b⟩:=p
  simp only [zbI] at e
  split at e
  ·rename_i hb
   injection e with e
   rw [zad hb,e]
   simp
  ·exact List.mem_cons_of_mem _ (ih e)
theorem ziL {base n:Nat}:∀ {rh:List (Nat×Nat)},rhOk base n rh=true→(∀ l h h',(l,h)∈rh→(l,h')∈rh→h=h')∧(∀ l l' h,(l,h)∈rh→(l',h)∈rh→l=l')∧(∀ l h,(l,h)∈rh→(l=h∨base≤h)∧h<n)
 | [],_=>by simp
 | (l0,h0)::r,hk=>by
  simp only [rhOk,wD0,Bool.or_eq_true,Bool.not_eq_true',List.any_eq_false,Nat.ble_eq,Nat.blt_eq] at hk
  obtain ⟨⟨⟨h1,h2⟩,h3⟩,h4⟩:=hk
  obtain ⟨i1,i2,i3⟩:=ziL h4
  have no:∀ l h,(l,h)∈r→l≠l0∧h≠h0:=fun l h hm=>by
   have:=h3 (l,h) hm
   exact ⟨fun e=>this (.inl (by rw [e];exact Nat.beq_refl _)),fun e=>this (.inr (by rw [e];exact Nat.beq_refl _))⟩
  refine ⟨fun l h h' m1 m2=>?_,fun l l' h m1 m2=>?_,fun l h m1=>?_⟩
  ·rcases List.mem_cons.1 m1 with m1|m1<;>rcases List.mem_cons.1 m2 with m2|m2
   ·injection m1 with _ a;injection m2 with _ b;rw [a,b]
   ·injection m1 with a _;exact absurd a (no _ _ m2).1
   ·injection m2 with a _;exact absurd a (no _ _ m1).1
   ·exact i1 l h h' m1 m2
  ·rcases List.mem_cons.1 m1 with m1|m1<;>rcases List.mem_cons.1 m2 with m2|m2
   ·injection m1 with a _;injection m2 with b _;rw [a,b]
   ·injection m1 with _ a;exact absurd a (no _ _ m2).2
   ·injection m2 with _ a;exact absurd a (no _ _ m1).2
   ·exact i2 l l' h m1 m2
  ·rcases List.mem_cons.1 m1 with m1|m1
   ·injection m1 with a b
    subst a b
    exact ⟨h1.imp zad id,h2⟩
   ·exact i3 l h m1
theorem zo5 {rh:List (Nat×Nat)}{l h:Nat}(hm:(l,h)∈rh):∃ l',zbI rh h=some l':=by
 induction rh with
 | nil=>simp at hm
 | cons p r ih =>
  obtain ⟨a,b⟩:=p
  simp only [zbI]
  by_cases hb:Nat.beq b h=true
  ·exact ⟨a,by rw [if_pos hb]⟩
  ·rw [if_neg hb]
   rcases List.mem_cons.1 hm with hm|hm
   ·injection hm with _ e
    exact absurd (by rw [e];exact Nat.beq_refl _) hb
   ·exact ih hm
theorem zc4 {base:Nat}{rh:List (Nat×Nat)}{m:List Root}:∀ (n h j:Nat),j<n→(zdS base rh m n h)[j]?=some (match zbI rh (h + j) with|some l=>(zac m l).ren base m rh (h + j)|none=>.dead)
 | 0,_,_,hj=>by omega
 | n + 1,h,0,_=>by
  simp only [zdS,Nat.add_zero,List.getElem?_cons_zero]
  cases zbI rh h<;>rfl
 | n + 1,h,j + 1,hj=>by
  simp only [zdS,List.getElem?_cons_succ]
  rw [zc4 n (h + 1) j (by omega),show h + 1 + j=h + (j + 1) by omega]
theorem zgV {base:Nat}{rh:List (Nat×Nat)}{m:List Root}:∀ (n h:Nat),(zdS base rh m n h).length=n
 | 0,_=>rfl
 | n + 1,h=>by simp [zdS,zgV n]
section
variable {base n:Nat} {m:List Root} {rh:List (Nat×Nat)}
theorem Root.ren_own (h:Nat) (R:Root) (p:Pl):(R.ren base m rh h).own p=R.own p:=by cases R<;>rfl
theorem Root.ren_there (h:Nat) (R:Root):(R.ren base m rh h).there=R.there:=by cases R<;>rfl
theorem Root.ren_row (h:Nat) (R:Root):(R.ren base m rh h).row?=R.row?:=by cases R<;>rfl
theorem Root.ren_mat {h:Nat}{R:Root}{e:Ty}{a:At}{g:Nat}(hR:R.ren base m rh h=.mat e a g):∃ g',R=.mat e a g'∧g=gen0 base h g':=by
 cases R<;>simp only [Root.ren,reduceCtorEq,Root.mat.injEq] at hR
 obtain ⟨h1,h2,h3⟩:=hR
 subst h1 h2
 exact ⟨_,rfl,h3.symm⟩
def Ctx.ren (X:Ctx) (base n:Nat) (m:List Root) (rh:List (Nat×Nat)):Ctx :=
 { E:=X.E,w:=X.w,μ:=zac (zdS base rh m n 0),β:=fun h=>match zbI rh h with|some l=>X.β l|none=>X.β h,A:=fun r=>r<n,F:=X.F }
variable {X:Ctx}
theorem zke (hk:rhOk base n rh=true) {l h:Nat}(hm:(l,h)∈rh):(X.ren base n m rh).μ h=(zac m l).ren base m rh h∧(X.ren base n m rh).β h=X.β l∧h<n:=by
 obtain ⟨i1,i2,i3⟩:=ziL hk
 obtain ⟨l',hl'⟩:=zo5 hm
 have:l'=l:=i2 _ _ _ (ze9 hl') hm
 subst this
 have hlt:=(i3 _ _ hm).2
 refine ⟨?_,?_,hlt⟩
 ·show zac (zdS base rh m n 0) h=_
  rw [zdn (zc4 n 0 h hlt)]
  simp only [Nat.zero_add,hl']
 ·simp only [Ctx.ren,hl']
theorem zdY (r:Nat):(∃ l,(l,r)∈rh∧r<n∧(X.ren base n m rh).μ r=(zac m l).ren base m rh r∧(X.ren base n m rh).β r=X.β l)∨(X.ren base n m rh).μ r=.dead:=by
 by_cases hr:r<n
 ·cases hl:zbI rh r with
  | none =>
   right
   show zac (zdS base rh m n 0) r=_
   rw [zdn (zc4 n 0 r hr)]
   simp only [Nat.zero_add,hl]
  | some l =>
   refine .inl ⟨l,ze9 hl,hr,?_,by simp only [Ctx.ren,hl]⟩
   show zac (zdS base rh m n 0) r=_
   rw [zdn (zc4 n 0 r hr)]
   simp only [Nat.zero_add,hl]
 ·right
  exact zjm (by rw [zgV];omega)
theorem zuE (_hk:rhOk base n rh=true) (hμ:X.μ=zac m) (hA:∀ r,X.A r↔r<m.length) {b:Nat}(h:(X.ren base n m rh).M b):X.M b:=by
 rcases h with h|⟨r,h1,h2⟩
 ·exact .inl h
 ·rcases zdY (X:=X) (base:=base) (n:=n) (m:=m) (rh:=rh) r with ⟨l,q1,q2,q3,q4⟩|q
  ·rw [q3,q4,Root.ren_own,← hμ] at h2
   refine .inr ⟨l,(hA l).2 (zcW fun hd=>?_),h2⟩
   rw [hμ,hd] at h2
   simp [Root.own] at h2
  ·rw [q] at h2
   simp [Root.own] at h2
theorem zrz (hk:rhOk base n rh=true) (hμ:X.μ=zac m) (hA:∀ r,X.A r↔r<m.length):Keeps X.w (X.ren base n m rh).w X.M (X.ren base n m rh).M:=⟨fun _ _ _=>rfl,fun _ _ h h'=>h (zuE hk hμ hA h')⟩
theorem znV {r g:Nat}(h:zgC m r=some g):∃ e a,zac m r=.mat e a g:=by
 unfold zgC at h
 split at h
 ·rename_i e a g' hm
  injection h with h
  exact ⟨e,a,by rw [hm,h]⟩
 ·cases h
theorem zex (hk:rhOk base n rh=true) (hμ:X.μ=zac m) (hA:∀ r,X.A r↔r<m.length) {s:SV}{v:Value}(h:Ref X s v):s.ren base m rh=.un 1∨Ref (X.ren base n m rh) (s.ren base m rh) v:=by
 cases s<;>simp only [SV.ren]<;>try (right;simp only [Ref] at h ⊢;done)
 case h e r vw =>
  cases hl:look rh r with
  | none=>exact .inl rfl
  | some r' =>
   right
   obtain ⟨q1,q2,q3⟩:=zke (X:=X) hk (zez hl)
   simp only [Ref] at h ⊢
   refine ⟨h.1,q3,fun ht=>?_⟩
   rw [q1,Root.ren_there,← hμ] at ht
   obtain ⟨a,d,h1,h2,h3⟩:=h.2.2 ht
   refine ⟨a,d,by rw [q1,Root.ren_row,← hμ];exact h1,h2,?_⟩
   rw [q2]
   exact h3
 case hc e r hi =>
  cases hl:look rh r with
  | none=>exact .inl rfl
  | some r' =>
   right
   obtain ⟨q1,q2,q3⟩:=zke (X:=X) hk (zez hl)
   simp only [Ref] at h ⊢
   refine ⟨h.1,q3,fun ht=>?_⟩
   rw [q1,Root.ren_there,← hμ] at ht
   obtain ⟨a,d,h1,h2,h3⟩:=h.2.2 ht
   refine ⟨a,d,by rw [q1,Root.ren_row,← hμ];exact h1,h2,?_⟩
   rw [q2]
   exact h3
 case z e a=>right;simp only [Ref] at h ⊢;exact h
 case pd T a =>
  right
  simp only [Ref] at h ⊢
  obtain ⟨ad,d,xs,h1,h2,h3,h4,h5⟩:=h
  exact ⟨ad,d,xs,h1,h2,h3.keep (zrz hk hμ hA),h4,fun hx hM=>h5 hx (zuE hk hμ hA hM)⟩
 case mr K V r =>
  cases hl:look rh r with
  | none=>exact .inl rfl
  | some r' =>
   right
   obtain ⟨q1,q2,q3⟩:=zke (X:=X) hk (zez hl)
   simp only [Ref] at h ⊢
   obtain ⟨_,b,h1,h2⟩:=h
   exact ⟨q3,b,h1,by rw [q2];exact h2⟩
 case p R T r q =>
  cases hl:look rh r with
  | none=>exact .inl rfl
  | some r' =>
   right
   obtain ⟨q1,q2,q3⟩:=zke (X:=X) hk (zez hl)
   simp only [Ref] at h ⊢
   obtain ⟨_,b,off,h1,h2,h3⟩:=h
   exact ⟨q3,b,off,h1,by rw [q2];exact h2,h3⟩
 case hb R e k r q =>
  cases hl:look rh r with
  | none=>exact .inl rfl
  | some r' =>
   right
   obtain ⟨q1,q2,q3⟩:=zke (X:=X) hk (zez hl)
   simp only [Ref] at h ⊢
   obtain ⟨_,h1,h2,b,h3,h4⟩:=h
   exact ⟨q3,h1,h2,b,by rw [q2];exact h3,h4⟩
 case hr e r ix g =>
  cases hl:look rh r with
  | none=>exact .inl rfl
  | some r' =>
   cases hg:zgC m r with
   | none=>exact .inl rfl
   | some g' =>
    simp only
    split
    ·rename_i hb
     have:=zad hb
     subst this
     right
     obtain ⟨q1,q2,q3⟩:=zke (X:=X) hk (zez hl)
     obtain ⟨em,am,hm⟩:=znV hg
     simp only [Ref] at h ⊢
     refine ⟨h.1,q3,fun e' a' g2 hm2=>?_⟩
     rw [q1,hm] at hm2
     simp only [Root.ren,Root.mat.injEq] at hm2
     obtain ⟨e1,e2,e3⟩:=hm2
     subst e1 e2 e3
     refine ⟨wG0 _,fun _=>?_⟩
     obtain ⟨_,hh⟩:=h.2.2 em am g (by rw [hμ];exact hm)
     obtain ⟨he,k,i,ds,d,o,h1,h2,h3,h4,h5⟩:=hh rfl
     exact ⟨he,k,i,ds,d,o,h1,h2,h3,by rw [q2];exact h4,h5⟩
    ·exact .inl rfl
 case pm e T r ix q g =>
  cases hl:look rh r with
  | none=>exact .inl rfl
  | some r' =>
   cases hg:zgC m r with
   | none=>exact .inl rfl
   | some g' =>
    simp only
    split
    ·rename_i hb
     have:=zad hb
     subst this
     right
     obtain ⟨q1,q2,q3⟩:=zke (X:=X) hk (zez hl)
     obtain ⟨em,am,hm⟩:=znV hg
     simp only [Ref] at h ⊢
     refine ⟨h.1,q3,fun e' a' g2 hm2=>?_⟩
     rw [q1,hm] at hm2
     simp only [Root.ren,Root.mat.injEq] at hm2
     obtain ⟨e1,e2,e3⟩:=hm2
     subst e1 e2 e3
     refine ⟨wG0 _,fun _=>?_⟩
     obtain ⟨_,hh⟩:=h.2.2 em am g (by rw [hμ];exact hm)
     obtain ⟨he,k,i,b,off,h1,h2,h3⟩:=hh rfl
     exact ⟨he,k,i,b,off,h1,by rw [q2];exact h2,h3⟩
    ·exact .inl rfl
theorem zdA (hk:rhOk base n rh=true) (hμ:X.μ=zac m) (hA:∀ r,X.A r↔r<m.length) {s:SV}{cs:List Value}(h:∃ v,cs=[v]∧Ref X s v) (hs:∀ s':SV,s'=s.ren base m rh→(∃ n,s'=.un n)∨(∀ cs,(∃ v,cs=[v]∧Ref (X.ren base n m rh) s' v)→CRep (X.ren base n m rh) s' cs)):CRep (X.ren base n m rh) (s.ren base m rh) cs:=by
 obtain ⟨v,e,hv⟩:=h
 subst e
 rcases zex (n:=n) hk hμ hA hv with h1|h1
 ·rw [h1]
  simp only [CRep]
  exact ⟨rfl,fun u hu=>by simp at hu;subst hu;exact hv.one⟩
 ·rcases hs _ rfl with ⟨k,h2⟩|h2
  ·rw [h2] at h1
   simp only [Ref] at h1
  ·exact h2 _ ⟨v,rfl,h1⟩
theorem zoe {s:SV}{T:Ty}{cs:List Value}(ht:s.hasTy T) (hc:CRep X s cs):(s.ren base m rh).hasTy T:=by
 have key:∀ {s':SV},s.ren base m rh=s'→s'.hasTy T∨(s'=.un 1∧T.size=1)→(s.ren base m rh).hasTy T:=fun e h=>by
  rw [e]
  rcases h with h|⟨h,h1⟩
  ·exact h
  ·rw [h];exact h1.symm
 have one:T.size=1→∀ {o:Option Nat} {f:Nat→SV},(∀ r',(f r').hasTy T)→(match o with|some r'=>f r'|none=>SV.un 1).hasTy T:=fun h1 o f hf=>by
  cases o with
  | none=>exact h1.symm
  | some r=>exact hf r
 cases s<;>simp only [SV.ren]<;>simp only [SV.hasTy] at ht<;>try (subst ht)
 case h e r vw=>cases look rh r<;>simp [SV.hasTy,Ty.size]
 case hc e r i=>cases look rh r<;>simp [SV.hasTy,Ty.size]
 case p R T r q=>cases look rh r<;>simp [SV.hasTy,Ty.size]
 case mr K V r=>cases look rh r<;>simp [SV.hasTy,Ty.size]
 case hb R e k r q=>cases look rh r<;>simp [SV.hasTy,Ty.size]
 case hr e r i g =>
  cases look rh r<;>cases zgC m r<;>first|rfl|(simp only;split<;>rfl)
 case pm e T r i q g =>
  cases look rh r<;>cases zgC m r<;>first|rfl|(simp only;split<;>rfl)
 all_goals simp only [SV.hasTy]
mutual
theorem zqf (hk:rhOk base n rh=true) (hμ:X.μ=zac m) (hA:∀ r,X.A r↔r<m.length):∀ {s:SV}{cs:List Value},CRep X s cs→CRep (X.ren base n m rh) (s.ren base m rh) cs
 | .un _,cs,h=>by simpa only [SV.ren,CRep] using h
 | .cv _,cs,h=>by simpa only [SV.ren,CRep] using h
 | .d T a,cs,h=>by
  simp only [SV.ren,CRep] at h ⊢
  obtain ⟨d,h1,h2⟩:=h
  exact ⟨d,h1,h2.keep (zrz hk hμ hA)⟩
 | .ag T l,cs,h=>by
  cases T<;>simp only [SV.ren,CRep] at h ⊢
  exact zi5 hk hμ hA h
 | .fn f u l,cs,h=>by
  simp only [SV.ren,CRep] at h ⊢
  obtain ⟨us,vs,h1,h2,h3⟩:=h
  exact ⟨us,vs,h1,zda hk hμ hA h2,zda hk hμ hA h3⟩
 | .tu _,_,h=>by simp only [CRep] at h
 | .z e a,cs,h=>by
  simp only [SV.ren,CRep,Ref] at h ⊢
  exact h
 | .pd T a,cs,h=>by
  have h':∃ v,cs=[v]∧Ref X (.pd T a) v:=by simpa only [CRep] using h
  exact zdA hk hμ hA h' fun s' e=>.inr fun cs hh=>by subst e;simp only [SV.ren,CRep] at hh ⊢;exact hh
 | .h e r vw,cs,h=>by
  have h':∃ v,cs=[v]∧Ref X (.h e r vw) v:=by simpa only [CRep] using h
  refine zdA hk hμ hA h' fun s' e=>?_
  subst e
  simp only [SV.ren]
  cases look rh r with
  | none=>exact .inl ⟨1,rfl⟩
  | some r'=>exact .inr fun cs hh=>by simp only [CRep];exact hh
 | .hc e r i,cs,h=>by
  have h':∃ v,cs=[v]∧Ref X (.hc e r i) v:=by simpa only [CRep] using h
  refine zdA hk hμ hA h' fun s' e=>?_
  subst e
  simp only [SV.ren]
  cases look rh r with
  | none=>exact .inl ⟨1,rfl⟩
  | some r'=>exact .inr fun cs hh=>by simp only [CRep];exact hh
 | .mr K V r,cs,h=>by
  have h':∃ v,cs=[v]∧Ref X (.mr K V r) v:=by simpa only [CRep] using h
  refine zdA hk hμ hA h' fun s' e=>?_
  subst e
  simp only [SV.ren]
  cases look rh r with
  | none=>exact .inl ⟨1,rfl⟩
  | some r'=>exact .inr fun cs hh=>by simp only [CRep];exact hh
 | .p R T r q,cs,h=>by
  have h':∃ v,cs=[v]∧Ref X (.p R T r q) v:=by simpa only [CRep] using h
  refine zdA hk hμ hA h' fun s' e=>?_
  subst e
  simp only [SV.ren]
  cases look rh r with
  | none=>exact .inl ⟨1,rfl⟩
  | some r'=>exact .inr fun cs hh=>by simp only [CRep];exact hh
 | .hb R e k r q,cs,h=>by
  have h':∃ v,cs=[v]∧Ref X (.hb R e k r q) v:=by simpa only [CRep] using h
  refine zdA hk hμ hA h' fun s' e=>?_
  subst e
  simp only [SV.ren]
  cases look rh r with
  | none=>exact .inl ⟨1,rfl⟩
  | some r'=>exact .inr fun cs hh=>by simp only [CRep];exact hh
 | .hr e r i g,cs,h=>by
  have h':∃ v,cs=[v]∧Ref X (.hr e r i g) v:=by simpa only [CRep] using h
  refine zdA hk hμ hA h' fun s' e=>?_
  subst e
  simp only [SV.ren]
  cases look rh r with
  | none=>exact .inl ⟨1,rfl⟩
  | some r' =>
   cases zgC m r with
   | none=>exact .inl ⟨1,rfl⟩
   | some g' =>
    simp only
    split
    ·exact .inr fun cs hh=>by simp only [CRep];exact hh
    ·exact .inl ⟨1,rfl⟩
 | .pm e T r i q g,cs,h=>by
  have h':∃ v,cs=[v]∧Ref X (.pm e T r i q g) v:=by simpa only [CRep] using h
  refine zdA hk hμ hA h' fun s' e=>?_
  subst e
  simp only [SV.ren]
  cases look rh r with
  | none=>exact .inl ⟨1,rfl⟩
  | some r' =>
   cases zgC m r with
   | none=>exact .inl ⟨1,rfl⟩
   | some g' =>
    simp only
    split
    ·exact .inr fun cs hh=>by simp only [CRep];exact hh
    ·exact .inl ⟨1,rfl⟩
theorem zi5 (hk:rhOk base n rh=true) (hμ:X.μ=zac m) (hA:∀ r,X.A r↔r<m.length):∀ {l:List SV}{Ts:List Ty}{cs:List Value},CRepL X l Ts cs→CRepL (X.ren base n m rh) (SV.renL base m rh l) Ts cs
 | [],[],cs,h=>by simpa only [SV.renL,CRepL] using h
 | s::l,T::Ts,cs,h=>by
  simp only [SV.renL,CRepL] at h ⊢
  obtain ⟨c1,c2,e,h0,h1,h2⟩:=h
  exact ⟨c1,c2,e,zoe h0 h1,zqf hk hμ hA h1,zi5 hk hμ hA h2⟩
 | [],_::_,_,h=>by simp only [CRepL] at h
 | _::_,[],_,h=>by simp only [CRepL] at h
theorem zts (hk:rhOk base n rh=true) (hμ:X.μ=zac m) (hA:∀ r,X.A r↔r<m.length):∀ {s:SV}{v:Value},VRep X s v→VRep (X.ren base n m rh) (s.ren base m rh) v
 | .un _,v,h=>by simp only [SV.ren,VRep]
 | .cv v',v,h=>by simpa only [SV.ren,VRep] using h
 | .d T a,v,h=>by
  simp only [SV.ren]
  obtain ⟨d,h1,h2⟩:=VRep.data.1 h
  exact VRep.data.2 ⟨d,h1,h2.keep (zrz hk hμ hA)⟩
 | .ag T l,v,h=>by
  cases T<;>simp only [SV.ren,VRep] at h ⊢
  obtain ⟨cs,h1,h2⟩:=h
  exact ⟨cs,h1,zi5 hk hμ hA h2⟩
 | .fn f u l,v,h=>by
  simp only [SV.ren,VRep] at h ⊢
  obtain ⟨us,vs,h1,h2,h3⟩:=h
  exact ⟨us,vs,h1,zda hk hμ hA h2,zda hk hμ hA h3⟩
 | .tu l,v,h=>by
  simp only [SV.ren,VRep] at h ⊢
  obtain ⟨vs,h1,h2⟩:=h
  exact ⟨vs,h1,zda hk hμ hA h2⟩
 | .z e a,cs,h=>by
  simp only [SV.ren,VRep,Ref] at h ⊢
  exact h
 | .pd T a,v,h=>by
  have h':Ref X (.pd T a) v:=by simpa only [VRep] using h
  rcases zex (n:=n) hk hμ hA h' with h1|h1
  ·rw [h1];simp only [VRep]
  ·simp only [SV.ren,VRep] at h1 ⊢;exact h1
 | .h e r vw,v,h=>by
  have h':Ref X (.h e r vw) v:=by simpa only [VRep] using h
  rcases zex (n:=n) hk hμ hA h' with h1|h1
  ·rw [h1];simp only [VRep]
  ·simp only [SV.ren] at h1 ⊢
   cases hl:look rh r with
   | none=>simp only [VRep]
   | some r'=>rw [hl] at h1;simp only [VRep];exact h1
 | .hc e r i,v,h=>by
  have h':Ref X (.hc e r i) v:=by simpa only [VRep] using h
  rcases zex (n:=n) hk hμ hA h' with h1|h1
  ·rw [h1];simp only [VRep]
  ·simp only [SV.ren] at h1 ⊢
   cases hl:look rh r with
   | none=>simp only [VRep]
   | some r'=>rw [hl] at h1;simp only [VRep];exact h1
 | .mr K V r,v,h=>by
  have h':Ref X (.mr K V r) v:=by simpa only [VRep] using h
  rcases zex (n:=n) hk hμ hA h' with h1|h1
  ·rw [h1];simp only [VRep]
  ·simp only [SV.ren] at h1 ⊢
   cases hl:look rh r with
   | none=>simp only [VRep]
   | some r'=>rw [hl] at h1;simp only [VRep];exact h1
 | .p R T r q,v,h=>by
  have h':Ref X (.p R T r q) v:=by simpa only [VRep] using h
  rcases zex (n:=n) hk hμ hA h' with h1|h1
  ·rw [h1];simp only [VRep]
  ·simp only [SV.ren] at h1 ⊢
   cases hl:look rh r with
   | none=>simp only [VRep]
   | some r'=>rw [hl] at h1;simp only [VRep];exact h1
 | .hb R e k r q,v,h=>by
  have h':Ref X (.hb R e k r q) v:=by simpa only [VRep] using h
  rcases zex (n:=n) hk hμ hA h' with h1|h1
  ·rw [h1];simp only [VRep]
  ·simp only [SV.ren] at h1 ⊢
   cases hl:look rh r with
   | none=>simp only [VRep]
   | some r'=>rw [hl] at h1;simp only [VRep];exact h1
 | .hr e r i g,v,h=>by
  have h':Ref X (.hr e r i g) v:=by simpa only [VRep] using h
  rcases zex (n:=n) hk hμ hA h' with h1|h1
  ·rw [h1];simp only [VRep]
  ·simp only [SV.ren] at h1 ⊢
   cases hl:look rh r with
   | none=>simp only [VRep]
   | some r' =>
    cases hg:zgC m r with
    | none=>simp only [VRep]
    | some g' =>
     rw [hl,hg] at h1
     simp only at h1 ⊢
     split
     ·rename_i hb;rw [if_pos hb] at h1;simp only [VRep];exact h1
     ·simp only [VRep]
 | .pm e T r i q g,v,h=>by
  have h':Ref X (.pm e T r i q g) v:=by simpa only [VRep] using h
  rcases zex (n:=n) hk hμ hA h' with h1|h1
  ·rw [h1];simp only [VRep]
  ·simp only [SV.ren] at h1 ⊢
   cases hl:look rh r with
   | none=>simp only [VRep]
   | some r' =>
    cases hg:zgC m r with
    | none=>simp only [VRep]
    | some g' =>
     rw [hl,hg] at h1
     simp only at h1 ⊢
     split
     ·rename_i hb;rw [if_pos hb] at h1;simp only [VRep];exact h1
     ·simp only [VRep]
theorem zda (hk:rhOk base n rh=true) (hμ:X.μ=zac m) (hA:∀ r,X.A r↔r<m.length):∀ {l:List SV}{vs:List Value},VRepL X l vs→VRepL (X.ren base n m rh) (SV.renL base m rh l) vs
 | [],vs,h=>by simpa only [SV.renL,VRepL] using h
 | s::l,vs,h=>by
  simp only [SV.renL,VRepL] at h ⊢
  obtain ⟨v,r,e,h1,h2⟩:=h
  exact ⟨v,r,e,zts hk hμ hA h1,zda hk hμ hA h2⟩
end
theorem zpT:∀ {m:List Root}{l:Nat}{e:Ty}{a:At},noBo m=true→zac m l≠.bo e a
 | [],l,e,a,_,h=>by simp [zac] at h
 | R::m,0,e,a,h,h2=>by simp only [zac,List.getElem?_cons_zero,Option.getD_some] at h2;subst h2;simp [noBo] at h
 | R::m,l + 1,e,a,h,h2=>by
  have h':noBo m=true:=by cases R<;>simp only [noBo,wA0] at h<;>exact h
  refine zpT h' (l:=l) (e:=e) (a:=a) ?_
  simpa only [zac,List.getElem?_cons_succ] using h2
theorem zp0:∀ {m:List Root}{l:Nat}{e:Ty}{a ix:At}{q:Nat},noBo m=true→zac m l≠.ow e a ix q
 | [],l,e,a,ix,q,_,h=>by simp [zac] at h
 | R::m,0,e,a,ix,q,h,h2=>by simp only [zac,List.getElem?_cons_zero,Option.getD_some] at h2;subst h2;simp [noBo] at h
 | R::m,l + 1,e,a,ix,q,h,h2=>by
  have h':noBo m=true:=by cases R<;>simp only [noBo,wA0] at h<;>exact h
  refine zp0 h' (l:=l) (e:=e) (a:=a) (ix:=ix) (q:=q) ?_
  simpa only [zac,List.getElem?_cons_succ] using h2
theorem zuL {B0:Nat}(hbo:noBo m=true) (hk:rhOk base n rh=true) (hμ:X.μ=zac m) (hA:∀ r,X.A r↔r<m.length) (hm:Mem B0 X):Mem B0 (X.ren base n m rh) where
 rep:=fun r _=>by
  rcases zdY (X:=X) (base:=base) (n:=n) (m:=m) (rh:=rh) r with ⟨l,q1,q2,q3,q4⟩|q
  ·rw [q3]
   have K:=zrz (X:=X) hk hμ hA
   by_cases hd:zac m l=.dead
   ·rw [hd];trivial
   ·have hAl:=(hA l).2 (zcW hd)
    have h:=hm.rep l hAl
    rw [hμ] at h
    cases hR:zac m l with
    | dead=>exact absurd hR hd
    | box T v =>
     rw [hR] at h
     obtain ⟨b,c,te,h1,h2,h3,h4⟩:=h
     exact ⟨b,c,te,by rw [q4];exact h1,h2,zoe h3 h4,zqf hk hμ hA h4⟩
    | row e a =>
     rw [hR] at h
     obtain ⟨d,h1,h2⟩:=h
     refine ⟨d,h1,?_⟩
     rw [q4]
     rcases h2 with h2|⟨b,c,te,fr,l',xs,p1,p2,p3,p4,p5,p6⟩
     ·exact .inl h2
     ·exact .inr ⟨b,c,te,fr,l',xs,p1,p2,p3,p4,p5.keep K,p6⟩
    | bo e a=>exact absurd hR (zpT hbo)
    | ow e a ix q=>exact absurd hR (zp0 hbo)
    | lt e a q =>
     rw [hR] at h
     obtain ⟨d,h1,h2⟩:=h
     refine ⟨d,h1,?_⟩
     rw [q4]
     rcases h2 with h2|⟨b,c,te,fr,l',xs,p1,p2,p3,p4,p5,p6⟩
     ·exact .inl h2
     ·exact .inr ⟨b,c,te,fr,l',xs,p1,p2,p3,p4,p5.keep K,p6⟩
    | fz e a =>
     rw [hR] at h
     obtain ⟨⟨d,h1,h2⟩,h3⟩:=h
     refine ⟨⟨d,h1,?_⟩,fun b hb hM=>h3 b (by rw [q4] at hb;exact hb) (zuE hk hμ hA hM)⟩
     rw [q4]
     rcases h2 with h2|⟨b,c,te,fr,l',xs,p1,p2,p3,p4,p5,p6⟩
     ·exact .inl h2
     ·exact .inr ⟨b,c,te,fr,l',xs,p1,p2,p3,p4,p5.keep K,p6⟩
    | mat e a g =>
     rw [hR] at h
     obtain ⟨d,h1,h2⟩:=h
     refine ⟨d,h1,?_⟩
     rw [q4]
     rcases h2 with h2|⟨b,c,te,l',xs,p1,p2,p3,p4,p5⟩
     ·exact .inl h2
     ·exact .inr ⟨b,c,te,l',xs,p1,p2,p3,p4.keep K (fun _ _=>rfl),p5⟩
    | mp kt vt a =>
     rw [hR] at h
     obtain ⟨l',b,es,clk,h1,h2,h3,h4⟩:=h
     exact ⟨l',b,es,clk,h1,by rw [q4];exact h2,h3,h4.keep K⟩
  ·rw [q];trivial
 apart:=fun r r' b h1 h2 h3 h4=>by
  rcases zdY (X:=X) (base:=base) (n:=n) (m:=m) (rh:=rh) r with ⟨l,q1,q2,q3,q4⟩|q
  ·rcases zdY (X:=X) (base:=base) (n:=n) (m:=m) (rh:=rh) r' with ⟨l',p1,p2,p3,p4⟩|p
   ·rw [q3,q4,Root.ren_own,← hμ] at h3
    rw [p3,p4,Root.ren_own,← hμ] at h4
    have hl:X.A l:=(hA l).2 (zcW fun hd=>by rw [hμ,hd] at h3;simp [Root.own] at h3)
    have hl':X.A l':=(hA l').2 (zcW fun hd=>by rw [hμ,hd] at h4;simp [Root.own] at h4)
    have:=hm.apart l l' b hl hl' h3 h4
    subst this
    exact (ziL hk).1 l r r' q1 p1
   ·rw [p] at h4;simp [Root.own] at h4
  ·rw [q] at h3;simp [Root.own] at h3
 once:=fun r _=>by
  rcases zdY (X:=X) (base:=base) (n:=n) (m:=m) (rh:=rh) r with ⟨l,q1,q2,q3,q4⟩|q
  ·rw [q3,q4,Root.ren_own,← hμ]
   by_cases hd:zac m l=.dead
   ·rw [hμ,hd];simp [Root.own]
   ·exact hm.once l ((hA l).2 (zcW hd))
  ·rw [q];simp [Root.own]
 low:=fun r b _ h2=>by
  rcases zdY (X:=X) (base:=base) (n:=n) (m:=m) (rh:=rh) r with ⟨l,q1,q2,q3,q4⟩|q
  ·rw [q3,q4,Root.ren_own,← hμ] at h2
   exact hm.low l b ((hA l).2 (zcW fun hd=>by rw [hμ,hd] at h2;simp [Root.own] at h2)) h2
  ·rw [q] at h2;simp [Root.own] at h2
 frame:=hm.frame
theorem zuZ {Xe:Ctx}(hk:rhOk base n rh=true) (hμ:X.μ=zac m) (hA:∀ r,X.A r↔r<m.length) (hbn:base≤n) (hXe:∀ r,Xe.A r→r<base) (x:Ext Xe X):Ext Xe (X.ren base n m rh):=by
 have K:=zrz (X:=X) hk hμ hA
 have low:∀ r,Xe.A r→((X.ren base n m rh).μ r=(X.μ r).ren base m rh r∧(X.ren base n m rh).β r=X.β r)∨((X.ren base n m rh).μ r=.dead∧(X.ren base n m rh).β r=X.β r):=fun r hr=>by
  have hb:=hXe r hr
  cases hl:zbI rh r with
  | none =>
   refine .inr ⟨?_,by simp only [Ctx.ren,hl]⟩
   show zac (zdS base rh m n 0) r=_
   rw [zdn (zc4 n 0 r (by omega))]
   simp only [Nat.zero_add,hl]
  | some l =>
   have hm:=ze9 hl
   have:l=r:=by
    rcases ((ziL hk).2.2 l r hm).1 with h|h
    ·exact h
    ·omega
   subst this
   refine .inl ⟨?_,by simp only [Ctx.ren,hl]⟩
   show zac (zdS base rh m n 0) l=_
   rw [zdn (zc4 n 0 l (by omega)),hμ]
   simp only [Nat.zero_add,hl]
 have gk:∀ r g,Xe.A r→gen0 base r g=g:=fun r g hr=>by
  unfold gen0
  rw [if_pos (by rw [Nat.blt_eq];exact hXe r hr)]
 exact
  {E:=x.E
   K:=x.K.trans K
   F:=x.F
   A:=fun r hr=>Nat.lt_of_lt_of_le (hXe r hr) hbn
   β:=fun r hr=>by
    rcases low r hr with ⟨h1,h2⟩|⟨h1,h2⟩
    ·exact ⟨fun ht=>(x.β r hr).1 (by rw [h1,Root.ren_there] at ht;exact ht),by rw [h2];exact (x.β r hr).2⟩
    ·exact ⟨fun ht=>(by rw [h1] at ht;cases ht),by rw [h2];exact (x.β r hr).2⟩
   row:=fun r e a d hr ht h1 h2=>by
    rcases low r hr with ⟨q1,q2⟩|⟨q1,q2⟩
    ·rw [q1,Root.ren_there] at ht
     rw [q1,Root.ren_row]
     exact x.row r e a d hr ht h1 h2
    ·rw [q1] at ht;cases ht
   mat:=fun r e a' g hr h1=>by
    rcases low r hr with ⟨q1,q2⟩|⟨q1,q2⟩
    ·rw [q1] at h1
     obtain ⟨g',e1,e2⟩:=Root.ren_mat h1
     rw [gk r g' hr] at e2
     subst e2
     rw [q2]
     exact x.mat r e a' g hr e1
    ·rw [q1] at h1;cases h1
   gen:=fun r e a g e' a' g' hr h1 h2=>by
    rcases low r hr with ⟨q1,q2⟩|⟨q1,q2⟩
    ·rw [q1] at h2
     obtain ⟨g2,e1,e2⟩:=Root.ren_mat h2
     rw [gk r g2 hr] at e2
     subst e2
     exact x.gen r e a g e' a' g' hr h1 e1
    ·rw [q1] at h2;cases h2
   size:=fun r b k hr ht hb hk'=>by
    rcases low r hr with ⟨q1,q2⟩|⟨q1,q2⟩
    ·exact x.size r b k hr (by rw [q1,Root.ren_there] at ht;exact ht) hb hk'
    ·rw [q1] at ht;cases ht }
end
end Go.SX
namespace Go.SX
open Go.RowKit (Below)
def za2:List Bd→List D→Option (List D)
 | [],E=>some E
 | .prim p as::l,E=>match za2 l E with
  | none=>none
  | some E1=>match gets E1 as with
   | none=>none
   | some vs=>match p.run vs with
    | none=>none
    | some d=>some (E1++[d])
 | _::_,_=>none
section
variable {C:FuncId→List D→Option (List D)} {k:Nat}
theorem zcu:∀ {bs:List Bd}{t:Tree}{E:List D},zaV bs=true→ev C k (zgE bs t) E=match za2 bs E with|some E1=>ev C k t E1|none=>none
 | [],t,E,_=>rfl
 | .prim p as::l,t,E,h=>by
  simp only [zaV] at h
  simp only [zgE,Bd.on]
  rw [zcu h]
  simp only [za2]
  cases za2 l E with
  | none=>rfl
  | some E1 =>
   simp only [ev]
   cases gets E1 as with
   | none=>rfl
   | some vs =>
    simp only
    cases p.run vs with
    | none=>rfl
    | some d=>rfl
 | .call .. :: _,_,_,h=>by simp [zaV] at h
 | .sub .. :: _,_,_,h=>by simp [zaV] at h
theorem zgo:∀ {bs:List Bd}{E E1:List D},za2 bs E=some E1→∃ G,E1=E++G∧G.length=zjV bs∧Sat C k E1 bs E1.length
 | [],E,E1,h=>by
  simp only [za2,wB0] at h
  subst h
  exact ⟨[],by simp,rfl,trivial⟩
 | .prim p as::l,E,E1,h=>by
  simp only [za2] at h
  cases h1:za2 l E with
  | none=>simp [h1] at h
  | some E2 =>
   simp only [h1] at h
   cases h2:gets E2 as with
   | none=>simp [h2] at h
   | some vs =>
    simp only [h2] at h
    cases h3:p.run vs with
    | none=>simp [h3] at h
    | some d =>
     simp only [h3,wB0] at h
     subst h
     obtain ⟨G,g1,g2,g3⟩:=zgo h1
     refine ⟨G++[d],by rw [g1,List.append_assoc],by simp [zjV,Bd.outs,g2,Nat.add_comm],E2.length,by simp [Bd.outs],⟨vs,d,zfp h2,h3,by simp⟩,g3.app⟩
 | .call .. :: _,_,_,h=>by simp [za2] at h
 | .sub .. :: _,_,_,h=>by simp [za2] at h
end
theorem zhA {X:Ctx}:∀ {sl:List SV}{vs:List Value},vs.length=sl.length→(∀ t:Nat,VRep X ((sl[t]?).getD (.un 1)) ((vs[t]?).getD undef))→VRepL X sl vs
 | [],vs,hl,_=>by
  simp only [VRepL]
  exact List.eq_nil_of_length_eq_zero (by simpa using hl)
 | s::sl,[],hl,_=>by simp at hl
 | s::sl,v::vs,hl,h=>by
  simp only [VRepL]
  exact ⟨v,vs,rfl,h 0,zhA (by simpa using hl) fun t=>h (t + 1)⟩
theorem zqF {X:Ctx}:∀ {sl:List SV}{vs:List Value},VRepL X sl vs→∀ t:Nat,VRep X ((sl[t]?).getD (.un 1)) ((vs[t]?).getD undef)
 | [],vs,_,t=>by simp [VRep]
 | s::sl,vs,h,t=>by
  simp only [VRepL] at h
  obtain ⟨v,r,e,h1,h2⟩:=h
  subst e
  cases t with
  | zero=>exact h1
  | succ t=>exact zqF h2 t
theorem zsL {X:Ctx}:∀ {a b:List SV}{vs:List Value},zfk a b=true→VRepL X a vs→VRepL X b vs
 | [],[],_,_,h=>h
 | x::a,y::b,vs,hle,h=>by
  simp only [zfk,wD0] at hle
  simp only [VRepL] at h ⊢
  obtain ⟨v,r,e,h1,h2⟩:=h
  exact ⟨v,r,e,zo3 hle.1 h1,zsL hle.2 h2⟩
 | [],_::_,_,hle,_=>by simp [zfk] at hle
 | _::_,[],_,hle,_=>by simp [zfk] at hle
theorem znf:∀ {a b:List Root},zn4 a b=true→a.length=b.length∧∀ r,(zac a r).le (zac b r)=true
 | [],[],_=>⟨rfl,fun r=>by simp [zac,Root.le]⟩
 | x::a,y::b,h=>by
  simp only [zn4,wD0] at h
  obtain ⟨h1,h2⟩:=znf h.2
  refine ⟨by simp [h1],fun r=>?_⟩
  cases r with
  | zero=>exact h.1
  | succ r=>exact h2 r
 | [],_::_,h=>by simp [zn4] at h
 | _::_,[],h=>by simp [zn4] at h
theorem zry {n0:Nat}{sg:List At}(l:List Root) (r:Nat):zac (l.map (Root.inst n0 sg)) r=(zac l r).inst n0 sg:=by
 unfold zac
 rw [List.getElem?_map]
 cases l[r]?<;>rfl
theorem zgi (sg:List (Nat×At)):∀ (n j:Nat),(sgOf sg n j).length=n
 | 0,_=>rfl
 | n + 1,j=>by simp [sgOf,zgi sg n]
theorem zcj {E:List D}:∀ {as:List At}{vs:List D},gets E as=some vs→vs.length=as.length
 | [],vs,h=>by rw [ztt h];rfl
 | a::l,vs,h=>by
  obtain ⟨d,ds,_,h2,h3⟩:=zbx h
  subst h3
  simp [zcj h2]
theorem zqG {E:List D}:∀ {as:List At}{vs:List D}{j:Nat}{a:At},gets E as=some vs→as[j]?=some a→a.get E=vs[j]?
 | [],_,_,_,_,h=>by simp at h
 | b::l,vs,j,a,h,hj=>by
  obtain ⟨d,ds,h1,h2,h3⟩:=zbx h
  subst h3
  cases j with
  | zero=>simp at hj;subst hj;simpa using h1
  | succ j=>simpa using zqG h2 (by simpa using hj)
theorem zqM {B0:Nat}{w0:World}{Xe:Ctx}(hB0:B0≤w0.heap.size) {n0:Nat}{H L:St}{sg:List At}{bs:List Bd}(h:fit0 n0 H L=some (sg,bs)) (hok:H.okAt=true) (hn:n0≤H.nv) {E0 F:List D}(hE0:E0.length=n0) (hEl:(E0++F).length=L.nv)
  (hXe:∀ (i:Nat) (d:D),Xe.E[i]?=some d→E0[i]?=some d) (hXA:∀ r,Xe.A r→r<L.base) {E1:List D} (hev:za2 bs (E0++F)=some E1) {vs:List D} (hg:gets E1 sg=some vs) {a:Act} {w:World}
  (hinv:Inv B0 w0 Xe (E0++F) L.slots L.root (fun r=>r<L.mem.length) a w):vs.length=H.nv - n0∧H.base=L.base∧Inv B0 w0 Xe (E0++vs) H.slots H.root (fun r=>r<H.mem.length) a w:=by
 unfold fit0 at h
 generalize h1:coL H.mem H.slots L.slots ⟨L.mem,L.nv,[]⟩=p1 at h
 obtain ⟨s1,c1⟩:=p1
 simp only at h
 generalize hc2:zbw H (zjT n0 H s1 c1.m).rh c1=c2 at h
 generalize hc3:zbw H ((zjT n0 H s1 c2.m).rh.drop (zjT n0 H s1 c1.m).rh.length) c2=c3 at h
 generalize (zjT n0 H s1 c3.m).rh=rh at h
 generalize hsg:sgOf (zjT n0 H s1 c3.m).sg (H.nv - n0) 0=sg' at h
 split at h
 ·rename_i hc
  injection h with h
  injection h with e1 e2
  subst e1 e2
  simp only [wD0] at hc
  obtain ⟨⟨⟨⟨⟨⟨⟨k0,k1⟩,k2⟩,k3⟩,k4⟩,k5⟩,k6⟩,k7⟩:=hc
  have hsl:sg'.length=H.nv - n0:=by rw [← hsg];exact zgi _ _ _
  have hvl:vs.length=H.nv - n0:=by rw [zcj hg,hsl]
  have hb:=zad k4
  rw [Nat.ble_eq] at k5
  refine ⟨hvl,hb,?_⟩
  obtain ⟨X,x1,x2,x3,x4,x5,x6,x7,x8,x9,x10⟩:=hinv
  have hB:B0≤X.w.heap.size:=by rw [x2];exact Nat.le_trans hB0 x7.size
  obtain ⟨G,g1,g2,g3⟩:=zgo (C:=fun _ _=>none) (k:=0) hev
  have hnv:c3.nv=E1.length:=by rw [zad k3,g1,wI0,hEl,g2]
  rw [← hnv] at g3
  obtain ⟨y1,m1⟩:=x5.moreE hB (E':=E1) (fun i d hi=>by rw [x1] at hi;rw [g1];exact get_app hi)
  have c0:CoOk B0 (fun _ _=>none) 0 { X with E:=E1 } ⟨L.mem,L.nv,[]⟩:=⟨by show X.μ=_;rw [x3];rfl,x4,m1,hB⟩
  have hv0:VRepL { X with E:=E1 } L.slots a.tmps.toList:=VRepL.ext y1 (zhA (by simpa using x8) fun t=>by
   have:=x10 t
   rw [Array.getD_eq_getD_getElem?,← Array.getElem?_toList] at this
   exact this)
  have g3':Sat (fun _ _=>none) 0 ({ X with E:=E1 }:Ctx).E c3.bs c3.nv:=g3
  have s2:=zbh hc3 g3'
  have s1':=zbh hc2 s2
  obtain ⟨X1,t1,ok1,hv1⟩:=ze8 _ _ _ h1 c0 s1' hv0
  obtain ⟨X2,e2,f2,y2,ok2⟩:=zbr hc2 ok1 (by rw [t1.E];exact s2)
  obtain ⟨X3,e3,f3,y3,ok3⟩:=zbr hc3 ok2 (by rw [e2,t1.E];exact g3')
  have hv3:=VRepL.ext (y2.trans y3) hv1
  have hE3:X3.E=E1:=by rw [e3,e2,t1.E]
  have hw3:X3.w=w:=by rw [f3,f2,t1.w];exact x2
  have xe3:Ext Xe X3:=(((x6.trans y1).trans t1.ext).trans y2).trans y3
  have hv4:=zda (n:=H.mem.length) k1 ok3.μ ok3.A hv3
  have m4:=zuL k0 k1 ok3.μ ok3.A ok3.mem
  have xe4:=zuZ k1 ok3.μ ok3.A k5 hXA xe3
  obtain ⟨hlen,hle⟩:=znf k7
  obtain ⟨y5,m5⟩:=m4.weakenAll (X:=X3.ren L.base H.mem.length c3.m rh) (by show B0≤X3.w.heap.size;exact ok3.B) (μ':=zac (H.mem.map (Root.inst n0 sg'))) (N:=H.mem.length) (fun r hr=>hr) (fun r _=>.inr (hle r))
  have hv5:=zsL k6 (VRepL.ext y5 hv4)
  unfold St.okAt at hok
  simp only [wD0] at hok
  have tr:Tr H.nv n0 sg' { X3.ren L.base H.mem.length c3.m rh with μ:=zac (H.mem.map (Root.inst n0 sg')) } { X3.ren L.base H.mem.length c3.m rh with E:=E0++vs,μ:=H.root } :=
   {at_:=fun at_ ha=>by
     show (at_.inst n0 sg').get X3.E=at_.get (E0++vs)
     rw [hE3]
     cases at_ with
     | c d=>rfl
     | v i =>
      simp only [At.okAt,Nat.blt_eq] at ha
      simp only [At.inst]
      by_cases hi:n0≤i
      ·rw [if_pos (by rw [Nat.ble_eq];exact hi)]
       have hlt:i - n0<sg'.length:=by omega
       rw [wF0 hlt]
       simp only [Option.getD_some]
       rw [zqG hg (wF0 hlt)]
       simp only [At.get]
       rw [List.getElem?_append_right (by omega),hE0]
      ·rw [if_neg (by rw [Nat.ble_eq];exact hi)]
       simp only [At.get]
       rw [g1,List.append_assoc,List.getElem?_append_left (by omega),List.getElem?_append_left (by omega)]
    w:=rfl
    A:=fun _=>Iff.rfl
    β:=rfl
    F:=rfl
    μ:=fun r _=>zry _ _
    ok:=fun r _=>zbq hok.2 }
  have hv6:=tr.vrepL hok.1 hv5
  refine ⟨{ X3.ren L.base H.mem.length c3.m rh with E:=E0++vs,μ:=H.root },rfl,hw3,rfl,fun r=>Iff.rfl,tr.mem m5,tr.ext (xe4.trans y5) (fun i d hi=>get_app (hXe i d hi)),x7,?_,x9,fun t=>?_⟩
  ·have:=VRepL.length hv6
   simpa using this
  ·rw [Array.getD_eq_getD_getElem?,← Array.getElem?_toList]
   exact zqF hv6 t
 ·cases h
def znH:List SV→List Value→List Value
 | [],_=>[]
 | h::hs,ls=>match ls with
  | []=>[]
  | l::ls=>match h with
   | .un _=>znH hs ls
   | _=>l::znH hs ls
theorem zol:∀ {hs ls:List SV},zsH hs ls=true→ls.length=hs.length
 | [],ls,h=>by cases ls<;>simp_all [zsH]
 | _::hs,[],h=>by simp [zsH] at h
 | _::hs,_::ls,h=>by simpa using zol (hs:=hs) (ls:=ls) h
theorem zqn {X:Ctx}:∀ {hs ls:List SV}{vs:List Value},VRepL X ls vs→ls.length=hs.length→VRepL X (zmj hs ls) (znH hs vs)
 | [],ls,vs,h,hl=>by simp only [zmj,znH,VRepL]
 | h0::hs,[],vs,h,hl=>by simp at hl
 | h0::hs,l::ls,vs,h,hl=>by
  simp only [VRepL] at h
  obtain ⟨v,r,e,h1,h2⟩:=h
  subst e
  have ih:=zqn (hs:=hs) h2 (by simpa using hl)
  cases h0<;>simp only [zmj,znH]<;>first|exact ih|(simp only [VRepL];exact ⟨v,_,rfl,h1,ih⟩)
theorem zhD {X:Ctx}:∀ {hs:List SV}{vs:List Value},VRepL X (zkt hs) (znH hs vs)→vs.length=hs.length→VRepL X hs vs
 | [],vs,h,hl=>by
  have:vs=[]:=List.eq_nil_of_length_eq_zero hl
  subst this
  simp only [VRepL]
 | h0::hs,[],h,hl=>by simp at hl
 | h0::hs,v::vs,h,hl=>by
  have hl':vs.length=hs.length:=by simpa using hl
  simp only [VRepL]
  cases h0<;>simp only [zkt,znH,VRepL] at h<;>first
   | exact ⟨v,vs,rfl,by simp only [VRep],zhD h hl'⟩
   | (obtain ⟨v',r,e,h1,h2⟩:=h
      injection e with e1 e2
      subst e1 e2
      exact ⟨_,vs,rfl,h1,zhD h2 hl'⟩)
theorem ziN {B0:Nat}{w0:World}{Xe:Ctx}{E:List D}{sl:List SV}{μ:Nat→Root}{A:Nat→Prop}{a:Act}{w:World} :
  Inv B0 w0 Xe E sl μ A a w↔Marks B0 w0 w a.defers∧∃ X:Ctx,X.E=E∧X.w=w∧X.μ=μ∧(∀ r,X.A r↔A r)∧Mem B0 X∧Ext Xe X∧Below B0 w0 w∧VRepL X sl a.tmps.toList:=by
 constructor
 ·rintro ⟨X,x1,x2,x3,x4,x5,x6,x7,x8,x9,x10⟩
  exact ⟨x9,X,x1,x2,x3,x4,x5,x6,x7,zhA (by simpa using x8) fun t=>by
   have:=x10 t
   rw [Array.getD_eq_getD_getElem?,← Array.getElem?_toList] at this
   exact this⟩
 ·rintro ⟨x9,X,x1,x2,x3,x4,x5,x6,x7,hv⟩
  refine ⟨X,x1,x2,x3,x4,x5,x6,x7,by simpa using VRepL.length hv,x9,fun t=>?_⟩
  rw [Array.getD_eq_getD_getElem?,← Array.getElem?_toList]
  cases ht:sl[t]? with
  | none=>simp only [Option.getD_none,VRep]
  | some s =>
   obtain ⟨v,e,hv'⟩:=hv.get ht
   rw [e]
   exact hv'
theorem zrA {B0:Nat}{w0:World}{Xe:Ctx}(hB0:B0≤w0.heap.size) {n0:Nat}{H L:St}{sg:List At}{bs:List Bd}(h:fit n0 H L=some (sg,bs)) (hok:H.okAt=true) (hn:n0≤H.nv) {E0 F:List D}(hE0:E0.length=n0) (hEl:(E0++F).length=L.nv)
  (hXe:∀ (i:Nat) (d:D),Xe.E[i]?=some d→E0[i]?=some d) (hXA:∀ r,Xe.A r→r<L.base) {E1:List D} (hev:za2 bs (E0++F)=some E1) {vs:List D} (hg:gets E1 sg=some vs) {a:Act} {w:World}
  (hinv:Inv B0 w0 Xe (E0++F) L.slots L.root (fun r=>r<L.mem.length) a w):vs.length=H.nv - n0∧H.base=L.base∧Inv B0 w0 Xe (E0++vs) H.slots H.root (fun r=>r<H.mem.length) a w:=by
 unfold fit at h
 split at h
 ·rename_i hs
  have hlen:=zol hs
  obtain ⟨y9,X,x1,x2,x3,x4,x5,x6,x7,hv⟩:=ziN.1 hinv
  have hal:a.tmps.toList.length=H.slots.length:=by rw [VRepL.length hv,hlen]
  have hokA:∀ {n:Nat} {l:List SV},SV.okAtL n l=true→SV.okAtL n (zkt l)=true:=by
   intro n l
   induction l with
   | nil=>intro h;exact h
   | cons s l ih =>
    intro h
    simp only [SV.okAtL,wD0] at h
    have ih:=ih h.2
    cases s<;>simp only [zkt]<;>first|exact ih|(simp only [SV.okAtL,wD0];exact ⟨h.1,ih⟩)
  have hok':({ H with slots:=zkt H.slots }:St).okAt=true:=by
   unfold St.okAt at hok ⊢
   simp only [wD0] at hok ⊢
   exact ⟨hokA hok.1,hok.2⟩
  have hinv':Inv B0 w0 Xe (E0++F) (zmj H.slots L.slots) L.root (fun r=>r<L.mem.length) { a with tmps:=(znH H.slots a.tmps.toList).toArray } w :=
   ziN.2 ⟨y9,X,x1,x2,x3,x4,x5,x6,x7,by simpa using zqn hv hlen⟩
  obtain ⟨g1,g2,g3⟩:=zqM (H:={ H with slots:=zkt H.slots }) (L:={ L with slots:=zmj H.slots L.slots }) hB0 h hok' hn hE0 hEl hXe hXA hev hg hinv'
  refine ⟨g1,g2,?_⟩
  obtain ⟨_,Y,y1,y2,y3,y4,y5,y6,y7,hw⟩:=ziN.1 g3
  exact ziN.2 ⟨y9,Y,y1,y2,y3,y4,y5,y6,y7,zhD (by simpa using hw) hal⟩
 ·cases h
end Go.SX
