import Derived.Test.YtdfohlonacbelaaGreatQ5
set_option linter.unusedSimpArgs false
set_option linter.unusedVariables false
namespace Go.Proofs.YtdfohlonacbelaaGreat
open Go.SX
theorem zng {p:Proto}{n line:Int}(h:zgH p n line=true):zds p=true∧∃ a b:Nat,n=(a:Int)∧line=(b:Int)∧a<(Proto.Wait p).length∧b<(Proto.Home p).length:=by
 unfold zgH zav at h
 simp only [wD0,vG0] at h
 exact ⟨h.1,n.toNat,line.toNat,by omega,by omega,by omega,by omega⟩
theorem zyx {p:Proto}{a b:Nat}(h:zds p=true) (ha:a<(Proto.Wait p).length) (hb:b<(Proto.Home p).length):zgH p (a:Int) (b:Int)=true:=by
 unfold zgH zav
 simp only [wD0,vG0]
 exact ⟨h,⟨by omega,by omega⟩,by omega,by omega⟩
theorem zvv {p:Proto}(hs:zff p) (hr:zds p=true) {a b:Nat}(ha:a<(Proto.Wait p).length) (hb:b<(Proto.Home p).length) (w:Bool):∃ v,zgV p (a:Int) (b:Int) w=some v∧znV p (a:Int) (b:Int) w=some v:=by
 have R:=zcm hr
 have h1:a<(Proto.State p).length:=by rw [R.st];exact ha
 have h2:b<(Proto.State p)[a].length:=by rw [R.sr];exact hb
 unfold zgV znV
 simp only [zkp hs,zyx hr ha hb,zac h1,zac h2,zac ha,wC0,wH0,wA0,if_false]
 by_cases hl:Wait.Line (Proto.Wait p)[a]=w64 ((b:Int) + 1)
 ·simp only [hl,vE0,if_true]
  exact ⟨_,rfl,rfl⟩
 ·simp only [hl,vF0,if_false,wA0]
  cases w
  ·refine ⟨_,rfl,?_⟩
   generalize (Proto.State p)[a][b]=s
   by_cases s0:s=0
   ·subst s0;rfl
   ·by_cases s2:s=2
    ·subst s2;rfl
    ·by_cases s3:s=3
     ·subst s3;rfl
     ·simp [s0,s2,s3]
  ·refine ⟨_,rfl,?_⟩
   simp
theorem zyD {F:Prop}{p:Proto}(h:zAM F p):zaf (zdi (Proto.State p) (List.length (Proto.State p):Int)) ((0:Int),([]:List (List Int)))=some (Proto.State p):=znN (b:=8) (fun _=>rfl) (by omega) h.st.1 h.st.2
theorem zyw {F:Prop}{p:Proto}(h:zAM F p):zaf (zdo (Proto.Val p) (List.length (Proto.Val p):Int)) ((0:Int),([]:List (List Int)))=some (Proto.Val p):=znN (b:=4) (fun _=>rfl) (by omega) h.va.1 h.va.2
theorem zyK {F:Prop}{p:Proto}(h:zAM F p):zaf (zdu (Proto.Dir p) (List.length (Proto.Dir p):Int)) ((0:Int),([]:List Entry))=some (Proto.Dir p):=zxl (fun _=>rfl) h.di.1 h.di.2
theorem zyA {F:Prop}{p:Proto}(h:zAM F p):zaf (zdf (Pool.Frames (Proto.Pool p)) (List.length (Pool.Frames (Proto.Pool p)):Int)) ((0:Int),([]:List (List Int)))=some (Pool.Frames (Proto.Pool p)):=znN (b:=1) (fun _=>rfl) (by omega) h.po.1 (fun r hr=>(h.po.2 r hr).1)
theorem e4:zif=zdi:=rfl
theorem e3:zh6=zdo:=rfl
theorem e2:zid=zdu:=rfl
theorem e1:zh9=zdf:=rfl
theorem d5:zdB=zdi:=rfl
theorem d4:zdz=zdo:=rfl
theorem d3:zdD=zdu:=rfl
theorem d2:zdx=zdf:=rfl
theorem zqP {F:Prop}{p:Proto}(h:zAM F p):zaC 40 (Proto.Wait p)=some (Proto.Wait p):=zbx (by have:=h.wa;omega) (by omega)
theorem zrr {F:Prop}{p:Proto}(h:zAM F p):zaC 4 (Proto.Home p)=some (Proto.Home p):=zbx (by have:=h.ho;omega) (by omega)
theorem zrj {F:Prop}{p:Proto}(h:zAM F p):zaC 8 (Proto.Busy p)=some (Proto.Busy p):=zbx (by have:=h.bu;omega) (by omega)
theorem zoE {α:Type}(g:α→Nat) {l:List α}{n:Nat}{x:α}{k:Nat}(h:∀ i (hi:i<l.length),g l[i]=k) (hx:g x=k):∀ i (hi:i<(l.set n x).length),g (l.set n x)[i]=k:=fun i hi=>by
 rw [List.getElem_set]
 split
 ·exact hx
 ·exact h i (by rw [vQ0] at hi;exact hi)
theorem zf5 {α:Type}(P:α→Prop) {l:List α}{n:Nat}{x:α}(h:∀ i (hi:i<l.length),P l[i]) (hx:P x):∀ i (hi:i<(l.set n x).length),P (l.set n x)[i]:=fun i hi=>by
 rw [List.getElem_set]
 split
 ·exact hx
 ·exact h i (by rw [vQ0] at hi;exact hi)
theorem zzF {l:List Int}{ok:Int→Bool}(h:l.all ok=true) {x:Int}(hx:ok x=true) (n:Nat):(l.set n x).all ok=true:=by
 rw [List.all_eq_true] at h ⊢
 intro y hy
 rcases List.mem_or_eq_of_mem_set hy with q|q
 ·exact h y q
 ·rw [q];exact hx
theorem zd5 {F:Prop}{p:Proto}(h:zAM F p) {n:Nat}(hn:n<(Proto.State p).length) (l:Nat) (s:Int) (hF:F→stB s=true):zAM F (Proto.mk ((Proto.State p).set n ((Proto.State p)[n].set l s)) (Proto.Val p) (Proto.Wait p) (Proto.Home p) (Proto.Dir p) (Proto.Busy p) (Proto.Pool p)) :=
 {h with
  st:=⟨by show ((Proto.State p).set n _).length≤1000;rw [vQ0];exact h.st.1,fun r hr=>by
   rcases List.mem_or_eq_of_mem_set hr with q|q
   ·exact h.st.2 r q
   ·rw [q,vQ0];exact h.st.2 _ (List.getElem_mem hn)⟩
  rt:=fun f=>{ h.rt f with
   st:=by show ((Proto.State p).set n _).length=_;rw [vQ0];exact (h.rt f).st
   sr:=zoE List.length (h.rt f).sr (by rw [vQ0];exact (h.rt f).sr n hn)
   sb:=zf5 (fun r:List Int=>r.all stB=true) (h.rt f).sb (zzF ((h.rt f).sb n hn) (hF f) l) } }
theorem zw0 {F:Prop}{p:Proto}(h:zAM F p) {n:Nat}(hn:n<(Proto.Val p).length) (l:Nat) {s:Int}(hs:U32 s):zAM F (Proto.mk (Proto.State p) ((Proto.Val p).set n ((Proto.Val p)[n].set l s)) (Proto.Wait p) (Proto.Home p) (Proto.Dir p) (Proto.Busy p) (Proto.Pool p)) :=
 {h with
  va:=⟨by show ((Proto.Val p).set n _).length≤1000;rw [vQ0];exact h.va.1,fun r hr=>by
   rcases List.mem_or_eq_of_mem_set hr with q|q
   ·exact h.va.2 r q
   ·rw [q,vQ0];exact h.va.2 _ (List.getElem_mem hn)⟩
  vw:=fun r hr x hx=>by
   rcases List.mem_or_eq_of_mem_set hr with q|q
   ·exact h.vw r q x hx
   ·rw [q] at hx
    rcases List.mem_or_eq_of_mem_set hx with q2|q2
    ·exact h.vw _ (List.getElem_mem hn) x q2
    ·rw [q2];exact hs
  rt:=fun f=>{ h.rt f with
   va:=by show ((Proto.Val p).set n _).length=_;rw [vQ0];exact (h.rt f).va
   vr:=zoE List.length (h.rt f).vr (by rw [vQ0];exact (h.rt f).vr n hn) } }
theorem zfW {F:Prop}{p:Proto}(h:zAM F p) (n:Nat) {w:Wait}(hw:U32 (Wait.Val w)) (hF:F→zdC (Proto.Home p).length w=true):zAM F (Proto.mk (Proto.State p) (Proto.Val p) ((Proto.Wait p).set n w) (Proto.Home p) (Proto.Dir p) (Proto.Busy p) (Proto.Pool p)) :=
 have e:((Proto.Wait p).set n w).length=(Proto.Wait p).length:=vQ0
 {h with
  wa:=by show ((Proto.Wait p).set n _).length≤1000;rw [vQ0];exact h.wa
  ww:=fun r hr=>by
   rcases List.mem_or_eq_of_mem_set hr with q|q
   ·exact h.ww r q
   ·rw [q];exact hw
  rt:=fun f=>{ h.rt f with
   c1:=by show 1≤((Proto.Wait p).set n w).length;rw [e];exact (h.rt f).c1
   c4:=by show ((Proto.Wait p).set n w).length≤4;rw [e];exact (h.rt f).c4
   st:=(h.rt f).st.trans e.symm
   va:=(h.rt f).va.trans e.symm
   wt:=zf5 (fun x=>zdC (Proto.Home p).length x=true) (h.rt f).wt (hF f)
   dm:=fun i hi=>by show zAP (Proto.Dir p)[i] (((Proto.Wait p).set n w).length:Int)=true;rw [e];exact (h.rt f).dm i hi
   bb:=fun i hi=>by show 0≤(Proto.Busy p)[i]∧(Proto.Busy p)[i]≤(((Proto.Wait p).set n w).length:Int);rw [e];exact (h.rt f).bb i hi } }
theorem zyZ {F:Prop}{p:Proto}(h:zAM F p) (n:Nat) {w:Int}(hw:U32 w):zAM F (Proto.mk (Proto.State p) (Proto.Val p) (Proto.Wait p) ((Proto.Home p).set n w) (Proto.Dir p) (Proto.Busy p) (Proto.Pool p)) :=
 have e:((Proto.Home p).set n w).length=(Proto.Home p).length:=vQ0
 {h with
  ho:=by show ((Proto.Home p).set n _).length≤1000;rw [vQ0];exact h.ho
  hw:=fun r hr=>by
   rcases List.mem_or_eq_of_mem_set hr with q|q
   ·exact h.hw r q
   ·rw [q];exact hw
  rt:=fun f=>{ h.rt f with
   h1:=by show 1≤((Proto.Home p).set n w).length;rw [e];exact (h.rt f).h1
   h16:=by show ((Proto.Home p).set n w).length≤16;rw [e];exact (h.rt f).h16
   di:=(h.rt f).di.trans e.symm
   bu:=(h.rt f).bu.trans e.symm
   sr:=fun i hi=>((h.rt f).sr i hi).trans e.symm
   vr:=fun i hi=>((h.rt f).vr i hi).trans e.symm
   wt:=fun i hi=>by show zdC ((Proto.Home p).set n w).length (Proto.Wait p)[i]=true;rw [e];exact (h.rt f).wt i hi } }
theorem zwV {F:Prop}{p:Proto}(h:zAM F p) (n:Nat) {w:Entry}(hw:(Entry.Share w).length≤1000) (hF:F→zAP w ((Proto.Wait p).length:Int)=true):zAM F (Proto.mk (Proto.State p) (Proto.Val p) (Proto.Wait p) (Proto.Home p) ((Proto.Dir p).set n w) (Proto.Busy p) (Proto.Pool p)) :=
 {h with
  di:=⟨by show ((Proto.Dir p).set n _).length≤1000;rw [vQ0];exact h.di.1,fun r hr=>by
   rcases List.mem_or_eq_of_mem_set hr with q|q
   ·exact h.di.2 r q
   ·rw [q];exact hw⟩
  rt:=fun f=>{ h.rt f with
   di:=by show ((Proto.Dir p).set n _).length=_;rw [vQ0];exact (h.rt f).di
   dm:=zf5 (fun x=>zAP x ((Proto.Wait p).length:Int)=true) (h.rt f).dm (hF f) } }
theorem zu4 {F:Prop}{p:Proto}(h:zAM F p) (n:Nat) (w:Int) (hF:F→0≤w∧w≤((Proto.Wait p).length:Int)):zAM F (Proto.mk (Proto.State p) (Proto.Val p) (Proto.Wait p) (Proto.Home p) (Proto.Dir p) ((Proto.Busy p).set n w) (Proto.Pool p)) :=
 {h with
  bu:=by show ((Proto.Busy p).set n _).length≤1000;rw [vQ0];exact h.bu
  rt:=fun f=>{ h.rt f with
   bu:=by show ((Proto.Busy p).set n _).length=_;rw [vQ0];exact (h.rt f).bu
   bb:=zf5 (fun x=>0≤x∧x≤((Proto.Wait p).length:Int)) (h.rt f).bb (hF f) } }
theorem zbD {F:Prop}{p:Proto}(h:zAM F p) {q:Pool}(hq:GP F q):zAM F (Proto.mk (Proto.State p) (Proto.Val p) (Proto.Wait p) (Proto.Home p) (Proto.Dir p) (Proto.Busy p) q):={ h with po:=hq.1,rt:=fun f=>{ h.rt f with po:=hq.2 f } }
theorem zyl {F:Prop}{p:Proto}(h:zAM F p) (hs:zff p) (n line v:Int) (hv:U32 v):∃ q e,zka p n line v=some (q,e)∧zq4 p n line v=some (q,e)∧zAM F q:=by
 unfold zka zq4
 simp only [zyD h,zyw h,zyK h,zyA h,zqP h,zrr h,zrj h,zqp hs,zkp hs,wC0]
 cases ht:zgH p n line
 ·exact ⟨_,_,rfl,rfl,h⟩
 obtain ⟨hr,a,b,rfl,rfl,ha,hb⟩:=zng ht
 have R:=zcm hr
 obtain ⟨w,h1,h2⟩:=zvv hs hr ha hb true
 simp only [h1,h2,wC0,wH0,wA0,if_false]
 cases w
 ·exact ⟨_,_,rfl,rfl,h⟩
 have hst:a<(Proto.State p).length:=by rw [R.st];exact ha
 have hsl:b<(Proto.State p)[a].length:=by rw [R.sr];exact hb
 have hva:a<(Proto.Val p).length:=by rw [R.va];exact ha
 have hvl:b<(Proto.Val p)[a].length:=by rw [R.vr];exact hb
 have g1:=zw0 h hva b hv
 simp only [wH0,wA0,if_false,zzp h hva hvl,wC0]
 rw [zgf (p:=Proto.mk (Proto.State p) ((Proto.Val p).set a ((Proto.Val p)[a].set b v)) (Proto.Wait p) (Proto.Home p) (Proto.Dir p) (Proto.Busy p) (Proto.Pool p)) g1 (n:=a) (l:=b) hst hsl]
 refine ⟨_,_,?_,rfl,zd5 g1 hst b 3 (fun _=>rfl)⟩
 simp only [zaz hva,zaz hst,zaz hvl,zaz hsl,zac hva,zac hst,zaD hvl,zaD hsl,zaD hva,zaD hst,wC0]
 rfl
end Go.Proofs.YtdfohlonacbelaaGreat
