/- Part 6 of a checked symbolic executor: what a function's code does is read off as a tree over plain data. No condition. -/
import Derived.Test.YtlgjbfdojbmmgaaSx5
set_option linter.unusedSimpArgs false
set_option linter.unusedVariables false
set_option linter.unusedSimpArgs false
set_option linter.unusedVariables false
namespace Go.SX
def RE:List TV→List D→Prop
 | [],ED=>ED=[]
 | v::E,ED=>∃ d ED',ED=ED'++[d]∧Rl v.τ d v.x∧RE E ED'
theorem RE.push {E:List TV}{ED:List D}{v:TV}{d:D}(h:RE E ED) (hd:Rl v.τ d v.x):RE (v::E) (ED++[d]):=⟨d,ED,rfl,hd,h⟩
theorem RE.nth:∀ {E:List TV}{ED:List D}{i:Nat}{v:TV},RE E ED→i<ED.length→Go.SX.nth E (ED.length - 1 - i)=some v→∃ d,ED[i]?=some d∧Rl v.τ d v.x
 | [],ED,i,v,h,hi,_=>by
  have h:ED=[]:=h
  subst h
  simp at hi
 | w::E,ED,i,v,h,hi,hv=>by
  obtain ⟨d,ED',rfl,hd,hE⟩:=h
  simp only [wI0,List.length_cons,List.length_nil] at hi hv
  rcases Nat.lt_or_ge i ED'.length with hl|hg
  ·have e:ED'.length + (0 + 1) - 1 - i=(ED'.length - 1 - i) + 1:=by omega
   rw [e] at hv
   obtain ⟨d',h1,h2⟩:=RE.nth hE hl hv
   exact ⟨d',by rw [List.getElem?_append_left hl];exact h1,h2⟩
  ·have e:i=ED'.length:=by omega
   subst e
   have e:ED'.length + (0 + 1) - 1 - ED'.length=0:=by omega
   rw [e] at hv
   injection hv with hv
   subst hv
   exact ⟨d,by simp,hd⟩
theorem RE.pushT:∀ {τs:List Ty}{x:Ty.Tup τs}{ds:List D}{E:List TV}{ED:List D},RE E ED→RlL τs ds x→RE (pushT τs x E) (ED++ds)∧ds.length=τs.length
 | [],x,ds,E,ED,h,hd=>by
  have hd:ds=[]:=hd
  subst hd
  simpa [Go.SX.pushT] using h
 | [a],x,ds,E,ED,h,hd=>by
  obtain ⟨d,rfl,hd⟩:=hd
  exact ⟨h.push (v:=⟨a,x⟩) hd,rfl⟩
 | a::b::us,x,ds,E,ED,h,hd=>by
  obtain ⟨d,m,rfl,h1,h2⟩:=hd
  obtain ⟨g1,g2⟩:=RE.pushT (h.push (v:=⟨a,x.1⟩) h1) h2
  refine ⟨?_,by simp [g2]⟩
  have e:ED++d::m=ED++[d]++m:=by simp
  rw [e]
  exact g1
theorem zuf:∀ {τs:List Ty}{ds:List D}{x:Ty.Tup τs},RlL τs ds x→RV ds (tvs τs x)
 | [],ds,x,h=>by
  have h:ds=[]:=h
  subst h
  trivial
 | [a],ds,x,h=>by
  obtain ⟨d,rfl,hd⟩:=h
  exact ⟨hd,trivial⟩
 | a::b::us,ds,x,h=>by
  obtain ⟨d,m,rfl,h1,h2⟩:=h
  exact ⟨h1,zuf h2⟩
theorem RE.merge:∀ {τs:List Ty}{ds:List D}{vs E:List TV}{ED:List D},RE E ED→ds.length=τs.length→RV (zkx τs ds) vs→RE (zjj τs vs E) (ED++ds)
 | [],ds,vs,E,ED,h,hl,hv=>by
  have:ds=[]:=List.eq_nil_of_length_eq_zero hl
  subst this
  simpa [zjj] using h
 | t::ts,[],vs,E,ED,h,hl,hv=>by simp at hl
 | t::ts,d::ds,vs,E,ED,h,hl,hv=>by
  have e:ED++d::ds=ED++[d]++ds:=by simp
  rw [e]
  have hl2:ds.length=ts.length:=by simpa using hl
  clear hl
  have some:(∀ (v:TV) (us:List TV),vs=v::us→Rl v.τ d v.x→RV (zkx ts ds) us→RE (zjj ts us (v::E)) (ED++[d]++ds)):=fun v us _ h1 h2=>RE.merge (h.push h1) hl2 h2
  cases t with
  | no=>exact RE.merge (E:=⟨.no,()⟩::E) (h.push (v:=⟨.no,()⟩) (by simp only [Rl])) hl2 hv
  | int k=>cases vs with|nil=>exact hv.elim|cons v us=>exact some v us rfl hv.1 hv.2
  | bool=>cases vs with|nil=>exact hv.elim|cons v us=>exact some v us rfl hv.1 hv.2
  | str=>cases vs with|nil=>exact hv.elim|cons v us=>exact some v us rfl hv.1 hv.2
  | sl e=>cases vs with|nil=>exact hv.elim|cons v us=>exact some v us rfl hv.1 hv.2
  | arr n e=>cases vs with|nil=>exact hv.elim|cons v us=>exact some v us rfl hv.1 hv.2
  | st l=>cases vs with|nil=>exact hv.elim|cons v us=>exact some v us rfl hv.1 hv.2
theorem RE.pushL {τs:List Ty}{x:Ty.Tup (live τs)}{ds:List D}{E:List TV}{ED:List D}(h:RE E ED) (hl:ds.length=τs.length) (hd:RlL (live τs) (zkx τs ds) x):RE (Go.SX.pushL τs x E) (ED++ds):=RE.merge h hl (zuf hd)
theorem znu {ED:List D}:∀ {τs:List Ty}{as:List At}{ds:List D},gets ED as=some ds→gets ED (zkx τs as)=some (zkx τs ds)
 | [],as,ds,h=>rfl
 | t::ts,[],ds,h=>by
  simp only [gets,wB0] at h
  subst h
  rfl
 | t::ts,a::as,ds,h=>by
  simp only [gets] at h
  cases ha:a.get ED with
  | none=>rw [ha] at h;cases h
  | some d =>
   rw [ha] at h
   cases hg:gets ED as with
   | none=>rw [hg] at h;cases h
   | some ds' =>
    rw [hg] at h
    injection h with h
    subst h
    have ih:=znu (τs:=ts) hg
    cases t<;>simp only [zkx]<;>first|exact ih|(simp only [gets,ha,ih])
theorem ztv {ED:List D}{k:Nat}{τs:List Ty}{as:List At}{ds:List D}(h:gets ED as=some ds):gets ED (visA k τs as)=some (visA k τs ds):=by
 cases k with
 | zero=>exact h
 | succ k=>exact znu h
theorem zll {ED:List D}{n:Nat}(hn:n=ED.length):∀ {as:List At},as.all (zg1 n)=true→∃ ds,gets ED as=some ds∧ds.length=as.length
 | [],_=>⟨[],rfl,rfl⟩
 | a::as,h=>by
  simp only [List.all_cons,wD0] at h
  obtain ⟨ds,h1,h2⟩:=zll hn h.2
  have ha:∃ d,a.get ED=some d:=by
   cases a with
   | v i =>
    have hi:i<ED.length:=by have:=h.1;simp only [zg1,Nat.blt_eq] at this;omega
    exact ⟨ED[i],by simp [At.get,hi]⟩
   | c d=>exact ⟨d,rfl⟩
  obtain ⟨d,hd⟩:=ha
  exact ⟨d::ds,by simp only [gets,hd,h1],by simp [h2]⟩
section
variable {E:List TV} {ED:List D} {n:Nat} {h:Ty}
theorem zuq {a:At}{v:TV}(hE:RE E ED) (hn:n=ED.length) (hv:atV E n h a=some v):∃ d,a.get ED=some d∧Rl v.τ d v.x:=by
 subst hn
 cases a with
 | v i =>
  simp only [atV] at hv
  split at hv
  ·rename_i hi
   exact hE.nth (by simpa using hi) hv
  ·cases hv
 | c d =>
  refine ⟨d,rfl,?_⟩
  simp only [atV] at hv
  split at hv
  ·injection hv with hv;subst hv;exact rfl
  ·injection hv with hv;subst hv;exact rfl
  ·injection hv with hv;subst hv;exact ⟨_,rfl,rfl⟩
  ·split at hv
   ·rename_i hf
    injection hv with hv;subst hv;exact zl8 hf
   ·cases hv
theorem zqi {a:At}{τ:Ty}{x:τ.T}(hE:RE E ED) (hn:n=ED.length) (hv:atT E n τ a=some x):∃ d,a.get ED=some d∧Rl τ d x:=by
 subst hn
 cases a with
 | v i =>
  simp only [atT] at hv
  split at hv
  ·rename_i hi
   split at hv
   ·rename_i v hv'
    obtain ⟨d,h1,h2⟩:=hE.nth (by simpa using hi) hv'
    exact ⟨d,h1,zfI hv h2⟩
   ·cases hv
  ·cases hv
 | c d =>
  refine ⟨d,rfl,?_⟩
  simp only [atT] at hv
  split at hv
  ·rename_i hf
   injection hv with hv;subst hv;exact zl8 hf
  ·cases hv
theorem zj7 (hE:RE E ED) (hn:n=ED.length):∀ {as:List At}{vs:List TV},atsV E n h as=some vs→∃ ds,gets ED as=some ds∧RV ds vs
 | [],vs,hv=>by
  simp only [atsV] at hv
  injection hv with hv;subst hv
  exact ⟨[],rfl,trivial⟩
 | a::as,vs,hv=>by
  simp only [atsV] at hv
  split at hv
  ·cases hv
  ·rename_i v hv1
   split at hv
   ·cases hv
   ·rename_i vs' hv2
    injection hv with hv;subst hv
    obtain ⟨d,h1,h2⟩:=zuq hE hn hv1
    obtain ⟨ds,h3,h4⟩:=zj7 hE hn hv2
    exact ⟨d::ds,by simp only [gets,h1,h3],h2,h4⟩
theorem ze6 (hE:RE E ED) (hn:n=ED.length):∀ {τs:List Ty}{as:List At}{x:Ty.Tup τs},atsT E n τs as=some x→∃ ds,gets ED as=some ds∧RlL τs ds x
 | [],[],x,hv=>⟨[],rfl,rfl⟩
 | [],_::_,x,hv=>by simp [atsT] at hv
 | [_],[],x,hv=>by simp [atsT] at hv
 | _::_::_,[],x,hv=>by simp [atsT] at hv
 | [τ],[a],x,hv=>by
  simp only [atsT] at hv
  obtain ⟨d,h1,h2⟩:=zqi hE hn hv
  exact ⟨[d],by simp only [gets,h1],d,rfl,h2⟩
 | [τ],a::b::as,x,hv=>by simp [atsT] at hv
 | τ::b::us,a::as,x,hv=>by
  rw [atsT] at hv
  split at hv
  ·cases hv
  ·rename_i y hy
   split at hv
   ·cases hv
   ·rename_i ys hys
    injection hv with hv;subst hv
    obtain ⟨d,h1,h2⟩:=zqi hE hn hy
    obtain ⟨ds,h3,h4⟩:=ze6 hE hn hys
    exact ⟨d::ds,by simp only [gets,h1,h3],d,ds,rfl,h2,h4⟩
theorem zka {τ:Ty}(hE:RE E ED) (hn:n=ED.length):∀ {as:List At}{x:List τ.T},atsE E n τ as=some x→∃ ds,gets ED as=some ds∧All2 (Rl τ) ds x
 | [],x,hv=>by
  simp only [atsE] at hv
  injection hv with hv;subst hv
  exact ⟨[],rfl,trivial⟩
 | a::as,x,hv=>by
  simp only [atsE] at hv
  split at hv
  ·cases hv
  ·rename_i y hy
   split at hv
   ·cases hv
   ·rename_i ys hys
    injection hv with hv;subst hv
    obtain ⟨d,h1,h2⟩:=zqi hE hn hy
    obtain ⟨ds,h3,h4⟩:=zka hE hn hys
    exact ⟨d::ds,by simp only [gets,h1,h3],h2,h4⟩
theorem zor {a:At}{b:Bool}(hE:RE E ED) (hn:n=ED.length) (hv:asBool (atV E n h a)=some b):a.get ED=some (.bool b):=by
 cases ha:atV E n h a with
 | none=>rw [ha] at hv;cases hv
 | some v =>
  rw [ha] at hv
  obtain ⟨d,h1,h2⟩:=zuq hE hn ha
  obtain ⟨τ,x⟩:=v
  cases τ with
  | bool =>
   simp only [asBool] at hv
   injection hv with hv
   subst hv
   have h2:d=.bool x:=h2
   rw [h1,h2]
  | _=>cases hv
end
theorem zqw:∀ {τs:List Ty}{c:Bool}{x y:Ty.Tup τs},ztx τs c x y=if c=true then x else y
 | [],c,x,y=>by cases c<;>exact (rfl:(():Unit)=())
 | [a],c,x,y=>by cases c<;>rfl
 | a::b::us,c,x,y=>by
  rw [ztx,zqw]
  cases c<;>rfl
def RlV (k:Nat) (τs:List Ty) (ds:List D) (x:Ty.Tup (vis k τs)):Prop:=ds.length=τs.length∧RlL (vis k τs) (visA k τs ds) x
def RJ:(lv:List (Nat×List Ty))→Res→J lv→Prop
 | [],_,_=>False
 | (k,τs)::l,r,j=>match l,j with
  | [],j=>∃ vs,r=.jmp 0 (zjP k) vs∧RlV k τs vs j
  | q::us,.inl x=>∃ vs,r=.jmp 0 (zjP k) vs∧RlV k τs vs x
  | q::us,.inr j=>∃ l' b' vs,r=.jmp (l' + 1) b' vs∧RJ (q::us) (.jmp l' b' vs) j
theorem zs7 {E:List TV}{ED:List D}{n k:Nat}{as:List At}{τs:List Ty}{x:Ty.Tup (vis k τs)}(hE:RE E ED) (hn:n=ED.length) (h:atsT E n (vis k τs) (visA k τs as)=some x) (hl:as.length=τs.length) (hs:as.all (zg1 n)=true) :
  ∃ vs,gets ED as=some vs∧RlV k τs vs x:=by
 obtain ⟨ds,h1,h2⟩:=ze6 hE hn h
 obtain ⟨vs,h3,h4⟩:=zll hn hs
 have:=ztv (k:=k) (τs:=τs) h3
 rw [h1] at this
 injection this with this
 subst this
 exact ⟨vs,h3,h4.trans hl,h2⟩
theorem zsj {E:List TV}{ED:List D}{n:Nat}{as:List At}{b:Bool}(hE:RE E ED) (hn:n=ED.length):∀ {lv:List (Nat×List Ty)}{lvl:Nat}{j:J lv},jmpJ E n as b lv lvl=some j→∃ vs,gets ED as=some vs∧RJ lv (.jmp lvl b vs) j
 | [],lvl,j,h=>by simp [jmpJ] at h
 | [(k,τs)],lvl,j,h=>by
  cases lvl with
  | zero =>
   have h':(if zjP k=b∧as.length=τs.length∧as.all (zg1 n)=true then atsT E n (vis k τs) (visA k τs as) else none)=some j:=h
   by_cases hk:zjP k=b∧as.length=τs.length∧as.all (zg1 n)=true
   ·rw [if_pos hk] at h'
    obtain ⟨ds,h1,h2⟩:=zs7 hE hn h' hk.2.1 hk.2.2
    exact ⟨ds,h1,ds,by rw [hk.1],h2⟩
   ·rw [if_neg hk] at h'
    cases h'
  | succ l=>simp [jmpJ] at h
 | (k,τs)::q::us,lvl,j,h=>by
  cases lvl with
  | zero =>
   rw [jmpJ] at h
   by_cases hk:zjP k=b∧as.length=τs.length∧as.all (zg1 n)=true
   ·rw [if_pos hk] at h
    split at h
    ·rename_i x hx
     injection h with h;subst h
     obtain ⟨ds,h1,h2⟩:=zs7 hE hn hx hk.2.1 hk.2.2
     exact ⟨ds,h1,ds,by rw [hk.1],h2⟩
    ·cases h
   ·rw [if_neg hk] at h
    cases h
  | succ l =>
   rw [jmpJ] at h
   split at h
   ·rename_i j' hj'
    injection h with h;subst h
    obtain ⟨ds,h1,h2⟩:=zsj hE hn hj'
    exact ⟨ds,h1,l,b,ds,rfl,h2⟩
   ·cases h
theorem zhF {S R:Type}{f:S→Option (Sum S R)}:∀ {n m:Nat}{s:S}{r:R},n≤m→zj6 f n s=some r→zj6 f m s=some r
 | 0,_,_,_,_,h=>by cases h
 | n + 1,0,_,_,h,_=>by omega
 | n + 1,m + 1,s,r,hm,h=>by
  simp only [zj6] at h ⊢
  split at h
  ·cases h
  ·exact zhF (by omega) h
  ·exact h
theorem zfn {S R:Type}{f:S→Option (Sum S R)}{s:S}{r:R}:zaA f s=some r↔∃ n,zj6 f n s=some r:=by
 unfold zaA
 split
 ·rename_i h
  have hc:=Classical.choose_spec h
  constructor
  ·intro e;injection e with e;subst e;exact hc
  ·rintro ⟨n,hn⟩
   obtain ⟨m,hm⟩:=hc
   have h1:=zhF (Nat.le_max_left n m) hn
   have h2:=zhF (Nat.le_max_right n m) hm
   rw [h1] at h2
   exact h2.symm
 ·rename_i h
  constructor
  ·intro e;cases e
  ·intro e;exact absurd ⟨r,e⟩ h
theorem zqc {S R:Type}(f:S→Option (Sum S R)) (s:S):zaA f s=match f s with
  | none=>none
  | some (.inl s')=>zaA f s'
  | some (.inr r)=>some r:=by
 apply Option.ext
 intro r
 rw [zfn]
 constructor
 ·rintro ⟨n,hn⟩
  cases n with
  | zero=>cases hn
  | succ n =>
   simp only [zj6] at hn
   cases hs:f s with
   | none=>rw [hs] at hn;cases hn
   | some q =>
    rw [hs] at hn
    cases q with
    | inl s'=>exact zfn.2 ⟨n,hn⟩
    | inr r'=>exact hn
 ·intro h
  split at h
  ·cases h
  ·rename_i s' hs
   obtain ⟨n,hn⟩:=zfn.1 h
   exact ⟨n + 1,by simp only [zj6,hs];exact hn⟩
  ·rename_i r' hs
   exact ⟨1,by simp only [zj6,hs];exact h⟩
section
variable (cx:Cx) (n:Nat) (C0:FuncId→List D→Option (List D))
def FnOk (f:FuncId) (fn:FnT):Prop:=∀ ds (x:Ty.Tup fn.ps) r,RlL fn.ps ds x→fn.sem x=some r→∃ rs,zrq cx n C0 f ds=some rs∧RlL fn.rs rs r
def TA.Ok:TA→Prop
 | .prim _ _ k=>k.Ok
 | .primH _ _ _ k=>k.Ok
 | .mkS _ _ k=>k.Ok
 | .mkA _ _ _ k=>k.Ok
 | .mkL _ _ k=>k.Ok
 | .call f fn _ _ k=>FnOk cx n C0 f fn∧k.Ok
 | .callp f fn _ _ k=>FnOk cx n C0 f fn.fn∧k.Ok
 | .subp _ t _ k=>t.Ok∧k.Ok
 | .sub0 _ t _ k=>t.Ok∧k.Ok
 | .sub1 _ t _ k=>t.Ok∧k.Ok
 | .loop _ _ b=>b.Ok
 | .ite _ t e=>t.Ok∧e.Ok
 | .jmp ..=>True
 | .clone _ _ _ _ k=>k.Ok
 | .fail _=>True
variable {cx n C0}
theorem zbK {p:Prim}{as:List At}{t:Tree}{E ds:List D}{d:D}(h1:gets E as=some ds) (h2:p.run ds=some d):evL cx n C0 (.prim p as t) E=evL cx n C0 t (E++[d]):=by
 rw [ztG,h1];simp only [h2]
theorem zo7 {f:FuncId}{as:List At}{m:Nat}{t:Tree}{E ds rs:List D}(h1:gets E as=some ds) (h2:zrq cx n C0 f ds=some rs) (hm:rs.length=m):evL cx n C0 (.call f as m t) E=evL cx n C0 t (E++rs):=by
 rw [ztA,h1];simp only [h2,if_pos hm]
theorem znE {t k:Tree}{m:Nat}{E vs:List D}{b:Bool}(h1:evL cx n C0 t E=some (.jmp 0 b vs)) (hm:vs.length=m):evL cx n C0 (.sub t m k) E=evL cx n C0 k (E++vs):=by
 rw [zrQ,h1];simp only [if_pos hm]
theorem zvo {t k:Tree}{m l:Nat}{E vs:List D}{b:Bool}(h1:evL cx n C0 t E=some (.jmp (l + 1) b vs)):evL cx n C0 (.sub t m k) E=some (.jmp l b vs):=by
 rw [zrQ,h1];rfl
theorem zcJ:∀ {t:TA}{E:List TV}{ED:List D}{m:Nat}{τs:List Ty}{x:Ty.Tup τs},t.Ok cx n C0→RE E ED→m=ED.length→t.pden E m τs=some x→∃ vs,evL cx n C0 t.erase ED=some (.jmp 0 false vs)∧RlL τs vs x
 | .prim p as k,E,ED,m,τs,x,ok,hE,hm,h=>by
  simp only [TA.pden] at h
  split at h
  ·cases h
  ·rename_i vs hvs
   obtain ⟨ds,h1,h2⟩:=zj7 hE hm hvs
   split at h
   ·rename_i v hv
    obtain ⟨d,h3,h4⟩:=zrd h2 hv
    obtain ⟨ws,h5,h6⟩:=zcJ (t:=k) ok (hE.push h4) (by simp [hm]) h
    exact ⟨ws,by rw [TA.erase,zbK h1 h3,h5],h6⟩
   ·cases h
 | .primH p hh as k,E,ED,m,τs,x,ok,hE,hm,h=>by
  simp only [TA.pden] at h
  split at h
  ·cases h
  ·rename_i vs hvs
   obtain ⟨ds,h1,h2⟩:=zj7 hE hm hvs
   split at h
   ·rename_i v hv
    obtain ⟨d,h3,h4⟩:=zrd h2 hv
    obtain ⟨ws,h5,h6⟩:=zcJ (t:=k) ok (hE.push h4) (by simp [hm]) h
    exact ⟨ws,by rw [TA.erase,zbK h1 h3,h5],h6⟩
   ·cases h
 | .mkS ts as k,E,ED,m,τs,x,ok,hE,hm,h=>by
  simp only [TA.pden] at h
  split at h
  ·cases h
  ·rename_i y hy
   obtain ⟨ds,h1,h2⟩:=ze6 hE hm hy
   obtain ⟨ws,h5,h6⟩:=zcJ (t:=k) ok (hE.push (v:=⟨.st ts,y⟩) (d:=D.agg ds) ⟨_,rfl,h2⟩) (by simp [hm]) h
   exact ⟨ws,by rw [TA.erase,zbK h1 (d:=D.agg ds) rfl,h5],h6⟩
 | .mkA c e as k,E,ED,m,τs,x,ok,hE,hm,h=>by
  simp only [TA.pden] at h
  split at h
  ·cases h
  ·rename_i y hy
   obtain ⟨ds,h1,h2⟩:=zka hE hm hy
   obtain ⟨ws,h5,h6⟩:=zcJ (t:=k) ok (hE.push (v:=⟨.arr c e,y⟩) (d:=D.agg ds) ⟨_,rfl,h2⟩) (by simp [hm]) h
   exact ⟨ws,by rw [TA.erase,zbK h1 (d:=D.agg ds) rfl,h5],h6⟩
 | .mkL e as k,E,ED,m,τs,x,ok,hE,hm,h=>by
  simp only [TA.pden] at h
  split at h
  ·cases h
  ·rename_i y hy
   obtain ⟨ds,h1,h2⟩:=zka hE hm hy
   obtain ⟨ws,h5,h6⟩:=zcJ (t:=k) ok (hE.push (v:=⟨.sl e,y⟩) (d:=D.sl ds) ⟨_,rfl,h2⟩) (by simp [hm]) h
   exact ⟨ws,by rw [TA.erase,zbK h1 (d:=D.sl ds) rfl,h5],h6⟩
 | .callp f fn as mm k,E,ED,m,τs,x,ok,hE,hm,h=>by
  simp only [TA.pden] at h
  split at h
  ·cases h
  ·rename_i y hy
   obtain ⟨ds,h1,h2⟩:=ze6 hE hm hy
   split at h
   ·rename_i hl
    obtain ⟨rs,h3,h4⟩:=ok.1 ds y _ h2 rfl
    obtain ⟨g1,g2⟩:=hE.pushT h4
    have hrm:rs.length=mm:=g2.trans hl
    obtain ⟨ws,h5,h6⟩:=zcJ (t:=k) ok.2 g1 (by simp [hm,hrm]) h
    exact ⟨ws,by rw [TA.erase,zo7 h1 h3 hrm,h5],h6⟩
   ·cases h
 | .subp σs t mm k,E,ED,m,τs,x,ok,hE,hm,h=>by
  simp only [TA.pden] at h
  split at h
  ·cases h
  ·rename_i y hy
   obtain ⟨rs,h3,h4⟩:=zcJ (t:=t) ok.1 hE hm hy
   split at h
   ·rename_i hl
    obtain ⟨g1,g2⟩:=hE.pushT h4
    have hrm:rs.length=mm:=g2.trans hl
    obtain ⟨ws,h5,h6⟩:=zcJ (t:=k) ok.2 g1 (by simp [hm,hrm]) h
    exact ⟨ws,by rw [TA.erase,znE h3 hrm,h5],h6⟩
   ·cases h
 | .ite c t e,E,ED,m,τs,x,ok,hE,hm,h=>by
  simp only [TA.pden] at h
  split at h
  ·cases h
  ·rename_i b hb
   have hb:=zor hE hm hb
   split at h
   ·cases h
   ·rename_i y hy
    split at h
    ·cases h
    ·rename_i z hz
     injection h with h
     rw [zqw] at h
     obtain ⟨ws,h5,h6⟩:=zcJ (t:=t) ok.1 hE hm hy
     obtain ⟨us,h7,h8⟩:=zcJ (t:=e) ok.2 hE hm hz
     rw [TA.erase,zmC,hb]
     cases b
     ·exact ⟨us,h7,by rw [← h];exact h8⟩
     ·exact ⟨ws,h5,by rw [← h];exact h6⟩
 | .jmp l b as,E,ED,m,τs,x,ok,hE,hm,h=>by
  simp only [TA.pden] at h
  split at h
  ·obtain ⟨ds,h1,h2⟩:=ze6 hE hm h
   exact ⟨ds,by rw [TA.erase,zl1,h1],h2⟩
  ·cases h
 | .call ..,E,ED,m,τs,x,ok,hE,hm,h=>by simp [TA.pden] at h
 | .sub0 ..,E,ED,m,τs,x,ok,hE,hm,h=>by simp [TA.pden] at h
 | .sub1 ..,E,ED,m,τs,x,ok,hE,hm,h=>by simp [TA.pden] at h
 | .loop ..,E,ED,m,τs,x,ok,hE,hm,h=>by simp [TA.pden] at h
 | .clone ..,E,ED,m,τs,x,ok,hE,hm,h=>by simp [TA.pden] at h
 | .fail _,E,ED,m,τs,x,ok,hE,hm,h=>by simp [TA.pden] at h
theorem RJ.up {σs:List Ty}{q:Nat×List Ty}{us:List (Nat×List Ty)}{r:Res}{j:J (q::us)}{b:Nat}(h:RJ ((b,σs)::q::us) r (Sum.inr j)):∃ l' b' vs,r=.jmp (l' + 1) b' vs∧RJ (q::us) (.jmp l' b' vs) j:=h
theorem zbR:∀ {t:TA}{E:List TV}{ED:List D}{m:Nat}{lv:List (Nat×List Ty)}{j:J lv},t.Ok cx n C0→RE E ED→m=ED.length→t.den E m lv=some j→∃ r,evL cx n C0 t.erase ED=some r∧RJ lv r j
 | .prim p as k,E,ED,m,lv,j,ok,hE,hm,h=>by
  simp only [TA.den] at h
  split at h
  ·cases h
  ·rename_i vs hvs
   obtain ⟨ds,h1,h2⟩:=zj7 hE hm hvs
   split at h
   ·rename_i v hv
    obtain ⟨d,h3,h4⟩:=zrd h2 hv
    rw [TA.erase,zbK h1 h3]
    exact zbR (t:=k) ok (hE.push h4) (by simp [hm]) h
   ·rename_i τ o hv
    cases ho:o with
    | none=>rw [ho] at h;cases h
    | some x =>
     rw [ho] at h
     obtain ⟨d,h3,h4⟩:=zrd h2 hv x ho
     rw [TA.erase,zbK h1 h3]
     exact zbR (t:=k) ok (hE.push (v:=⟨τ,x⟩) h4) (by simp [hm]) h
   ·cases h
 | .primH p hh as k,E,ED,m,lv,j,ok,hE,hm,h=>by
  simp only [TA.den] at h
  split at h
  ·cases h
  ·rename_i vs hvs
   obtain ⟨ds,h1,h2⟩:=zj7 hE hm hvs
   split at h
   ·rename_i v hv
    obtain ⟨d,h3,h4⟩:=zrd h2 hv
    rw [TA.erase,zbK h1 h3]
    exact zbR (t:=k) ok (hE.push h4) (by simp [hm]) h
   ·rename_i τ o hv
    cases ho:o with
    | none=>rw [ho] at h;cases h
    | some x =>
     rw [ho] at h
     obtain ⟨d,h3,h4⟩:=zrd h2 hv x ho
     rw [TA.erase,zbK h1 h3]
     exact zbR (t:=k) ok (hE.push (v:=⟨τ,x⟩) h4) (by simp [hm]) h
   ·cases h
 | .mkS ts as k,E,ED,m,lv,j,ok,hE,hm,h=>by
  simp only [TA.den] at h
  split at h
  ·cases h
  ·rename_i y hy
   obtain ⟨ds,h1,h2⟩:=ze6 hE hm hy
   rw [TA.erase,zbK h1 (d:=D.agg ds) rfl]
   exact zbR (t:=k) ok (hE.push (v:=⟨.st ts,y⟩) (d:=D.agg ds) ⟨_,rfl,h2⟩) (by simp [hm]) h
 | .mkA c e as k,E,ED,m,lv,j,ok,hE,hm,h=>by
  simp only [TA.den] at h
  split at h
  ·cases h
  ·rename_i y hy
   obtain ⟨ds,h1,h2⟩:=zka hE hm hy
   rw [TA.erase,zbK h1 (d:=D.agg ds) rfl]
   exact zbR (t:=k) ok (hE.push (v:=⟨.arr c e,y⟩) (d:=D.agg ds) ⟨_,rfl,h2⟩) (by simp [hm]) h
 | .mkL e as k,E,ED,m,lv,j,ok,hE,hm,h=>by
  simp only [TA.den] at h
  split at h
  ·cases h
  ·rename_i y hy
   obtain ⟨ds,h1,h2⟩:=zka hE hm hy
   rw [TA.erase,zbK h1 (d:=D.sl ds) rfl]
   exact zbR (t:=k) ok (hE.push (v:=⟨.sl e,y⟩) (d:=D.sl ds) ⟨_,rfl,h2⟩) (by simp [hm]) h
 | .call f fn as mm k,E,ED,m,lv,j,ok,hE,hm,h=>by
  simp only [TA.den] at h
  split at h
  ·cases h
  ·rename_i y hy
   obtain ⟨ds,h1,h2⟩:=ze6 hE hm hy
   split at h
   ·rename_i hl
    cases hs:fn.sem y with
    | none=>rw [hs] at h;cases h
    | some z =>
     rw [hs] at h
     obtain ⟨rs,h3,h4⟩:=ok.1 ds y _ h2 hs
     obtain ⟨g1,g2⟩:=hE.pushT h4
     have hrm:rs.length=mm:=g2.trans hl
     rw [TA.erase,zo7 h1 h3 hrm]
     exact zbR (t:=k) ok.2 g1 (by simp [hm,hrm]) h
   ·cases h
 | .callp f fn as mm k,E,ED,m,lv,j,ok,hE,hm,h=>by
  simp only [TA.den] at h
  split at h
  ·cases h
  ·rename_i y hy
   obtain ⟨ds,h1,h2⟩:=ze6 hE hm hy
   split at h
   ·rename_i hl
    obtain ⟨rs,h3,h4⟩:=ok.1 ds y _ h2 rfl
    obtain ⟨g1,g2⟩:=hE.pushT h4
    have hrm:rs.length=mm:=g2.trans hl
    rw [TA.erase,zo7 h1 h3 hrm]
    exact zbR (t:=k) ok.2 g1 (by simp [hm,hrm]) h
   ·cases h
 | .subp σs t mm k,E,ED,m,lv,j,ok,hE,hm,h=>by
  simp only [TA.den] at h
  split at h
  ·cases h
  ·rename_i y hy
   obtain ⟨rs,h3,h4⟩:=zcJ (t:=t) ok.1 hE hm hy
   split at h
   ·rename_i hl
    obtain ⟨g1,g2⟩:=hE.pushT h4
    have hrm:rs.length=mm:=g2.trans hl
    rw [TA.erase,znE h3 hrm]
    exact zbR (t:=k) ok.2 g1 (by simp [hm,hrm]) h
   ·cases h
 | .sub0 σs t mm k,E,ED,m,lv,j,ok,hE,hm,h=>by
  simp only [TA.den] at h
  split at h
  ·rename_i hl
   cases hs:(TA.den t E m [(1,σs)]:Option (Ty.Tup (live σs))) with
   | none=>rw [hs] at h;cases h
   | some z =>
    rw [hs] at h
    obtain ⟨r,h3,h4⟩:=zbR (t:=t) (lv:=[(1,σs)]) ok.1 hE hm hs
    obtain ⟨vs,rfl,h4⟩:=h4
    have g1:=hE.pushL h4.1 h4.2
    have hrm:vs.length=mm:=h4.1.trans hl
    rw [TA.erase,znE h3 hrm]
    exact zbR (t:=k) ok.2 g1 (by simp [hm,hrm]) h
  ·cases h
 | .sub1 σs t mm k,E,ED,m,lv,j,ok,hE,hm,h=>by
  cases lv with
  | nil=>simp [TA.den] at h
  | cons q us =>
   simp only [TA.den] at h
   split at h
   ·rename_i hl
    cases hs:(TA.den t E m ((1,σs)::q::us):Option (Sum (Ty.Tup (live σs)) (J (q::us)))) with
    | none=>rw [hs] at h;cases h
    | some z =>
     rw [hs] at h
     obtain ⟨r,h3,h4⟩:=zbR (t:=t) (lv:=(1,σs)::q::us) ok.1 hE hm hs
     cases z with
     | inl x =>
      obtain ⟨vs,rfl,h4⟩:=h4
      have g1:=hE.pushL h4.1 h4.2
      have hrm:vs.length=mm:=h4.1.trans hl
      rw [TA.erase,znE h3 hrm]
      exact zbR (t:=k) ok.2 g1 (by simp [hm,hrm]) h
     | inr z =>
      have h:some z=some j:=h
      injection h with h;subst h
      obtain ⟨l',b',vs,rfl,h5⟩:=h4.up
      rw [TA.erase,zvo h3]
      exact ⟨_,rfl,h5⟩
   ·cases h
 | .loop σs init b,E,ED,m,lv,j,ok,hE,hm,h=>by
  cases lv with
  | nil=>simp [TA.den] at h
  | cons q us =>
   simp only [TA.den] at h
   split at h
   ·rename_i hi
    split at h
    ·cases h
    ·rename_i x hx
     obtain ⟨ds,h1,h2⟩:=zs7 (k:=2) (τs:=σs) hE hm hx hi.1 hi.2
     obtain ⟨N,hN⟩:=zfn.1 h
     rw [TA.erase,ztz,h1]
     simp only
     have main:∀ N (x:Ty.Tup (live σs)) ds,RlV 2 σs ds x→zj6 (fun s:Ty.Tup (live σs)=>(TA.den b (pushL σs s E) (m + σs.length) ((2,σs)::q::us):Option (Sum (Ty.Tup (live σs)) (J (q::us))))) N x=some j→∃ l' b' vs,ztc cx n C0 b.erase ED ds=some (.jmp (l' + 1) b' vs)∧RJ (q::us) (.jmp l' b' vs) j:=by
      intro N
      induction N with
      | zero=>intro x ds _ h;cases h
      | succ N ih =>
       intro x ds h2 h
       simp only [zj6] at h
       have g1:=hE.pushL h2.1 h2.2
       split at h
       ·cases h
       ·rename_i s' hs
        obtain ⟨r,h3,h4⟩:=zbR (t:=b) (lv:=(2,σs)::q::us) ok g1 (by simp [hm,h2.1]) hs
        obtain ⟨vs,rfl,h4⟩:=h4
        rw [zqo,h3]
        exact ih s' vs h4 h
       ·rename_i r' hs
        obtain ⟨r,h3,h4⟩:=zbR (t:=b) (lv:=(2,σs)::q::us) ok g1 (by simp [hm,h2.1]) hs
        injection h with h;subst h
        obtain ⟨l',b',vs,rfl,h5⟩:=h4.up
        rw [zqo,h3]
        exact ⟨l',b',vs,rfl,h5⟩
     obtain ⟨l',b',vs,h3,h4⟩:=main N x ds h2 hN
     rw [h3]
     exact ⟨_,rfl,h4⟩
   ·cases h
 | .ite c t e,E,ED,m,lv,j,ok,hE,hm,h=>by
  simp only [TA.den] at h
  split at h
  ·cases h
  ·rename_i b hb
   have hb:=zor hE hm hb
   rw [TA.erase,zmC,hb]
   cases b
   ·exact zbR (t:=e) ok.2 hE hm h
   ·exact zbR (t:=t) ok.1 hE hm h
 | .jmp l b as,E,ED,m,lv,j,ok,hE,hm,h=>by
  simp only [TA.den] at h
  obtain ⟨vs,h1,h2⟩:=zsj hE hm h
  exact ⟨.jmp l b vs,by rw [TA.erase,zl1,h1],h2⟩
 | .clone c b e s k,E,ED,m,lv,j,ok,hE,hm,h=>by
  simp only [TA.den] at h
  split at h
  ·cases h
  ·rename_i x hx
   obtain ⟨d,h1,h2⟩:=zqi hE hm hx
   split at h
   ·rename_i hc
    have hc:=Nat.eq_of_beq_eq_true hc
    subst hc
    cases hy:zaD b x with
    | none=>rw [hy] at h;cases h
    | some y =>
     rw [hy] at h
     have hxy:zaO (List.length x) b=true∧x=y:=by
      unfold zaD at hy
      split at hy
      ·rename_i hr
       injection hy with hy
       exact ⟨hr,hy⟩
      ·cases hy
     obtain ⟨hroom,hxy⟩:=hxy
     subst hxy
     have hrun:evL cx n C0 (.prim .isnil [s] (.ite (.v c) (.jmp 0 false [.c .nil]) (.prim (.app b) [.c (.sl []),s] (.jmp 0 false [.v (c + 1)])))) ED=some (.jmp 0 false [d]):=by
      obtain ⟨l,e1,e2⟩:=h2.els
      rw [← e2.length_eq] at hroom
      subst hm
      rcases zba e1 with e1|⟨e1,e1'⟩
      ·subst e1
       rw [zbK (ds:=[.sl l]) (d:=.bool false) (by simp only [gets,h1]) rfl,zmC]
       have hget:(At.v ED.length).get (ED++[.bool false])=some (.bool false):=by simp [At.get]
       rw [hget]
       have h1':s.get (ED++[.bool false])=some (.sl l):=At.get_ext (fun i d h=>get_app h) h1
       have hgg:gets (ED++[.bool false]) [.c (.sl []),s]=some [.sl [],.sl l]:=by
        simp only [gets]
        rw [h1']
        rfl
       have happ:Prim.run (.app b) [.sl [],.sl l]=some (.sl l):=by
        simp only [Prim.run,appD,D.els,List.length_nil,Nat.zero_add,hroom,if_true,List.nil_append]
       rw [zbK (ds:=[.sl [],.sl l]) (d:=.sl l) hgg happ]
       simp only [zl1]
       have hg2:gets (ED++[D.bool false]++[D.sl l]) [.v (ED.length + 1)]=some [D.sl l]:=by simp [gets,At.get]
       rw [hg2]
      ·subst e1
       rw [zbK (ds:=[.nil]) (d:=.bool true) (by simp only [gets,h1]) rfl,zmC]
       have hget:(At.v ED.length).get (ED++[.bool true])=some (.bool true):=by simp [At.get]
       rw [hget,zl1]
       rfl
     rw [TA.erase,znE (m:=1) hrun rfl]
     exact zbR (t:=k) ok (hE.push (v:=⟨.sl e,x⟩) h2) (by simp [hm]) h
   ·cases h
 | .fail _,E,ED,m,lv,j,ok,hE,hm,h=>by simp [TA.den] at h
theorem RE.args {τs:List Ty}{x:Ty.Tup τs}{ds:List D}(h:RlL τs ds x):RE (Go.SX.pushT τs x []) ds∧ds.length=τs.length:=by
 have:=RE.pushT (E:=[]) (ED:=[]) rfl h
 simpa using this
theorem zcf {f:FuncId}{t:TA}{ps rs:List Ty}{sem:Ty.Tup ps→Option (Ty.Tup rs)}(ht:zaE cx n f=some t.erase) (h0:∀ ds,C0 f ds=none) (ok:t.Ok cx n C0)
  (hs:∀ x,sem x=t.den (pushT ps x []) ps.length [(0,rs)]):FnOk cx n C0 f ⟨ps,rs,sem⟩:=by
 intro ds x r hx hr
 obtain ⟨g1,g2⟩:=RE.args hx
 have hr:(TA.den t (pushT ps x []) ps.length [(0,rs)]:Option (Ty.Tup rs))=some r:=(hs x).symm.trans hr
 obtain ⟨r',h3,vs,rfl,h4⟩:=zbR (t:=t) (lv:=[(0,rs)]) ok g1 g2.symm hr
 rw [zpP cx n C0 ht (h0 ds),h3]
 exact ⟨vs,rfl,h4.2⟩
theorem zvu {f:FuncId}{t:TA}{ps rs:List Ty}{sem:Ty.Tup ps→Ty.Tup rs}(ht:zaE cx n f=some t.erase) (h0:∀ ds,C0 f ds=none) (ok:t.Ok cx n C0)
  (hs:∀ x,some (sem x)=t.pden (pushT ps x []) ps.length rs):FnOk cx n C0 f (PnT.fn ⟨ps,rs,sem⟩):=by
 intro ds x r hx hr
 obtain ⟨g1,g2⟩:=RE.args hx
 injection hr with hr
 obtain ⟨vs,h3,h4⟩:=zcJ (t:=t) ok g1 g2.symm (hs x).symm
 rw [zpP cx n C0 ht (h0 ds),h3]
 exact ⟨vs,rfl,by rw [← hr];exact h4⟩
def TA.calls:TA→List (FuncId×FnT)
 | .prim _ _ k=>k.calls
 | .primH _ _ _ k=>k.calls
 | .mkS _ _ k=>k.calls
 | .mkA _ _ _ k=>k.calls
 | .mkL _ _ k=>k.calls
 | .call f fn _ _ k=>(f,fn)::k.calls
 | .callp f fn _ _ k=>(f,fn.fn)::k.calls
 | .subp _ t _ k=>t.calls++k.calls
 | .sub0 _ t _ k=>t.calls++k.calls
 | .sub1 _ t _ k=>t.calls++k.calls
 | .loop _ _ b=>b.calls
 | .ite _ t e=>t.calls++e.calls
 | .clone _ _ _ _ k=>k.calls
 | .jmp ..=>[]
 | .fail _=>[]
def AllOk (cx:Cx) (n:Nat) (C0:FuncId→List D→Option (List D)) (l:List (FuncId×FnT)):Prop:=∀ p∈l,FnOk cx n C0 p.1 p.2
theorem AllOk.nil:AllOk cx n C0 []:=fun _ h=>by cases h
theorem AllOk.cons {f:FuncId}{fn:FnT}{l:List (FuncId×FnT)}(h:FnOk cx n C0 f fn) (hl:AllOk cx n C0 l):AllOk cx n C0 ((f,fn)::l):=fun p hp=>by
 rcases List.mem_cons.1 hp with hp|hp
 ·subst hp;exact h
 ·exact hl p hp
theorem ok_of_all:∀ {t:TA},AllOk cx n C0 t.calls→t.Ok cx n C0
 | .prim _ _ k,h=>ok_of_all (t:=k) h
 | .primH _ _ _ k,h=>ok_of_all (t:=k) h
 | .mkS _ _ k,h=>ok_of_all (t:=k) h
 | .mkA _ _ _ k,h=>ok_of_all (t:=k) h
 | .mkL _ _ k,h=>ok_of_all (t:=k) h
 | .call f fn _ _ k,h=>⟨h (f,fn) List.mem_cons_self,ok_of_all (t:=k) fun p hp=>h p (List.mem_cons_of_mem _ hp)⟩
 | .callp f fn _ _ k,h=>⟨h (f,fn.fn) List.mem_cons_self,ok_of_all (t:=k) fun p hp=>h p (List.mem_cons_of_mem _ hp)⟩
 | .subp _ t _ k,h=>⟨ok_of_all (t:=t) fun p hp=>h p (List.mem_append_left _ hp),ok_of_all (t:=k) fun p hp=>h p (List.mem_append_right _ hp)⟩
 | .sub0 _ t _ k,h=>⟨ok_of_all (t:=t) fun p hp=>h p (List.mem_append_left _ hp),ok_of_all (t:=k) fun p hp=>h p (List.mem_append_right _ hp)⟩
 | .sub1 _ t _ k,h=>⟨ok_of_all (t:=t) fun p hp=>h p (List.mem_append_left _ hp),ok_of_all (t:=k) fun p hp=>h p (List.mem_append_right _ hp)⟩
 | .loop _ _ b,h=>ok_of_all (t:=b) h
 | .ite _ t e,h=>⟨ok_of_all (t:=t) fun p hp=>h p (List.mem_append_left _ hp),ok_of_all (t:=e) fun p hp=>h p (List.mem_append_right _ hp)⟩
 | .clone _ _ _ _ k,h=>ok_of_all (t:=k) h
 | .jmp ..,_=>trivial
 | .fail _,_=>trivial
theorem zbX {t:TA}(l:List (FuncId×FnT)) (h:t.calls=l) (hl:AllOk cx n C0 l):t.Ok cx n C0:=ok_of_all (by rw [h];exact hl)
end
end Go.SX
set_option linter.unusedSimpArgs false
set_option linter.unusedVariables false
namespace Go.SX
def okI (k:IntKind) (n:Int):Prop:=k.min≤n∧n≤k.max
def okS (l:List Int):Prop:=l.length≤maxLen∧∀ b∈l,0≤b∧b<256
def okSl {α:Type}(P:α→Prop) (l:List α):Prop:=l.length≤maxLen∧∀ x∈l,P x
def okAr {α:Type}(n:Nat) (P:α→Prop) (l:List α):Prop:=l.length=n∧∀ x∈l,P x
mutual
def OkT:(τ:Ty)→τ.T→Prop
 | .int k,n=>okI k n
 | .bool,_=>True
 | .str,l=>okS l
 | .sl e,l=>okSl (OkT e) l
 | .arr n e,l=>okAr n (OkT e) l
 | .st ts,x=>OkL ts x
 | .no,_=>True
def OkL:(ts:List Ty)→Ty.Tup ts→Prop
 | [],_=>True
 | a::ts,x=>match ts,x with
  | [],x=>OkT a x
  | b::us,x=>OkT a x.1∧OkL (b::us) x.2
end
mutual
theorem zuF:∀ {τ:Ty}{d:D},Wt τ d→∃ x:τ.T,Rl τ d x∧OkT τ x
 | .int k,d,h=>by
  obtain ⟨n,rfl,h1,h2⟩:=h.toInt
  exact ⟨n,rfl,h1,h2⟩
 | .bool,d,h=>by
  obtain ⟨b,rfl⟩:=h.toBool
  exact ⟨b,rfl,trivial⟩
 | .str,d,h=>by
  obtain ⟨s,rfl,hs⟩:=h.toStr
  refine ⟨za4 s,⟨s,rfl,rfl⟩,by rw [zfo];exact hs,fun b hb=>?_⟩
  unfold za4 at hb
  rw [List.mem_map] at hb
  obtain ⟨u,_,e⟩:=hb
  have:=u.toNat_lt
  omega
 | .sl e,d,h=>by
  rcases h.toSl with rfl|⟨ds,rfl,h1,h2⟩
  ·exact ⟨([]:List e.T),⟨[],rfl,trivial⟩,Nat.zero_le _,fun x hx=>by cases hx⟩
  ·obtain ⟨x,h3,h4⟩:=zs3 h2
   exact ⟨x,⟨ds,rfl,h3⟩,by rw [← h3.length_eq];exact h1,h4⟩
 | .arr n e,d,h=>by
  obtain ⟨ds,rfl,h1,h2⟩:=h.toArr
  obtain ⟨x,h3,h4⟩:=zs3 h2
  exact ⟨x,⟨ds,rfl,h3⟩,by rw [← h3.length_eq];exact h1,h4⟩
 | .st ts,d,h=>by
  obtain ⟨ds,rfl,h1⟩:=h.toSt
  obtain ⟨x,h3,h4⟩:=zrT h1
  exact ⟨x,⟨ds,rfl,h3⟩,h4⟩
 | .no,d,h=>⟨(),by simp only [Rl],trivial⟩
theorem zs3:∀ {e:Ty}{ds:List D},WtA e ds→∃ x:List e.T,All2 (Rl e) ds x∧∀ y∈x,OkT e y
 | e,[],_=>⟨[],trivial,fun y hy=>by cases hy⟩
 | e,d::ds,h=>by
  obtain ⟨x,h1,h2⟩:=zuF h.1
  obtain ⟨xs,h3,h4⟩:=zs3 h.2
  refine ⟨x::xs,⟨h1,h3⟩,fun y hy=>?_⟩
  rcases List.mem_cons.1 hy with hy|hy
  ·subst hy;exact h2
  ·exact h4 y hy
theorem zrT:∀ {ts:List Ty}{ds:List D},WtL ts ds→∃ x:Ty.Tup ts,RlL ts ds x∧OkL ts x
 | [],ds,h=>by
  have:=h.toNil
  subst this
  exact ⟨(),rfl,trivial⟩
 | [a],ds,h=>by
  obtain ⟨d,l,rfl,h1,h2⟩:=h.toCons
  have:=h2.toNil
  subst this
  obtain ⟨x,h3,h4⟩:=zuF h1
  exact ⟨x,⟨d,rfl,h3⟩,h4⟩
 | a::b::us,ds,h=>by
  obtain ⟨d,l,rfl,h1,h2⟩:=h.toCons
  obtain ⟨x,h3,h4⟩:=zuF h1
  obtain ⟨xs,h5,h6⟩:=zrT h2
  exact ⟨(x,xs),⟨d,l,rfl,h3,h5⟩,h4,h6⟩
end
theorem zvp {cx:Cx}{n:Nat}{C0:FuncId→List D→Option (List D)}{f:FuncId}{fn:Func}{ps:List Ty}{sem:Ty.Tup ps→Option Bool}(ok:FnOk cx n C0 f ⟨ps,[.bool],sem⟩) (hp:zaH cx fn=ps) (h:∀ x,OkL ps x→sem x=some true) :
  ∀ Ds,WtL (zaH cx fn) Ds→∃ k d,zdM cx k n C0 d f Ds=some [.bool true]:=by
 intro Ds hD
 subst hp
 obtain ⟨x,h1,h2⟩:=zrT hD
 obtain ⟨rs,h3,h4⟩:=ok Ds x true h1 (h x h2)
 obtain ⟨d,rfl,h4⟩:=h4
 have h4:d=.bool true:=h4
 subst h4
 exact (zdX cx n C0).1 h3
theorem zdE {n:Int}(h1:-9223372036854775808≤n) (h2:n≤9223372036854775807):w64 n=n:=by
 unfold w64 IntKind.wrap
 simp only [IntKind.signed,IntKind.bits,Bool.true_and,decide_eq_true_eq,Nat.reduceSub,Int.reducePow,ge_iff_le]
 split<;>omega
theorem zs5 {n b:Nat}(h1:n * b≤17592186044416) (h2:n≤17592186044416):zaO n b=true:=by simp [zaO,h1,h2]
theorem ztJ {α:Type}(l:List α) (i:Nat):getO l (i:Int)=l[i]?:=by simp [getO]
theorem zr0 {α:Type}{l:List α}{i:Int}{v:α}(h0:0≤i) (h:i<l.length):setO l i v=some (l.set i.toNat v):=by simp [setO,h0,h]
theorem zsf {n i:Int}(h0:0≤i) (h:i<n):idxO n i=some i:=by simp [idxO,h0,h]
theorem zux {α:Type}{l:List α}{lo hi:Int}(h0:0≤lo) (h1:lo≤hi) (h2:hi≤l.length):subO l lo hi=some ((l.take hi.toNat).drop lo.toNat):=by simp [subO,h0,h1,h2]
theorem zuG {α:Type}{b:Nat}{s x:List α}(h:zaO (s.length + x.length) b=true):appO b s x=some (s++x):=by simp [appO,h]
theorem zse {α:Type}{b:Nat}{s:List α}(h:zaO s.length b=true):zaD b s=some s:=by simp [zaD,h]
theorem zur {α:Type}{z:α}{b:Nat}{n c:Int}(h0:0≤n) (h1:n≤c) (h:zaO c.toNat b=true):repO z b n c=some (List.replicate n.toNat z):=by simp [repO,h0,h1,h]
theorem zjL {S R:Type}{f:S→Option (S⊕R)}{s s':S}(h:f s=some (.inl s')):zaA f s=zaA f s':=by rw [zqc,h]
theorem ziQ {S R:Type}{f:S→Option (S⊕R)}{s:S}{r:R}(h:f s=some (.inr r)):zaA f s=some r:=by rw [zqc,h]
theorem zrr {S R:Type}{f:S→Option (S⊕R)}(I:S→Prop) (μ:S→Nat) (Q:R→Prop)
  (step:∀ s,I s→(∃ s',f s=some (.inl s')∧I s'∧μ s'<μ s)∨∃ r,f s=some (.inr r)∧Q r):∀ {s:S},I s→∃ r,zaA f s=some r∧Q r:=by
 have main:∀ n s,μ s≤n→I s→∃ r,zaA f s=some r∧Q r:=by
  intro n
  induction n with
  | zero =>
   intro s hn hi
   rcases step s hi with ⟨s',h1,h2,h3⟩|⟨r,h1,h2⟩
   ·omega
   ·exact ⟨r,ziQ h1,h2⟩
  | succ n ih =>
   intro s hn hi
   rcases step s hi with ⟨s',h1,h2,h3⟩|⟨r,h1,h2⟩
   ·rw [zjL h1];exact ih s' (by omega) h2
   ·exact ⟨r,ziQ h1,h2⟩
 intro s hi
 exact main _ s (wG0 _) hi
theorem zuv {S R:Type}{f:S→Option (S⊕R)}(st:Nat→S) {m:Nat}:∀ {n:Nat},n≤m→(∀ i,n≤i→i<m→f (st i)=some (.inl (st (i + 1))))→zaA f (st n)=zaA f (st m):=by
 have main:∀ k n,m - n=k→n≤m→(∀ i,n≤i→i<m→f (st i)=some (.inl (st (i + 1))))→zaA f (st n)=zaA f (st m):=by
  intro k
  induction k with
  | zero =>
   intro n h1 h2 _;have:n=m:=by omega
   rw [this]
  | succ k ih =>
   intro n h1 h2 h
   rw [zjL (h n (wG0 _) (by omega))]
   exact ih (n + 1) (by omega) (by omega) fun i h3 h4=>h i (by omega) h4
 intro n h1 h2
 exact main _ n rfl h1 h2
theorem zl2 (p:Nat→Bool):∀ n:Nat,(∀ i,i<n→p i=true)∨∃ i,i<n∧p i=false∧∀ j,j<i→p j=true
 | 0=>.inl fun i h=>by omega
 | n + 1=>by
  rcases zl2 p n with h|⟨i,h1,h2,h3⟩
  ·cases hn:p n with
   | true =>
    refine .inl fun i hi=>?_
    rcases Nat.lt_or_ge i n with h4|h4
    ·exact h i h4
    ·have:i=n:=by omega
     rw [this];exact hn
   | false=>exact .inr ⟨n,Nat.lt_succ_self _,hn,h⟩
  ·exact .inr ⟨i,by omega,h2,h3⟩
end Go.SX
